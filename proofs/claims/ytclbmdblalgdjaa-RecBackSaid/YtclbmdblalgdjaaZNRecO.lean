/- Package rec: Put: what it tells and turns; no condition. -/
import Derived.Test.YtclbmdblalgdjaaZNRecA
import Derived.Test.YtclbmdblalgdjaaZNRNormM
import Derived.Test.YtclbmdblalgdjaaZNRecPl
import Derived.Laws.EntriesVeiled
import Derived.Deep.CutBlock
import Derived.Deep.CutRange
import Derived.Test.YtclbmdblalgdjaaZNPEx11
import Derived.Test.YtclbmdblalgdjaaZNPEx4
import Derived.Test.YtclbmdblalgdjaaZNLaw15B
import Derived.Test.YtclbmdblalgdjaaZNPEx10
import Derived.Test.YtclbmdblalgdjaaZNGetsW
import Derived.Test.YtclbmdblalgdjaaZNRMet
import Derived.Test.YtclbmdblalgdjaaZNInjV
namespace Go.Proofs.Ytclbmdblalgdjaa
open Go.RowKit Go.Proofs.YtclbmdblalgdjaaW.PrintWords Go.Proofs.YtclbmdblalgdjaaW.PrintLast Go.Proofs.YtclbmdblalgdjaaW.PrintMore Go.Proofs.Ytclbmdblalgdjaa.PE
set_option linter.unusedVariables false
set_option linter.unusedSimpArgs false
theorem R_apps_g {ops : Array Oper} {rest : List Oper} {o : Oper} {a : Act} {Q : Exit → Act → World → Prop} {W : World} {base : Nat} {s x : Operand} {t : TypeId} {v : Value} {xs ys : List Int} {A : Option Addr} {m c : Nat} (hgd : o.guard = none)
  (ho : o.op = .call { callee := .builtin .append, args := #[s, x], argTypes := #[t, t] }) (hs : a.eval s = v) (hx : a.eval x = .slice A m c)
  (ht : Try.prog.underlying t = some (.slice 5))
  (HO : (Kd.int .u8).R 5 W base (fun _ => True) v xs) (HR : (Kd.int .u8).C W A m ys) (hb : base ≤ W.heap.size) (hl : xs.length + m ≤ 140737488355328)
  (h : ∀ v1 w1, (Kd.int .u8).R 5 w1 base (fun _ => True) v1 (xs ++ ys) → W.grownBy w1 v.ownBlock → wpList Try.prog ops Q rest (a.put o.dst v1) w1) :
  wpList Try.prog ops Q (o :: rest) a W := by
 refine Kd.R_append_rows (Kd.int .u8) (Rr := (Kd.int .u8).K W) (w0 := W) base hgd s x t 5 (.int .u8 0) 1 ho ht iB rfl (by decide) (by omega) v xs ys A m c (fun _ => True) (fun _ => False) hs hx HO HR (fun x cs h => h) (fun _ hk => hk.elim) (fun _ _ => trivial) ((Below.refl _ _).mono hb) hb (by omega) ?_
 intro v1 w1 ho hb hg _
 exact h v1 w1 ho hg
structure MetF (okm : Nat → Prop) (m : MetS) (Av : Option Addr) (cv : Nat) (At : Option Addr) (ct : Nat) (W : World) : Prop where
 v : Kd.F k48 W okm Av m.f2.length m.f2
 vc : m.f2.length ≤ cv
 t : Kd.F k81 W okm At m.f4.length m.f4
 tc : m.f4.length ≤ ct
 wi : metIn m = true
section
variable {okm : Nat → Prop} {m : MetS} {Av At : Option Addr} {cv ct : Nat} {W W1 : World} {S : Nat → Prop}
theorem MetF.step (h : MetF okm m Av cv At ct W) (hc : Chg S W W1) (hs : ∀ k, S k → ¬ okm k) : MetF okm m Av cv At ct W1 :=
 ⟨Foot.step h.v (fun k hk hl => hc.block k hl (fun e => hs k e hk)), h.vc, Foot.step h.t (fun k hk hl => hc.block k hl (fun e => hs k e hk)), h.tc, h.wi⟩
theorem MetF.below (h : MetF okm m Av cv At ct W) (hb : Below W.heap.size W W1) : MetF okm m Av cv At ct W1 := h.step (Chg.of_below hb (fun _ => False)) (fun _ h => h.elim)
theorem MetF.metC (h : MetF okm m Av cv At ct W) : MetC m Av cv At ct W := PE.metC_of (Kd.F_now h.v) h.vc (Kd.F_now h.t) h.tc h.wi
end
structure PS (okm : Nat → Prop) (d : Dic) (b3 b7 b8 b9 : Nat) (m : MetS) (Av : Option Addr) (cv : Nat) (At : Option Addr) (ct : Nat) (v : Value) (ws : List ByteArray) (x : Value) (l : List Int) (w W : World) : Prop where
 dic : DicAt ⟨d.g, d.gm, v, ws⟩ W
 chg : Chg d.F w W
 nx : v.ownBlock = d.v.ownBlock ∨ ∃ k, v.ownBlock = some k ∧ w.heap.size ≤ k
 mf : MetF okm m Av cv At ct W
 k3 : W.heap[b3]? = some (.cells #[.string m.f0, .int .i64 m.f1, .slice Av m.f2.length cv, .int .i64 m.f3, .slice At m.f4.length ct, .int .i64 m.f5] 26 (0, 0))
 k7 : W.heap[b7]? = some (.cells #[x] 34 (0, 0))
 k8 : W.heap[b8]? = some (.cells #[.int .i64 0] 35 (0, 0))
 k9 : W.heap[b9]? = some (.cells #[.func (.func 39) #[] #[.pointer (some ⟨b8, 0, none⟩), .pointer (some ⟨b7, 0, none⟩)]] 85 (0, 0))
 r : (Kd.int .u8).R 5 W w.heap.size (fun _ => True) x l
 l7 : w.heap.size ≤ b7
 l8 : w.heap.size ≤ b8
 ap : ∀ k, okm k → ¬ d.F k
 lo : ∀ k, okm k → k < w.heap.size
theorem blk_ne2 {W : World} {a b t1 t2 : Nat} {c1 c2 : Array Value} (h1 : W.heap[a]? = some (.cells c1 t1 (0, 0))) (h2 : W.heap[b]? = some (.cells c2 t2 (0, 0))) (h : t1 ≠ t2) : a ≠ b := by
 rintro rfl
 rw [h1] at h2
 injection h2 with h2
 injection h2 with _ h2
 exact h h2
structure PutEnd (b7 b8 : Nat) (x : Value) (base : Nat) (l : List Int) (W W' : World) (x' : Value) : Prop where
 r : (Kd.int .u8).R 5 W' base (fun _ => True) x' l
 k7 : W'.heap[b7]? = some (.cells #[x'] 34 (0, 0))
 k8 : W'.heap[b8]? = some (.cells #[.int .i64 0] 35 (0, 0))
 chg : Chg (fun k => (k = b7 ∨ k = b8) ∨ some k = x.ownBlock) W W'
set_option maxHeartbeats 4000000 in
set_option maxRecDepth 100000 in
theorem putcl_calls (b7 b8 : Nat) (x : Value) (l ys : List Int) (A : Option Addr) (mm c base base2 : Nat) (W : World) (h7 : W.heap[b7]? = some (.cells #[x] 34 (0, 0))) (h8 : W.heap[b8]? = some (.cells #[.int .i64 0] 35 (0, 0))) (hR : (Kd.int .u8).R 5 W base (fun _ => True) x l) (hY : (Kd.int .u8).R 5 W base2 (fun _ => True) (.slice A mm c) ys) (hb : base ≤ W.heap.size) (hl : l.length + mm ≤ 140737488355328) :
  Calls Try.prog 39 #[.slice A mm c, .int .i64 0, .pointer (some ⟨b8, 0, none⟩), .pointer (some ⟨b7, 0, none⟩)] W fun e W' => e = .returned (.tuple #[]) ∧ ∃ x', PutEnd b7 b8 x base (l ++ ys) W W' x' := by
 have H7 := Aside0.mk h7
 have H8 := Aside0.mk h8
 have HR := Aside0.mk hR
 have HYY := Aside0.mk hY
 have HB := Aside0.mk hb
 have HL := Aside0.mk hl
 obtain ⟨Ax, nx, cx, ex⟩ : ∃ A n c, x = .slice A n c := by obtain ⟨A, c, h⟩ := Kd.R_slice hR; exact ⟨A, _, c, h⟩
 subst ex
 have hne : b7 ≠ b8 := blk_ne2 h7 h8 (by decide)
 have z8 : W.cell? ⟨b8, 0, none⟩ = some (.int .i64 0) := (blk_cell h8 0).trans rfl
 have f8 := blk_frozen h8 0
 have n7 := Aside0.mk (blk_far (p := ⟨b8, 0, none⟩) h7 hne (.int .i64 0))
 have n8 : Aside0 ((W.setCell ⟨b8, 0, none⟩ (.int .i64 0)).heap[b8]? = some (.cells #[.int .i64 0] 35 (0, 0))) := ⟨(blk_put h8 0 (.int .i64 0) rfl).trans rfl⟩
 have nc := Aside0.mk ((Chg.refl (fun k => k = b8) W).set1 0 (.int .i64 0))
 have hxb : some b8 ≠ (Value.slice Ax nx cx).ownBlock := Kd.R_ne hR h8 (by decide)
 have nr : Aside0 ((Kd.int .u8).R 5 (W.setCell ⟨b8, 0, none⟩ (.int .i64 0)) base (fun _ => True) (.slice Ax nx cx) l) := ⟨Kd.R_mono (Kd.R_step (Kd.R_tight rfl hR) (fun k hk hl => Below.heap_setCell W ⟨b8, 0, none⟩ _ k (fun e => hxb (by rw [← show k = b8 from e]; exact hk)))) (fun _ _ => trivial)⟩
 have hyb : some b8 ≠ (Value.slice A mm c).ownBlock := Kd.R_ne hY h8 (by decide)
 have nC : Aside0 ((Kd.int .u8).C (W.setCell ⟨b8, 0, none⟩ (.int .i64 0)) A mm ys) := ⟨by
  have h := Kd.R_reads' (Kd.R_step (Kd.R_tight rfl hY) (fun k hk hl => Below.heap_setCell W ⟨b8, 0, none⟩ (.int .i64 0) k (fun e => hyb (by rw [← show k = b8 from e]; exact hk))))
  rw [← h.1] at h
  exact h.2.2⟩
 have HNE := Aside0.mk hne
 generalize hw1 : W.setCell ⟨b8, 0, none⟩ (.int .i64 0) = w1 at n7 n8 nc nr nC
 have z7 : w1.cell? ⟨b7, 0, none⟩ = some (.slice Ax nx cx) := (blk_cell n7.out 0).trans rfl
 have HSZ := Aside0.mk (show base ≤ w1.heap.size from Nat.le_trans hb nc.out.size)
 clear h7 h8 hR hY hb hl hne hxb hyb
 go_enter Try.func39, Try.ntmps39
 go_wp2_with (first | ((with_reducible refine gate_builtin (b := .append) (xs := #[.tmp 9, .tmp 10]) rfl ?_); at_builtin; go_must (refine R_apps_g rfl rfl rfl rfl uB nr.out nC.out HSZ.out HL.out ?_); intro y w2 hy hg; (obtain ⟨Ay, ny, cy, hye⟩ : ∃ A n c, y = .slice A n c := by obtain ⟨A, c, h⟩ := Kd.R_slice hy; exact ⟨A, _, c, h⟩); subst hye; have HY := Aside0.mk hy; have HG := Aside0.mk hg; have q7 := Aside0.mk ((hg.block b7 (blk_lt n7.out) (Kd.R_ne nr.out n7.out (by decide))).trans n7.out); have q8 := Aside0.mk ((hg.block b8 (blk_lt n8.out) (Kd.R_ne nr.out n8.out (by decide))).trans n8.out); clear hy hg z7 z8 f8 hw1; have y7 : w2.cell? ⟨b7, 0, none⟩ = some (.slice Ax nx cx) := (blk_cell q7.out 0).trans rfl; have g7 := blk_frozen q7.out 0))
 go_end0
 refine ⟨rfl, _, ?_, (blk_put q7.out 0 _ rfl).trans rfl, blk_far (p := ⟨b7, 0, none⟩) q8.out (fun e => HNE.out e.symm) _, ?_⟩
 ·exact Kd.R_mono (Kd.R_step (Kd.R_tight rfl HY.out) (fun k hk hl => Below.heap_setCell w2 ⟨b7, 0, none⟩ _ k (fun e => (Kd.R_ne HY.out q7.out (by decide)) (by rw [← show k = b7 from e]; exact hk)))) (fun _ _ => trivial)
 ·refine (((nc.out.mono (fun k _ h => Or.inl (Or.inr h))).trans (Chg.of_grown HG.out (S := fun k => some k = (Value.slice Ax nx cx).ownBlock) (fun k hk => hk.symm)) (fun k h => .inl (.inr h))).trans ((Chg.refl (fun k => k = b7) w2).set1 0 _) (fun k h => .inl (.inl (.inl h))))
section
variable {okm : Nat → Prop} {d : Dic} {b3 b7 b8 b9 : Nat} {m : MetS} {Av At : Option Addr} {cv ct : Nat} {v x : Value} {ws : List ByteArray} {l ys : List Int} {w W W' : World}
theorem PS.below (h : PS okm d b3 b7 b8 b9 m Av cv At ct v ws x l w W) (hb : Below W.heap.size W W') : PS okm d b3 b7 b8 b9 m Av cv At ct v ws x l w W' :=
 ⟨h.dic.below hb, h.chg.below hb, h.nx, h.mf.below hb, blk_below h.k3 hb, blk_below h.k7 hb, blk_below h.k8 hb, blk_below h.k9 hb, Kd.R_below h.r hb, h.l7, h.l8, h.ap, h.lo⟩
theorem PS.drew (h : PS okm d b3 b7 b8 b9 m Av cv At ct v ws x l w W) : PS okm d b3 b7 b8 b9 m Av cv At ct v ws x l w W.drew := h.below (below_drew1 (Below.refl _ _))
theorem PS.alloc (h : PS okm d b3 b7 b8 b9 m Av cv At ct v ws x l w W) (o : Obj) : PS okm d b3 b7 b8 b9 m Av cv At ct v ws x l w (W.alloc o) := h.below (below_alloc (Below.refl _ _) o)
theorem dic_blk {dd : Dic} {b t : Nat} {cells : Array Value} (h2 : t ≠ 93) (h3 : t ≠ 9) (hd : DicAt dd W) (hg : Chg dd.F W W') (hb : W.heap[b]? = some (.cells cells t (0, 0))) : W'.heap[b]? = some (.cells cells t (0, 0)) :=
 (hg.block b (blk_lt hb) (hd.nblk hb h2 h3)).trans hb
def KeepB (W W' : World) : Prop := ∀ (b t : Nat) (cells : Array Value), t ∉ [34, 35, 5, 93, 9] → W.heap[b]? = some (.cells cells t (0, 0)) → W'.heap[b]? = some (.cells cells t (0, 0))
theorem PS.put2 (h : PS okm d b3 b7 b8 b9 m Av cv At ct v ws x l w W) {s : ByteArray} (hs : s.size ≤ 140737488350000) :
  Calls Try.prog 35 #[.pointer (some ⟨d.g, 0, none⟩), .string s] W fun e W' => ∃ A c v', e = .returned (.tuple #[.slice A (dput ws s).1.length c, .int .i64 (dput ws s).2.1]) ∧ (Kd.int .u8).R 5 W' w.heap.size (fun _ => True) (.slice A (dput ws s).1.length c) (dput ws s).1 ∧ PS okm d b3 b7 b8 b9 m Av cv At ct v' (dput ws s).2.2 x l w W' ∧ KeepB W W' := by
 refine (dicput_calls ⟨d.g, d.gm, v, ws⟩ s W h.dic hs).mono ?_
 rintro e W' ⟨y, rfl, hR, v', hd, hc, hn⟩
 obtain ⟨A, c, rfl, _⟩ := Kd.R_reads hR
 have hF2 : ∀ k, (⟨d.g, d.gm, v, ws⟩ : Dic).F k → d.F k ∨ w.heap.size ≤ k := DTurn.next h.nx
 refine ⟨A, c, v', rfl, Kd.R_lower hR h.chg.size, ⟨hd, h.chg.trans hc hF2, ?_, h.mf.step hc (fun k hk ho => (hF2 k hk).elim (h.ap k ho) (fun hl => by have := h.lo k ho; omega)), dic_blk (by decide) (by decide) h.dic hc h.k3, dic_blk (by decide) (by decide) h.dic hc h.k7, dic_blk (by decide) (by decide) h.dic hc h.k8, dic_blk (by decide) (by decide) h.dic hc h.k9, row_turn h.dic h.r hc, h.l7, h.l8, h.ap, h.lo⟩, fun b t cells ht hb => dic_blk (fun e => ht (by rw [e]; decide)) (fun e => ht (by rw [e]; decide)) h.dic hc hb⟩
 rcases hn with hn | ⟨k, hk, hl⟩
 ·rcases h.nx with ho | ⟨j, hj, hl⟩
  ·exact .inl (hn.trans ho)
  ·exact .inr ⟨j, hn.trans hj, hl⟩
 ·exact .inr ⟨k, hk, Nat.le_trans h.chg.size hl⟩
theorem PS.app2 (h : PS okm d b3 b7 b8 b9 m Av cv At ct v ws x l w W) {A : Option Addr} {mm c base2 : Nat} (hY : (Kd.int .u8).R 5 W base2 (fun _ => True) (.slice A mm c) ys) (hl : l.length + mm ≤ 140737488355328) :
  Calls Try.prog 39 #[.slice A mm c, .int .i64 0, .pointer (some ⟨b8, 0, none⟩), .pointer (some ⟨b7, 0, none⟩)] W fun e W' => e = .returned (.tuple #[]) ∧ ∃ x', PS okm d b3 b7 b8 b9 m Av cv At ct v ws x' (l ++ ys) w W' ∧ KeepB W W' := by
 refine (putcl_calls b7 b8 x l ys A mm c w.heap.size base2 W h.k7 h.k8 h.r hY h.chg.size hl).mono ?_
 rintro e W' ⟨rfl, x', hE⟩
 have hS : ∀ k, ((k = b7 ∨ k = b8) ∨ some k = x.ownBlock) → w.heap.size ≤ k := by
  rintro k ((e | e) | e)
  ·rw [e]; exact h.l7
  ·rw [e]; exact h.l8
  ·exact Kd.R_base h.r k e.symm
 have hN : ∀ {b t : Nat} {cells : Array Value}, W.heap[b]? = some (.cells cells t (0, 0)) → t ≠ 34 → t ≠ 35 → t ≠ 5 → ¬ ((b = b7 ∨ b = b8) ∨ some b = x.ownBlock) := by
  rintro b t cells hb t1 t2 t3 ((e | e) | e)
  ·exact blk_ne2 hb h.k7 t1 e
  ·exact blk_ne2 hb h.k8 t2 e
  ·exact Kd.R_ne h.r hb (fun e2 => t3 e2.symm) e
 refine ⟨rfl, x', ⟨h.dic.step hE.chg ?_, h.chg.trans hE.chg (fun k hk => .inr (hS k hk)), h.nx, h.mf.step hE.chg (fun k hk ho => by have := hS k hk; have := h.lo k ho; omega), (hE.chg.block b3 (blk_lt h.k3) (hN h.k3 (by decide) (by decide) (by decide))).trans h.k3, hE.k7, hE.k8, (hE.chg.block b9 (blk_lt h.k9) (hN h.k9 (by decide) (by decide) (by decide))).trans h.k9, hE.r, h.l7, h.l8, h.ap, h.lo⟩, fun b t cells ht hb => (hE.chg.block b (blk_lt hb) (hN hb (fun e => ht (by rw [e]; decide)) (fun e => ht (by rw [e]; decide)) (fun e => ht (by rw [e]; decide)))).trans hb⟩
 rintro k hF ((e | e) | e)
 ·exact h.dic.nblk h.k7 (by decide) (by decide) (e ▸ hF)
 ·exact h.dic.nblk h.k8 (by decide) (by decide) (e ▸ hF)
 ·obtain ⟨cells, hb⟩ := Kd.R_typed h.r k e.symm
  exact h.dic.nblk hb (by decide) (by decide) hF
theorem PS.app (h : PS okm d b3 b7 b8 b9 m Av cv At ct v ws x l w W) {A : Option Addr} {mm c base2 : Nat} (hY : (Kd.int .u8).R 5 W base2 (fun _ => True) (.slice A mm c) ys) (hl : l.length + mm ≤ 140737488355328) :
  Calls Try.prog 39 #[.slice A mm c, .int .i64 0, .pointer (some ⟨b8, 0, none⟩), .pointer (some ⟨b7, 0, none⟩)] W fun e W' => e = .returned (.tuple #[]) ∧ ∃ x', PS okm d b3 b7 b8 b9 m Av cv At ct v ws x' (l ++ ys) w W' :=
 (h.app2 hY hl).mono (fun e W' ⟨a1, x', a2, _⟩ => ⟨a1, x', a2⟩)
end
theorem goesW_ {P : Program} {ops : Array Oper} {Q : Exit → Act → World → Prop} {oi : Oper} {N : Option Tmp} {a : Act} {w : World} {K : Act → World → Prop} {f : FuncId} {fn : Func} {ops1 : Array Operand} {ts : Array TypeId} {x : Operand} {caps : Array Value} (hf : P.funcs[f]? = some fn) (hname : (fn.name == "runtime.NumGoroutine") = false) (hb : fn.body.isSome = true) (args : Array Value)
  (hw : Region.wanted oi (yielded ops a.tmps) = true) (hN : oi.dst = N) (hop : oi.op = .call { callee := .value x, args := ops1, argTypes := ts }) (hx : a.eval x = .func (.func f) #[] caps) (hargs : ops1.map a.eval ++ caps = args)
  (h : Calls P f args w fun e w' => ∃ v, e = .returned v ∧ K (a.put N v) w') : if Region.wanted oi (yielded ops a.tmps) = true then Oper.wp P oi a w K Q else K (a.put N undef) w := by
 refine call_ f args hw hN ?_ h
 have he := enters_ hf hname hb args w
 unfold execOp
 simp [hop, resolve, Deferred.ofValue, invoke, hx, hargs, he]
set_option maxHeartbeats 4000000 in
set_option maxRecDepth 100000 in
theorem PS.num {okm : Nat → Prop} {d : Dic} {b3 b7 b8 b9 : Nat} {m : MetS} {Av At : Option Addr} {cv ct : Nat} {v x : Value} {ws : List ByteArray} {l : List Int} {w W : World} (h : PS okm d b3 b7 b8 b9 m Av cv At ct v ws x l w W) (n : Int) (hn : 0 ≤ n ∧ n < 9223372036854775808) (hl : l.length + 10 ≤ 140737488355328) :
  Calls Try.prog 40 #[.int .i64 n, .pointer (some ⟨b9, 0, none⟩)] W fun e W' => e = .returned (.tuple #[]) ∧ ∃ x', PS okm d b3 b7 b8 b9 m Av cv At ct v ws x' (l ++ vput n.toNat) w W' := by
 obtain ⟨k, rfl⟩ := Int.eq_ofNat_of_zero_le hn.1
 rw [Int.toNat_natCast]
 obtain ⟨n, hnk⟩ : ∃ n : Int, n = (k : Int) := ⟨_, rfl⟩
 rw [← hnk]
 have H := Aside0.mk h
 have HK := Aside0.mk hnk
 have HL := Aside0.mk hl
 have e1 : IntKind.u64.wrap n = n := IntWalk.u64_in _ (by omega)
 have HPUT : Aside0 (Calls Try.prog 41 #[.int .u64 n] W.drew fun e w' => ∃ v, e = .returned v ∧ (Kd.int .u8).R 5 w' W.drew.heap.size (fun _ => True) v (vput k) ∧ Below W.drew.heap.size W.drew w') := ⟨by rw [hnk]; exact put_calls k (by omega) W.drew⟩
 have HVL := Aside0.mk (vput_len10 k (by omega))
 clear h hn hl hnk
 go_enter Try.func40, Try.ntmps40
 go_wp2
 refine start_ (n := 5) (S := fun w' => w'.cell? ⟨b9, 0, none⟩ = some (.func (.func 39) #[] #[.pointer (some ⟨b8, 0, none⟩), .pointer (some ⟨b7, 0, none⟩)])) (ds := []) #[false, false, false, false, false] (by kernel_rfl) rfl rfl ((blk_cell H.out.drew.k9 0).trans rfl) (fun hHeld => ?_)
 refine pure_ (i := 1) (N := some 4) (v := ?_) (a' := ?_) #[false, true, false, false, false] rfl rfl (by kernel_rfl) (fun _ _ _ h => h) (Or.inl ⟨by rfl, ?_⟩) ?_ ?_
 rotate_left
 ·intro w'
  go_simp
  with_reducible rfl
 rotate_left
 ·simp only [Act.put, List.setIfInBounds_toArray, List.set_cons_zero, List.set_cons_succ, i64_w, i32_w]
  rfl
 refine pure_ (i := 2) (N := some 5) (v := ?_) (a' := ?_) #[false, true, true, false, false] rfl rfl (by kernel_rfl) (fun _ _ _ h => h) (Or.inl ⟨by rfl, ?_⟩) ?_ ?_
 rotate_left
 ·intro w'
  go_simp
  with_reducible rfl
 rotate_left
 ·simp only [Act.put, List.setIfInBounds_toArray, List.set_cons_zero, List.set_cons_succ, i64_w, i32_w]
  rfl
 refine take_ (i := 0) (N := some 3) (v := ?_) (a' := ?_) #[true, true, true, false, false] rfl rfl (by kernel_rfl) (fun _ _ _ h => h) (Or.inl ⟨by rfl, ?_⟩) hHeld ?_ ?_
 rotate_left
 ·intro w' s0
  go_simp
  with_reducible rfl
 rotate_left
 ·simp only [Act.put, List.setIfInBounds_toArray, List.set_cons_zero, List.set_cons_succ, i64_w, i32_w]
  rfl
 refine one_ (i := 3) (N := some 6) #[true, true, true, true, false] rfl rfl (by kernel_rfl) (by decide) (fun K hK => ?_)
 refine goes_ Try.func41 (by kernel_rfl) rfl #[.int .u64 n] (by rfl) rfl rfl (by first | (simp only [List.map_toArray, List.map_cons, List.map_nil]; done) | (simp only [List.map_toArray, List.map_cons, List.map_nil]; rfl) | simp) ?_
 with_reducible refine (HPUT.out).mono ?_
 rintro e wA ⟨vv, rfl, hv, hb⟩
 have HA := Aside0.mk (H.out.drew.below hb)
 obtain ⟨Ay, cy, rfl, _⟩ := Kd.R_reads hv
 have HY := Aside0.mk hv
 clear hb hv
 refine ⟨_, rfl, ?_⟩
 refine hK.out _ _ ((blk_cell HA.out.k9 0).trans rfl) (fun hHeld => ?_)
 clear hK K
 refine norm_ (a' := ?_) ?_ ?_
 rotate_left
 ·show Act.put _ (some 6) _ = _
  simp only [Act.put, List.setIfInBounds_toArray, List.set_cons_zero, List.set_cons_succ, i64_w, i32_w]
  rfl
 refine one_ (i := 4) (N := some 7) #[true, true, true, true, true] rfl rfl (by kernel_rfl) (by decide) (fun K hK => ?_)
 refine goesW_ Try.func39 (by kernel_rfl) rfl #[.slice Ay (vput k).length cy, .int .i64 0, .pointer (some ⟨b8, 0, none⟩), .pointer (some ⟨b7, 0, none⟩)] (by rfl) rfl rfl (by rfl) (by simp only [List.map_toArray, List.map_cons, List.map_nil]; rfl) ?_
 refine (HA.out.app HY.out (by have := HVL.out; have := HL.out; omega)).mono ?_
 rintro e wB ⟨rfl, x', hp⟩
 have HB := Aside0.mk hp
 clear hp
 refine ⟨_, rfl, ?_⟩
 refine hK.out _ _ ((blk_cell HB.out.k9 0).trans rfl) (fun hHeld => ?_)
 clear hK K
 refine norm_ (a' := ?_) ?_ ?_
 rotate_left
 ·show Act.put _ (some 7) _ = _
  simp only [Act.put, List.setIfInBounds_toArray, List.set_cons_zero, List.set_cons_succ, i64_w, i32_w]
  rfl
 refine done_ (by kernel_rfl) ?_
 go_end0
 exact ⟨rfl, x', HB.out⟩
/-! The plain side. -/
theorem vputf (n : Nat) (h : n < 18446744073709551616) : varint_Put.f (n : Int) = some (vput n) := by
 unfold varint_Put.f
 rw [if_pos (by omega), Int.toNat_natCast]
theorem vputf2 {n : Int} (h : 0 ≤ n ∧ n < 18446744073709551616) : varint_Put.f n = some (vput n.toNat) := if_pos h
theorem putdec_f (x : DecS) (hi : decIn x = true) : rec_PutDec.f x.f0 x.f1 x.f2 = some (if decBad x.f0 x.f1 x.f2 = 0 then (pdec x, 0) else ([], decBad x.f0 x.f1 x.f2)) := by
 unfold decIn at hi
 simp only [Bool.and_eq_true, decide_eq_true_eq] at hi
 unfold rec_PutDec.f dec_Check.f
 rw [if_pos hi.1, Option.bind_some]
 by_cases h : decBad x.f0 x.f1 x.f2 = 0
 ·rw [if_pos h, if_pos h]
  have hs := decBad_small h
  have hz : zigN x.f2 ≤ 36 := by unfold zigN; split <;> omega
  have hw : IntKind.u64.wrap ((zigN x.f2 : Int) * 2) = ((2 * zigN x.f2 : Nat) : Int) := by rw [IntWalk.u64_in _ (by omega)]; omega
  unfold varint_Zig.f
  rw [if_pos hi.2, Option.bind_some, hw]
  have l2 := vput_len10 x.f1.toNat (by omega)
  cases hb : x.f0 with
  | true =>
   have l1 := vput_len10 (2 * zigN x.f2 + 1) (by omega)
   rw [if_pos rfl, or_one_u64 (by omega) (by omega), vputf _ (by omega), Option.bind_some, vputf2 hi.1, Option.bind_some, if_pos (by omega)]
   unfold pdec decN
   rw [hb, if_pos rfl]
  | false =>
   have l1 := vput_len10 (2 * zigN x.f2) (by omega)
   rw [if_neg (by decide), vputf _ (by omega), Option.bind_some, vputf2 hi.1, Option.bind_some, if_pos (by omega)]
   unfold pdec decN
   rw [hb, if_neg (by decide)]
   rfl
 ·rw [if_neg h, if_neg h]
theorem pdec_len {x : DecS} (hi : decIn x = true) (h : decBad x.f0 x.f1 x.f2 = 0) : (pdec x).length ≤ 20 := by
 unfold decIn at hi
 simp only [Bool.and_eq_true, decide_eq_true_eq] at hi
 have h1 := decN_lt h
 have l1 := vput_len10 (decN x) (by omega)
 have l2 := vput_len10 x.f1.toNat (by omega)
 unfold pdec
 rw [List.length_append]
 omega
theorem pdecs_take {vs : List DecS} {i : Nat} (h : i < vs.length) : pdecs (vs.take (i + 1)) = pdecs (vs.take i) ++ pdec vs[i] := by
 unfold pdecs
 rw [List.take_succ_eq_append_getElem h, List.flatMap_append]
 simp
theorem pdecs_len : ∀ (vs : List DecS), (∀ x ∈ vs, decIn x = true ∧ decBad x.f0 x.f1 x.f2 = 0) → (pdecs vs).length ≤ 20 * vs.length
 | [], _ => Nat.le_refl _
 | x :: l, h => by
  have h1 := pdec_len (h x List.mem_cons_self).1 (h x List.mem_cons_self).2
  have h2 := pdecs_len l (fun y hy => h y (List.mem_cons_of_mem _ hy))
  unfold pdecs at *
  rw [List.flatMap_cons, List.length_append, List.length_cons]
  omega
end Go.Proofs.Ytclbmdblalgdjaa
/- Package rec: Put: its walk; no condition. -/
namespace Go.Proofs.Ytclbmdblalgdjaa
open Go.RowKit Go.Proofs.YtclbmdblalgdjaaW.PrintWords Go.Proofs.YtclbmdblalgdjaaW.PrintLast Go.Proofs.YtclbmdblalgdjaaW.PrintMore Go.Proofs.Ytclbmdblalgdjaa.PE
set_option linter.unusedVariables false
set_option linter.unusedSimpArgs false
def PPost (d : Dic) (m : MetS) (w : World) (e : Ending) (w' : World) : Prop :=
 ∃ v, e = .returned (.tuple #[v, .int .i64 (pcode d.ws m)]) ∧ (Kd.int .u8).R 5 w' w.heap.size (fun _ => True) v (if pcode d.ws m = 0 then (pmet d.ws m).1 else []) ∧ DTurn d (if pcode d.ws m = 0 then (pmet d.ws m).2 else d.ws) w w'
theorem PPost.no {d : Dic} {m : MetS} {w w' : World} {c : Int} (hd : DicAt d w) (hb : Below w.heap.size w w') (hc : pcode d.ws m = c) (hn : c ≠ 0) : PPost d m w (.returned (.tuple #[.slice none 0 0, .int .i64 c])) w' := by
 subst hc
 refine ⟨_, rfl, ?_, ?_⟩
 ·rw [if_neg hn]; exact Kd.R_nil _ _ _ _ _
 ·rw [if_neg hn]; exact DTurn.same hd (Chg.of_below hb _)
section
variable {okm : Nat → Prop} {d : Dic} {b3 b7 b8 b9 : Nat} {m : MetS} {Av At : Option Addr} {cv ct : Nat} {v x : Value} {ws : List ByteArray} {l ys : List Int} {w W W' : World}
theorem PS.put0 (h : PS okm d b3 b7 b8 b9 m Av cv At ct v ws x l w W) {s : ByteArray} (hs : s.size ≤ 200) (hl : ws.length < 65536) {p : List Int} {ws2 : List ByteArray} (hp : (dput ws s).1 = p) (hw : (dput ws s).2.2 = ws2) :
  Calls Try.prog 35 #[.pointer (some ⟨d.g, 0, none⟩), .string s] W fun e W' => ∃ A c v', e = .returned (.tuple #[.slice A p.length c, .int .i64 0]) ∧ (Kd.int .u8).R 5 W' w.heap.size (fun _ => True) (.slice A p.length c) p ∧ PS okm d b3 b7 b8 b9 m Av cv At ct v' ws2 x l w W' ∧ KeepB W W' := by
 have hc := h.put2 (s := s) (by omega)
 rw [dput_ok hs hl, hp, hw] at hc
 exact hc
end
theorem ptags_snoc (t : TagS) : ∀ (ws : List ByteArray) (l : List TagS), ptags ws (l ++ [t]) = ((ptags ws l).1 ++ (dput (ptags ws l).2 t.f0).1 ++ (dput (dput (ptags ws l).2 t.f0).2.2 t.f1).1, (dput (dput (ptags ws l).2 t.f0).2.2 t.f1).2.2)
 | ws, [] => by simp [ptags]
 | ws, y :: l => by
  have ih := ptags_snoc t (dput (dput ws y.f0).2.2 y.f1).2.2 l
  rw [List.cons_append]
  unfold ptags
  rw [ih]
  simp only [List.append_assoc]
theorem ptags_bd : ∀ (l : List TagS) (ws : List ByteArray), ws.length + 2 * l.length ≤ 65536 → (ptags ws l).2.length ≤ ws.length + 2 * l.length ∧ (ptags ws l).1.length ≤ 440 * l.length
 | [], ws, _ => ⟨by simp [ptags], by simp [ptags]⟩
 | y :: l, ws, h => by
  rw [List.length_cons] at h
  have g1 := dput_grow ws y.f0
  have g2 := dput_grow (dput ws y.f0).2.2 y.f1
  have q1 := dput_len1 ws y.f0 (by omega)
  have q2 := dput_len1 (dput ws y.f0).2.2 y.f1 (by omega)
  have ih := ptags_bd l (dput (dput ws y.f0).2.2 y.f1).2.2 (by omega)
  unfold ptags
  simp only [List.length_append, List.length_cons]
  exact ⟨by omega, by omega⟩
set_option maxHeartbeats 16000000 in
set_option maxRecDepth 100000 in
theorem recput_calls {okm : Nat → Prop} (d : Dic) (m : MetS) (Av : Option Addr) (cv : Nat) (At : Option Addr) (ct : Nat) (w : World) (hd : DicAt d w) (hm : MetF okm m Av cv At ct w) (hap : ∀ k, okm k → ¬ d.F k) (hlo : ∀ k, okm k → k < w.heap.size) :
  Calls Try.prog 12 #[.pointer (some ⟨d.g, 0, none⟩), .agg #[.string m.f0, .int .i64 m.f1, .slice Av m.f2.length cv, .int .i64 m.f3, .slice At m.f4.length ct, .int .i64 m.f5]] w (PPost d m w) := by
 have HD0 := Aside0.mk hd
 have HD := Aside0.mk hd
 have HM := Aside0.mk hm
 have HAP := Aside0.mk hap
 have HLO := Aside0.mk hlo
 have HB := Aside0.mk (Below.refl w.heap.size w)
 clear hd hm hap hlo
 go_enter Try.func12, Try.ntmps12
 go_wp2_with (first | ((with_reducible refine gate_dst (N := 3) rfl ?_); refine box_event ?hg (N := 3) ?hd (cs := #[.string m.f0, .int .i64 m.f1, .slice Av m.f2.length cv, .int .i64 m.f3, .slice At m.f4.length ct, .int .i64 m.f5]) (t := 26) ?hr ?_; (case hd => rfl); (case hg => rfl); (case hr => first | (go_simp; done) | (go_simp; rfl)); intro b3 hgb3 w1 hbox hb; have GEb3 := Aside0.mk ((by rw [hgb3]; exact below_size HB.out) : w.heap.size ≤ b3); have n0 := Aside0.mk (below_step HB.out hb); clear HB; have HB := n0; clear n0; have n0 := Aside0.mk (HD.out.below hb); clear HD; have HD := n0; clear n0; have n0 := Aside0.mk (HM.out.below hb); clear HM; have HM := n0; clear n0; have BK3 := Aside0.mk hbox; clear hgb3 hbox hb; (try clear zBK3_0); have zBK3_0 : w1.cell? ⟨b3, 0, none⟩ = some (.string m.f0) := (blk_cell BK3.out 0).trans rfl; (try clear zBK3_1); have zBK3_1 : w1.cell? ⟨b3, 1, none⟩ = some (.int .i64 m.f1) := (blk_cell BK3.out 1).trans rfl; (try clear zBK3_2); have zBK3_2 : w1.cell? ⟨b3, 2, none⟩ = some (.slice Av m.f2.length cv) := (blk_cell BK3.out 2).trans rfl; (try clear zBK3_3); have zBK3_3 : w1.cell? ⟨b3, 3, none⟩ = some (.int .i64 m.f3) := (blk_cell BK3.out 3).trans rfl; (try clear zBK3_4); have zBK3_4 : w1.cell? ⟨b3, 4, none⟩ = some (.slice At m.f4.length ct) := (blk_cell BK3.out 4).trans rfl; (try clear zBK3_5); have zBK3_5 : w1.cell? ⟨b3, 5, none⟩ = some (.int .i64 m.f5) := (blk_cell BK3.out 5).trans rfl))
 obtain ⟨bd, hbd⟩ : ∃ bd, metBad m = bd := ⟨_, rfl⟩
 have HBD := Aside0.mk hbd
 have hcall := mcheck_calls m Av cv At ct w1 HM.out.metC
 rw [hbd] at hcall
 clear hbd
 refine hcall.mono ?_
 rintro e w2 ⟨rfl, hb⟩
 clear hcall
 have n0 := Aside0.mk (HD.out.below hb)
 have n1 := Aside0.mk (HM.out.below hb)
 have n2 := Aside0.mk (below_step HB.out hb)
 have n3 := Aside0.mk (blk_below BK3.out hb)
 clear HD HM HB BK3 hb zBK3_0 zBK3_1 zBK3_2 zBK3_3 zBK3_4 zBK3_5
 have HD := n0
 have HM := n1
 have HB := n2
 have BK3 := n3
 clear n0 n1 n2 n3
 by_cases h0 : bd = 0
 ·subst h0
  obtain ⟨l4, htl⟩ : ∃ l4 : Prop, l4 = (m.f4.length ≤ 1000000) := ⟨_, rfl⟩
  have h4 : m.f4.length ≤ 1000000 := by have := (metParts HBD.out).2.2.2.2.1.1; omega
  obtain ⟨k, hk⟩ := Ev.rounds (mis_ev m HM.out.wi h4)
  rw [HBD.out] at hk
  obtain ⟨ti, hti⟩ : ∃ ti, tIs m.f4 = ti := ⟨_, rfl⟩
  have HTI := Aside0.mk hti
  rw [hti, show (decide ((0 : Int) = 0) && ti) = ti from Bool.true_and _] at hk
  have HK := Aside0.mk hk
  clear hk h4 hti htl l4
  have z0 : w2.cell? ⟨b3, 0, none⟩ = some (.string m.f0) := (blk_cell BK3.out 0).trans rfl
  have z1 : w2.cell? ⟨b3, 1, none⟩ = some (.int .i64 m.f1) := (blk_cell BK3.out 1).trans rfl
  have z2 : w2.cell? ⟨b3, 2, none⟩ = some (.slice Av m.f2.length cv) := (blk_cell BK3.out 2).trans rfl
  have z3 : w2.cell? ⟨b3, 3, none⟩ = some (.int .i64 m.f3) := (blk_cell BK3.out 3).trans rfl
  have z4 : w2.cell? ⟨b3, 4, none⟩ = some (.slice At m.f4.length ct) := (blk_cell BK3.out 4).trans rfl
  have z5 : w2.cell? ⟨b3, 5, none⟩ = some (.int .i64 m.f5) := (blk_cell BK3.out 5).trans rfl
  go_wp2_with fail
  refine (metric_Is.calls k m.f0 m.f1 Av cv m.f2 m.f3 At ct m.f4 m.f5 ti w2 HM.out.metC.v HM.out.metC.vc HM.out.metC.t HM.out.metC.tc HK.out).mono ?_
  rintro e w3 ⟨rfl, hb⟩
  have n0 := Aside0.mk (HD.out.below hb)
  have n1 := Aside0.mk (HM.out.below hb)
  have n2 := Aside0.mk (below_step HB.out hb)
  have n3 := Aside0.mk (blk_below BK3.out hb)
  clear HD HM HB BK3 hb HK z0 z1 z2 z3 z4 z5
  have HD := n0
  have HM := n1
  have HB := n2
  have BK3 := n3
  clear n0 n1 n2 n3
  cases ti with
  | false =>
   go_wp2
   go_ret2
   refine PPost.no HD0.out HB.out ?_ (by decide)
   unfold pcode
   rw [if_pos HBD.out, if_neg (by rw [HTI.out]; decide)]
  | true =>
   go_wp2_with fail
   refine (diclen_calls d w3 HD.out).mono ?_
   rintro e w4 ⟨rfl, rfl⟩
   obtain ⟨nw, hnw⟩ : ∃ nw, d.ws.length = nw := ⟨_, rfl⟩
   have HNW := Aside0.mk hnw
   rw [hnw]
   clear hnw
   by_cases hl : 65471 < nw
   ·have hl1 : decide ((65471 : Int) < (nw : Int)) = true := decide_eq_true (by omega)
    go_wp2
    go_ret2
    refine PPost.no HD0.out HB.out ?_ (by decide)
    unfold pcode
    rw [if_pos HBD.out, if_pos HTI.out, if_pos (by rw [HNW.out]; exact hl)]
   ·have hl1 : decide ((65471 : Int) < (nw : Int)) = false := decide_eq_false (by omega)
    have HL := Aside0.mk hl
    clear hl
    have hpc : pcode d.ws m = 0 := by
     unfold pcode
     rw [if_pos HBD.out, if_pos HTI.out, if_neg (by rw [HNW.out]; exact HL.out)]
    have HPC := Aside0.mk hpc
    clear hpc
    go_wp2_with (first | ((with_reducible refine gate_dst (N := 7) rfl ?_); refine box_event ?hg (N := 7) ?hd (cs := #[.slice none 0 0]) (t := 34) ?hr ?_; (case hd => rfl); (case hg => rfl); (case hr => first | (go_simp; done) | (go_simp; rfl)); intro b7 hgb7 w5 hbox hb; have GEb7 := Aside0.mk ((by rw [hgb7]; exact below_size HB.out) : w.heap.size ≤ b7); have n0 := Aside0.mk (below_step HB.out hb); clear HB; have HB := n0; clear n0; have n0 := Aside0.mk (HD.out.below hb); clear HD; have HD := n0; clear n0; have n0 := Aside0.mk (HM.out.below hb); clear HM; have HM := n0; clear n0; have n0 := Aside0.mk (blk_below BK3.out hb); clear BK3; have BK3 := n0; clear n0; have BK7 := Aside0.mk hbox; clear hgb7 hbox hb; (try clear zBK7_0); have zBK7_0 : w5.cell? ⟨b7, 0, none⟩ = some (.slice none 0 0) := (blk_cell BK7.out 0).trans rfl; (try clear fBK7_0); have fBK7_0 := blk_frozen BK7.out 0) | ((with_reducible refine gate_dst (N := 8) rfl ?_); refine box_event ?hg (N := 8) ?hd (cs := #[.int .i64 0]) (t := 35) ?hr ?_; (case hd => rfl); (case hg => rfl); (case hr => first | (go_simp; done) | (go_simp; rfl)); intro b8 hgb8 w6 hbox hb; have GEb8 := Aside0.mk ((by rw [hgb8]; exact below_size HB.out) : w.heap.size ≤ b8); have n0 := Aside0.mk (below_step HB.out hb); clear HB; have HB := n0; clear n0; have n0 := Aside0.mk (blk_below BK7.out hb); clear BK7; have BK7 := n0; clear n0; have n0 := Aside0.mk (HD.out.below hb); clear HD; have HD := n0; clear n0; have n0 := Aside0.mk (HM.out.below hb); clear HM; have HM := n0; clear n0; have n0 := Aside0.mk (blk_below BK3.out hb); clear BK3; have BK3 := n0; clear n0; have BK8 := Aside0.mk hbox; clear hgb8 hbox hb; (try clear zBK7_0); have zBK7_0 : w6.cell? ⟨b7, 0, none⟩ = some (.slice none 0 0) := (blk_cell BK7.out 0).trans rfl; (try clear fBK7_0); have fBK7_0 := blk_frozen BK7.out 0; (try clear zBK8_0); have zBK8_0 : w6.cell? ⟨b8, 0, none⟩ = some (.int .i64 0) := (blk_cell BK8.out 0).trans rfl; (try clear fBK8_0); have fBK8_0 := blk_frozen BK8.out 0))
    have hst := (Chg.refl (fun k => k = b8) w6).set1 0 (.int .i64 0)
    have ne7 : b7 ≠ b8 := blk_ne2 BK7.out BK8.out (by decide)
    have ne3 : b3 ≠ b8 := blk_ne2 BK3.out BK8.out (by decide)
    have n7 := blk_far (p := ⟨b8, 0, none⟩) BK7.out ne7 (.int .i64 0)
    have n8 : (w6.setCell ⟨b8, 0, none⟩ (.int .i64 0)).heap[b8]? = some (.cells #[.int .i64 0] 35 (0, 0)) := (blk_put BK8.out 0 (.int .i64 0) rfl).trans rfl
    have n3 := blk_far (p := ⟨b8, 0, none⟩) BK3.out ne3 (.int .i64 0)
    have nD := HD.out.step hst (fun k hF hk => by have h1 := HD0.out.lt k hF; have h2 := GEb8.out; omega)
    have nM := HM.out.step hst (fun k hk ho => by have h1 := HLO.out k ho; have h2 := GEb8.out; omega)
    have nC : Chg d.F w (w6.setCell ⟨b8, 0, none⟩ (.int .i64 0)) := (Chg.of_below HB.out d.F).trans hst (fun k hk => .inr (by rw [hk]; exact GEb8.out))
    have hsz : (w6.setCell ⟨b8, 0, none⟩ (.int .i64 0)).heap.size = w6.heap.size := by simp [World.setCell]
    generalize hws : w6.setCell ⟨b8, 0, none⟩ (.int .i64 0) = wa at n7 n8 n3 nD nM nC hsz ⊢
    clear hst hws
    obtain ⟨b9, hb9⟩ : ∃ b9, w6.heap.size = b9 := ⟨_, rfl⟩
    have hbx := blk_new wa (.cells #[.func (.func 39) #[] #[.pointer (some ⟨b8, 0, none⟩), .pointer (some ⟨b7, 0, none⟩)]] 85)
    rw [hsz, hb9] at hbx
    have hal : Below wa.heap.size wa (wa.alloc (.cells #[.func (.func 39) #[] #[.pointer (some ⟨b8, 0, none⟩), .pointer (some ⟨b7, 0, none⟩)]] 85)) := below_alloc (Below.refl _ _) _
    have HP : Aside0 (PS okm d b3 b7 b8 b9 m Av cv At ct d.v d.ws (.slice none 0 0) [] w (wa.alloc (.cells #[.func (.func 39) #[] #[.pointer (some ⟨b8, 0, none⟩), .pointer (some ⟨b7, 0, none⟩)]] 85))) := ⟨⟨nD.below hal, nC.below hal, .inl rfl, nM.below hal, blk_below n3 hal, blk_below n7 hal, blk_below n8 hal, hbx, Kd.R_nil _ _ _ _ _, GEb7.out, GEb8.out, HAP.out, HLO.out⟩⟩
    rw [hb9]
    generalize wa.alloc (.cells #[.func (.func 39) #[] #[.pointer (some ⟨b8, 0, none⟩), .pointer (some ⟨b7, 0, none⟩)]] 85) = wb at HP ⊢
    clear HD HM BK3 BK7 BK8 HB n7 n8 n3 nD nM nC hsz hbx hal hb9 ne7 ne3 zBK7_0 zBK8_0 fBK7_0 fBK8_0
    obtain ⟨⟨q00, q01, q02⟩, ⟨q10, q11⟩, ⟨q2, q2b⟩, ⟨⟨q30, q31⟩, _⟩, ⟨q40, q41⟩, q5⟩ := metParts HBD.out
    have HQ := Aside0.mk (show (m.f0.size ≤ 200 ∧ 1 ≤ m.f1 ∧ m.f1 ≤ 5) ∧ (m.f2.length ≤ 64 ∧ ∀ d ∈ m.f2, decBad d.f0 d.f1 d.f2 = 0) ∧ (0 ≤ m.f3 ∧ m.f3 < 9223372036854775808) ∧ (m.f4.length ≤ 32 ∧ ∀ t ∈ m.f4, tagBad t.f0 t.f1 = 0) ∧ 0 ≤ m.f5 ∧ m.f5 < 9223372036854775808 from ⟨⟨by omega, by omega, by omega⟩, ⟨by omega, q2b⟩, ⟨by omega, by omega⟩, ⟨by omega, q41⟩, by omega, by omega⟩)
    clear q00 q01 q02 q10 q11 q2 q2b q30 q31 q40 q41 q5
    have HNW2 := Aside0.mk (show d.ws.length ≤ 65471 by have h1 := HNW.out; have h2 := HL.out; omega)
    obtain ⟨p0, hp0⟩ : ∃ p0, (dput d.ws m.f0).1 = p0 := ⟨_, rfl⟩
    obtain ⟨ws1, hws1⟩ : ∃ ws1, (dput d.ws m.f0).2.2 = ws1 := ⟨_, rfl⟩
    have HP0 := Aside0.mk hp0
    have HWS1 := Aside0.mk hws1
    have HL0 := Aside0.mk (show p0.length ≤ 220 by rw [← hp0]; exact dput_len1 _ _ (by have := HNW2.out; omega))
    have HG1 := Aside0.mk (show ws1.length ≤ 65472 by rw [← hws1]; have := dput_grow d.ws m.f0; have := HNW2.out; omega)
    have HPUT := Aside0.mk (HP.out.drew.put0 HQ.out.1.1 (by have := HNW2.out; omega) hp0 hws1)
    clear hp0 hws1
    refine start_ (n := 8) (S := fun w' => w'.cell? ⟨b9, 0, none⟩ = some (.func (.func 39) #[] #[.pointer (some ⟨b8, 0, none⟩), .pointer (some ⟨b7, 0, none⟩)]) ∧ w'.cell? ⟨b3, 0, none⟩ = some (.string m.f0)) (ds := []) #[false, false, false, false, false, false, false, false] (by kernel_rfl) rfl rfl ⟨(blk_cell HP.out.drew.k9 0).trans rfl, (blk_cell HP.out.drew.k3 0).trans rfl⟩ (fun hHeld => ?_)
    refine pure_ (i := 1) (N := some 34) (v := ?_) (a' := ?_) #[false, true, false, false, false, false, false, false] rfl rfl (by kernel_rfl) (fun _ _ _ h => h) (Or.inl ⟨by rfl, ?_⟩) ?_ ?_
    rotate_left
    ·intro w'
     go_simp
     with_reducible rfl
    rotate_left
    ·simp only [Act.put, List.setIfInBounds_toArray, List.set_cons_zero, List.set_cons_succ, i64_w, i32_w]
     rfl
    refine pure_ (i := 2) (N := some 35) (v := ?_) (a' := ?_) #[false, true, true, false, false, false, false, false] rfl rfl (by kernel_rfl) (fun _ _ _ h => h) (Or.inl ⟨by rfl, ?_⟩) ?_ ?_
    rotate_left
    ·intro w'
     go_simp
     with_reducible rfl
    rotate_left
    ·simp only [Act.put, List.setIfInBounds_toArray, List.set_cons_zero, List.set_cons_succ, i64_w, i32_w]
     rfl
    refine take_ (i := 0) (N := some 33) (v := ?_) (a' := ?_) #[true, true, true, false, false, false, false, false] rfl rfl (by kernel_rfl) (fun _ _ _ h => h) (Or.inl ⟨by rfl, ?_⟩) hHeld ?_ ?_
    rotate_left
    ·rintro w' ⟨s0, s1⟩
     go_simp
     with_reducible rfl
    rotate_left
    ·simp only [Act.put, List.setIfInBounds_toArray, List.set_cons_zero, List.set_cons_succ, i64_w, i32_w]
     rfl
    refine take_ (i := 3) (N := some 36) (v := ?_) (a' := ?_) #[true, true, true, true, false, false, false, false] rfl rfl (by kernel_rfl) (fun _ _ _ h => h) (Or.inl ⟨by rfl, ?_⟩) hHeld ?_ ?_
    rotate_left
    ·rintro w' ⟨s0, s1⟩
     go_simp
     with_reducible rfl
    rotate_left
    ·simp only [Act.put, List.setIfInBounds_toArray, List.set_cons_zero, List.set_cons_succ, i64_w, i32_w]
     rfl
    refine one_ (i := 4) (N := some 37) #[true, true, true, true, true, false, false, false] rfl rfl (by kernel_rfl) (by decide) (fun K hK => ?_)
    refine goes_ Try.func35 (by kernel_rfl) rfl #[.pointer (some ⟨d.g, 0, none⟩), .string m.f0] (by rfl) rfl rfl (by first | (simp only [List.map_toArray, List.map_cons, List.map_nil]; done) | (simp only [List.map_toArray, List.map_cons, List.map_nil]; rfl) | simp) ?_
    with_reducible refine (HPUT.out).mono ?_
    rintro e wA ⟨Ay, cy, v1, rfl, hy, hp, _⟩
    have HA := Aside0.mk hp
    have HY := Aside0.mk hy
    clear hp hy
    refine ⟨_, rfl, ?_⟩
    refine hK.out _ _ ⟨(blk_cell HA.out.k9 0).trans rfl, (blk_cell HA.out.k3 0).trans rfl⟩ (fun hHeld => ?_)
    clear hK K
    refine norm_ (a' := ?_) ?_ ?_
    rotate_left
    ·show Act.put _ (some 37) _ = _
     simp only [Act.put, List.setIfInBounds_toArray, List.set_cons_zero, List.set_cons_succ, i64_w, i32_w]
     rfl
    refine pure_ (i := 5) (N := some 38) (v := ?_) (a' := ?_) #[true, true, true, true, true, true, false, false] rfl rfl (by kernel_rfl) (fun _ _ _ h => h) (Or.inl ⟨by rfl, ?_⟩) ?_ ?_
    rotate_left
    ·intro w'
     go_simp
     with_reducible rfl
    rotate_left
    ·simp only [Act.put, List.setIfInBounds_toArray, List.set_cons_zero, List.set_cons_succ, i64_w, i32_w]
     rfl
    refine pure_ (i := 6) (N := some 39) (v := ?_) (a' := ?_) #[true, true, true, true, true, true, true, false] rfl rfl (by kernel_rfl) (fun _ _ _ h => h) (Or.inl ⟨by rfl, ?_⟩) ?_ ?_
    rotate_left
    ·intro w'
     go_simp
     with_reducible rfl
    rotate_left
    ·simp only [Act.put, List.setIfInBounds_toArray, List.set_cons_zero, List.set_cons_succ, i64_w, i32_w]
     rfl
    refine one_ (i := 7) (N := some 40) #[true, true, true, true, true, true, true, true] rfl rfl (by kernel_rfl) (by decide) (fun K hK => ?_)
    refine goesW_ Try.func39 (by kernel_rfl) rfl #[.slice Ay p0.length cy, .int .i64 0, .pointer (some ⟨b8, 0, none⟩), .pointer (some ⟨b7, 0, none⟩)] (by rfl) rfl rfl (by rfl) (by simp only [List.map_toArray, List.map_cons, List.map_nil]; rfl) ?_
    refine (HA.out.app HY.out (by have := HL0.out; simp; omega)).mono ?_
    rintro e wB ⟨rfl, x1, hp⟩
    rw [List.nil_append] at hp
    have HB := Aside0.mk hp
    clear hp
    refine ⟨_, rfl, ?_⟩
    refine hK.out _ _ ⟨(blk_cell HB.out.k9 0).trans rfl, (blk_cell HB.out.k3 0).trans rfl⟩ (fun hHeld => ?_)
    clear hK K
    refine norm_ (a' := ?_) ?_ ?_
    rotate_left
    ·show Act.put _ (some 40) _ = _
     simp only [Act.put, List.setIfInBounds_toArray, List.set_cons_zero, List.set_cons_succ, i64_w, i32_w]
     rfl
    refine done_ (by kernel_rfl) ?_
    have HP1 := Aside0.mk HB.out
    clear HP HPUT HA HY HB
    have z9 : wB.cell? ⟨b9, 0, none⟩ = some (.func (.func 39) #[] #[.pointer (some ⟨b8, 0, none⟩), .pointer (some ⟨b7, 0, none⟩)]) := (blk_cell HP1.out.k9 0).trans rfl
    have z31 : wB.cell? ⟨b3, 1, none⟩ = some (.int .i64 m.f1) := (blk_cell HP1.out.k3 1).trans rfl
    have e1 : IntKind.u8.wrap m.f1 = m.f1 := IntWalk.u8_in _ (by have := HQ.out.1; omega)
    have HY : Aside0 ((Kd.int .u8).R 5 (wB.alloc (.cells #[.int .u8 m.f1] 5)) wB.heap.size (fun _ => True) (.slice (some ⟨wB.heap.size, 0, none⟩) 1 1) [m.f1]) := ⟨R_lit_u8 5 (Nat.le_refl _) [m.f1] (by simp)⟩
    have HN1 := Aside0.mk (show (0 : Int) ≤ (m.f2.length : Int) ∧ (m.f2.length : Int) < 9223372036854775808 by have := HQ.out.2.1.1; omega)
    go_wp2_with (first | ((with_reducible refine gate_dst (N := 46) rfl ?_); refine goesV_ (some 46) rfl rfl rfl rfl Try.func39 (by kernel_rfl) rfl #[.slice (some ⟨wB.heap.size, 0, none⟩) 1 1, .int .i64 0, .pointer (some ⟨b8, 0, none⟩), .pointer (some ⟨b7, 0, none⟩)] (by simp only [List.map_toArray, List.map_cons, List.map_nil]; rfl) ?_; (have hQ := (HP1.out.alloc (.cells #[.int .u8 m.f1] 5)).app HY.out (by have := HL0.out; omega)); refine hQ.mono ?_; (rintro e wC ⟨rfl, x2, hp⟩); have HP2 := Aside0.mk hp; clear hp hQ z9 z31 HY; refine ⟨_, rfl, ?_⟩; have z32 : wC.cell? ⟨b3, 2, none⟩ = some (.slice Av m.f2.length cv) := (blk_cell HP2.out.k3 2).trans rfl) | ((with_reducible refine gate_dst (N := 51) rfl ?_); refine goesV_ (some 51) rfl rfl rfl rfl Try.func40 (by kernel_rfl) rfl #[.int .i64 m.f2.length, .pointer (some ⟨b9, 0, none⟩)] (by simp only [List.map_toArray, List.map_cons, List.map_nil]; rfl) ?_; (have hQ := HP2.out.num (m.f2.length : Int) HN1.out (by have := HL0.out; simp only [List.length_append, List.length_cons, List.length_nil]; omega)); refine hQ.mono ?_; (rintro e wD ⟨rfl, x3, hp⟩); have HP3 := Aside0.mk hp; clear hp hQ z32; refine ⟨_, rfl, ?_⟩; have z32 : wD.cell? ⟨b3, 2, none⟩ = some (.slice Av m.f2.length cv) := (blk_cell HP3.out.k3 2).trans rfl))
    clear HP1 HP2 z32 e1
    have hp3 := HP3.out
    rw [Int.toNat_natCast] at hp3
    obtain ⟨l1, hl1⟩ : ∃ l1, p0 ++ [m.f1] ++ vput m.f2.length = l1 := ⟨_, rfl⟩
    rw [hl1] at hp3
    have HL1 := Aside0.mk hl1
    have HLB1 := Aside0.mk (show l1.length ≤ 240 by rw [← hl1]; have h1 := HL0.out; have h2 := vput_len10 m.f2.length (by have := HQ.out.2.1.1; omega); simp only [List.length_append, List.length_cons, List.length_nil]; omega)
    clear HP3 hl1
    have HP := Aside0.mk hp3
    clear hp3
    go_loopw [55] (fun v55 wr => ∃ (i : Int) (x : Value), v55 = .int .i64 i ∧ 0 ≤ i ∧ i ≤ (m.f2.length : Int) ∧ Aside0 (PS okm d b3 b7 b8 b9 m Av cv At ct v1 ws1 x (l1 ++ pdecs (m.f2.take i.toNat)) w wr)) (fun v55 _ => m.f2.length - (intOf v55).toNat)
    case atStart => exact ⟨0, x3, rfl, by omega, by omega, ⟨by simpa [pdecs] using HP.out⟩⟩
    case round =>
     clear HP
     obtain ⟨i, x, rfl, hi0, hi, HP⟩ := hrel
     obtain ⟨wo, rfl⟩ : ∃ wo : World, wo = wr := ⟨_, rfl⟩
     by_cases hlt : i < (m.f2.length : Int)
     ·obtain ⟨ad, e, c0, c1, c2⟩ := at_T48 HP.out.mf.metC.v i hi0 hlt
      subst e
      have hin : i.toNat < m.f2.length := by omega
      obtain ⟨dv, hdv⟩ : ∃ dv, rd_T48 m.f2 i = dv := ⟨_, rfl⟩
      rw [hdv] at c0 c1 c2
      have hdv2 : m.f2[i.toNat] = dv := by
       rw [← hdv]
       unfold rd_T48
       rw [List.getD_eq_getElem?_getD, List.getElem?_eq_getElem hin]
       rfl
      have hmem : dv ∈ m.f2 := by rw [← hdv2]; exact List.getElem_mem hin
      have hbad := HQ.out.2.1.2 dv hmem
      have hdin : decIn dv = true := by
       have h := HP.out.mf.wi
       unfold metIn at h
       simp only [Bool.and_eq_true, List.all_eq_true] at h
       exact h.2.1 dv hmem
      have HPD := Aside0.mk (fun W : World => rec_PutDec.calls dv.f0 dv.f1 dv.f2 (pdec dv) 0 W (by rw [putdec_f dv hdin, if_pos hbad]))
      have HNX := Aside0.mk (show pdecs (m.f2.take (i + 1).toNat) = pdecs (m.f2.take i.toNat) ++ pdec dv by rw [show (i + 1).toNat = i.toNat + 1 by omega, pdecs_take hin, hdv2])
      obtain ⟨li, hli⟩ : ∃ li, l1 ++ pdecs (m.f2.take i.toNat) = li := ⟨_, rfl⟩
      have HLI := Aside0.mk hli
      have HLL := Aside0.mk (show li.length ≤ 5000 ∧ (pdec dv).length ≤ 20 by
       refine ⟨?_, pdec_len hdin hbad⟩
       have h1 := HP.out.mf.wi
       unfold metIn at h1
       simp only [Bool.and_eq_true, List.all_eq_true] at h1
       have h2 := pdecs_len (m.f2.take i.toNat) (fun y hy => ⟨h1.2.1 y (List.mem_of_mem_take hy), HQ.out.2.1.2 y (List.mem_of_mem_take hy)⟩)
       have h3 := HQ.out.2.1.1
       have h4 := HLB1.out
       rw [List.length_take] at h2
       rw [← hli, List.length_append]
       omega)
      rw [hli] at HP
      obtain ⟨pd, hpd⟩ : ∃ pd, pdec dv = pd := ⟨_, rfl⟩
      rw [hpd] at HPD HNX HLL
      clear hli hdv hdv2 hmem hbad hdin hpd hin
      go_wp2
      have hal : Below wo.heap.size wo (wo.alloc (.cells #[.bool dv.f0, .int .u64 dv.f1, .int .i64 dv.f2] 48)) := below_alloc (Below.refl _ _) _
      have hbox := blk_new wo (.cells #[.bool dv.f0, .int .u64 dv.f1, .int .i64 dv.f2] 48)
      generalize hwt : wo.alloc (.cells #[.bool dv.f0, .int .u64 dv.f1, .int .i64 dv.f2] 48) = wt at hal hbox ⊢
      obtain ⟨b12, hb12⟩ : ∃ b12, wo.heap.size = b12 := ⟨_, rfl⟩
      rw [hb12] at hbox ⊢
      have KB := Aside0.mk hbox
      have n0 := Aside0.mk (HP.out.below hal)
      clear HP hal hbox hb12 hwt c0 c1 c2
      have HP := n0
      clear n0
      refine start_ (n := 6) (S := fun w' => w'.cell? ⟨b9, 0, none⟩ = some (.func (.func 39) #[] #[.pointer (some ⟨b8, 0, none⟩), .pointer (some ⟨b7, 0, none⟩)]) ∧ w'.cell? ⟨b12, 0, none⟩ = some (.bool dv.f0) ∧ w'.cell? ⟨b12, 1, none⟩ = some (.int .u64 dv.f1) ∧ w'.cell? ⟨b12, 2, none⟩ = some (.int .i64 dv.f2)) (ds := []) #[false, false, false, false, false, false] (by kernel_rfl) rfl rfl ⟨(blk_cell HP.out.drew.k9 0).trans rfl, (blk_cell (blk_drew KB.out) 0).trans rfl, (blk_cell (blk_drew KB.out) 1).trans rfl, (blk_cell (blk_drew KB.out) 2).trans rfl⟩ (fun hHeld => ?_)
      refine take_ (i := 0) (N := some 59) (v := ?_) (a' := ?_) #[true, false, false, false, false, false] rfl rfl (by kernel_rfl) (fun _ _ _ h => h) (Or.inl ⟨by rfl, ?_⟩) hHeld ?_ ?_
      rotate_left
      ·rintro w' ⟨s0, s1, s2, s3⟩
       go_simp
       with_reducible rfl
      rotate_left
      ·simp only [Act.put, List.setIfInBounds_toArray, List.set_cons_zero, List.set_cons_succ, i64_w, i32_w]
       rfl
      refine take_ (i := 1) (N := some 60) (v := ?_) (a' := ?_) #[true, true, false, false, false, false] rfl rfl (by kernel_rfl) (fun _ _ _ h => h) (Or.inl ⟨by rfl, ?_⟩) hHeld ?_ ?_
      rotate_left
      ·rintro w' ⟨s0, s1, s2, s3⟩
       go_simp
       with_reducible rfl
      rotate_left
      ·simp only [Act.put, List.setIfInBounds_toArray, List.set_cons_zero, List.set_cons_succ, i64_w, i32_w]
       rfl
      refine one_ (i := 2) (N := some 61) #[true, true, true, false, false, false] rfl rfl (by kernel_rfl) (by decide) (fun K hK => ?_)
      refine goes_ Try.func18 (by kernel_rfl) rfl #[.agg #[.bool dv.f0, .int .u64 dv.f1, .int .i64 dv.f2]] (by rfl) rfl rfl (by first | (simp only [List.map_toArray, List.map_cons, List.map_nil]; done) | (simp only [List.map_toArray, List.map_cons, List.map_nil]; rfl) | simp) ?_
      with_reducible refine (HPD.out _).mono ?_
      rintro e wA ⟨vy, rfl, hy, hb⟩
      have HA := Aside0.mk (HP.out.drew.below hb)
      have KA := Aside0.mk (blk_below (blk_drew KB.out) hb)
      obtain ⟨Ay, cy, rfl, _⟩ := Kd.R_reads hy
      have HY := Aside0.mk hy
      clear hy hb
      refine ⟨_, rfl, ?_⟩
      refine hK.out _ _ ⟨(blk_cell HA.out.k9 0).trans rfl, (blk_cell KA.out 0).trans rfl, (blk_cell KA.out 1).trans rfl, (blk_cell KA.out 2).trans rfl⟩ (fun hHeld => ?_)
      clear hK K
      refine norm_ (a' := ?_) ?_ ?_
      rotate_left
      ·show Act.put _ (some 61) _ = _
       simp only [Act.put, List.setIfInBounds_toArray, List.set_cons_zero, List.set_cons_succ, i64_w, i32_w]
       rfl
      refine pure_ (i := 3) (N := some 62) (v := ?_) (a' := ?_) #[true, true, true, true, false, false] rfl rfl (by kernel_rfl) (fun _ _ _ h => h) (Or.inl ⟨by rfl, ?_⟩) ?_ ?_
      rotate_left
      ·intro w'
       go_simp
       with_reducible rfl
      rotate_left
      ·simp only [Act.put, List.setIfInBounds_toArray, List.set_cons_zero, List.set_cons_succ, i64_w, i32_w]
       rfl
      refine pure_ (i := 4) (N := some 63) (v := ?_) (a' := ?_) #[true, true, true, true, true, false] rfl rfl (by kernel_rfl) (fun _ _ _ h => h) (Or.inl ⟨by rfl, ?_⟩) ?_ ?_
      rotate_left
      ·intro w'
       go_simp
       with_reducible rfl
      rotate_left
      ·simp only [Act.put, List.setIfInBounds_toArray, List.set_cons_zero, List.set_cons_succ, i64_w, i32_w]
       rfl
      refine one_ (i := 5) (N := some 64) #[true, true, true, true, true, true] rfl rfl (by kernel_rfl) (by decide) (fun K hK => ?_)
      refine goesW_ Try.func39 (by kernel_rfl) rfl #[.slice Ay pd.length cy, .int .i64 0, .pointer (some ⟨b8, 0, none⟩), .pointer (some ⟨b7, 0, none⟩)] (by rfl) rfl rfl (by rfl) (by simp only [List.map_toArray, List.map_cons, List.map_nil]; rfl) ?_
      refine (HA.out.app2 HY.out (by have := HLL.out; omega)).mono ?_
      rintro e wB ⟨rfl, x1, hp, hk⟩
      have HB := Aside0.mk hp
      have KC := Aside0.mk (hk _ _ _ (by decide) KA.out)
      clear hp hk
      refine ⟨_, rfl, ?_⟩
      refine hK.out _ _ ⟨(blk_cell HB.out.k9 0).trans rfl, (blk_cell KC.out 0).trans rfl, (blk_cell KC.out 1).trans rfl, (blk_cell KC.out 2).trans rfl⟩ (fun hHeld => ?_)
      clear hK K
      refine norm_ (a' := ?_) ?_ ?_
      rotate_left
      ·show Act.put _ (some 64) _ = _
       simp only [Act.put, List.setIfInBounds_toArray, List.set_cons_zero, List.set_cons_succ, i64_w, i32_w]
       rfl
      refine done_ (by kernel_rfl) ?_
      have n0 := HB.out
      rw [← HLI.out, List.append_assoc, ← HNX.out] at n0
      have HPN := Aside0.mk n0
      clear n0 HP HB KB KC HA KA HY
      have hw : wrap64 (i + 1) = i + 1 := IntWalk.wrap64_in _ (by have := HQ.out.2.1.1; omega)
      have HW := Aside0.mk hw
      clear hw
      go_wp2
      have hw := HW.out
      go_roundw
      case rel => rw [hw]; exact ⟨i + 1, x1, rfl, by omega, by omega, HPN⟩
      case measure => rw [hw]; simp [intOf]; omega
     ·have hie : i = (m.f2.length : Int) := by omega
      subst hie
      have hp0 := HP.out
      rw [Int.toNat_natCast, List.take_length] at hp0
      obtain ⟨l2, hl2⟩ : ∃ l2, l1 ++ pdecs m.f2 = l2 := ⟨_, rfl⟩
      rw [hl2] at hp0
      have HL2 := Aside0.mk hl2
      have HLB2 := Aside0.mk (show l2.length ≤ 5000 by
       have h1 := hp0.mf.wi
       unfold metIn at h1
       simp only [Bool.and_eq_true, List.all_eq_true] at h1
       have h2 := pdecs_len m.f2 (fun y hy => ⟨h1.2.1 y hy, HQ.out.2.1.2 y hy⟩)
       have h3 := HQ.out.2.1.1
       have h4 := HLB1.out
       rw [← hl2, List.length_append]
       omega)
      clear HP hl2 hi hi0 hlt
      have HP := Aside0.mk hp0
      clear hp0
      have z33 : wo.cell? ⟨b3, 3, none⟩ = some (.int .i64 m.f3) := (blk_cell HP.out.k3 3).trans rfl
      have HN2 := Aside0.mk (show (0 : Int) ≤ (m.f4.length : Int) ∧ (m.f4.length : Int) < 9223372036854775808 by have := HQ.out.2.2.2.1.1; omega)
      have HV3 := Aside0.mk (vput_len10 m.f3.toNat (by have := HQ.out.2.2.1; omega))
      go_wp2_with (first | ((with_reducible refine gate_dst (N := 69) rfl ?_); refine goesV_ (some 69) rfl rfl rfl rfl Try.func40 (by kernel_rfl) rfl #[.int .i64 m.f3, .pointer (some ⟨b9, 0, none⟩)] (by simp only [List.map_toArray, List.map_cons, List.map_nil]; rfl) ?_; (have hQ := HP.out.num m.f3 HQ.out.2.2.1 (by have := HLB2.out; omega)); refine hQ.mono ?_; (rintro e wE ⟨rfl, x4, hp⟩); have HP3 := Aside0.mk hp; clear hp hQ z33; refine ⟨_, rfl, ?_⟩; have z34 : wE.cell? ⟨b3, 4, none⟩ = some (.slice At m.f4.length ct) := (blk_cell HP3.out.k3 4).trans rfl) | ((with_reducible refine gate_dst (N := 74) rfl ?_); refine goesV_ (some 74) rfl rfl rfl rfl Try.func40 (by kernel_rfl) rfl #[.int .i64 m.f4.length, .pointer (some ⟨b9, 0, none⟩)] (by simp only [List.map_toArray, List.map_cons, List.map_nil]; rfl) ?_; (have hQ := HP3.out.num (m.f4.length : Int) HN2.out (by have := HLB2.out; have := HV3.out; simp only [List.length_append]; omega)); refine hQ.mono ?_; (rintro e wG ⟨rfl, x5, hp⟩); have HP4 := Aside0.mk hp; clear hp hQ z34; refine ⟨_, rfl, ?_⟩; have z34 : wG.cell? ⟨b3, 4, none⟩ = some (.slice At m.f4.length ct) := (blk_cell HP4.out.k3 4).trans rfl))
      clear HP HP3 z34
      have hp3 := HP4.out
      rw [Int.toNat_natCast] at hp3
      obtain ⟨l3, hl3⟩ : ∃ l3, l2 ++ vput m.f3.toNat ++ vput m.f4.length = l3 := ⟨_, rfl⟩
      rw [hl3] at hp3
      have HL3 := Aside0.mk hl3
      have HLB3 := Aside0.mk (show l3.length ≤ 6000 by rw [← hl3]; have h1 := HLB2.out; have h2 := vput_len10 m.f4.length (by have := HQ.out.2.2.2.1.1; omega); have h3 := HV3.out; simp only [List.length_append]; omega)
      clear HP4 hl3
      have HP := Aside0.mk hp3
      clear hp3
      go_loopw [78] (fun v78 wr => ∃ (i : Int) (v x : Value), v78 = .int .i64 i ∧ 0 ≤ i ∧ i ≤ (m.f4.length : Int) ∧ Aside0 (PS okm d b3 b7 b8 b9 m Av cv At ct v (ptags ws1 (m.f4.take i.toNat)).2 x (l3 ++ (ptags ws1 (m.f4.take i.toNat)).1) w wr)) (fun v78 _ => m.f4.length - (intOf v78).toNat)
      case atStart => exact ⟨0, v1, x5, rfl, by omega, by omega, ⟨by simpa [ptags] using HP.out⟩⟩
      case round =>
       clear HP
       obtain ⟨i, v, x, rfl, hi0, hi, HP⟩ := hrel
       obtain ⟨wo, rfl⟩ : ∃ wo : World, wo = wr := ⟨_, rfl⟩
       by_cases hlt : i < (m.f4.length : Int)
       ·obtain ⟨ad, e, c0, c1⟩ := at_T81 HP.out.mf.metC.t i hi0 hlt
        subst e
        have hin : i.toNat < m.f4.length := by omega
        obtain ⟨tg, htg⟩ : ∃ tg, rd_T81 m.f4 i = tg := ⟨_, rfl⟩
        rw [htg] at c0 c1
        have htg2 : m.f4[i.toNat] = tg := by
         rw [← htg]
         unfold rd_T81
         rw [List.getD_eq_getElem?_getD, List.getElem?_eq_getElem hin]
         rfl
        have hmem : tg ∈ m.f4 := by rw [← htg2]; exact List.getElem_mem hin
        obtain ⟨⟨s1, s2, _⟩, s3, _⟩ := tagBad_ok (HQ.out.2.2.2.1.2 tg hmem)
        have hsn := ptags_snoc tg ws1 (m.f4.take i.toNat)
        rw [← htg2, ← List.take_succ_eq_append_getElem hin, htg2] at hsn
        have hbd := ptags_bd (m.f4.take i.toNat) ws1 (by have h1 := HQ.out.2.2.2.1.1; have h2 := HG1.out; rw [List.length_take]; omega)
        obtain ⟨⟨lt, wsi⟩, hpt⟩ : ∃ p, ptags ws1 (m.f4.take i.toNat) = p := ⟨_, rfl⟩
        rw [hpt] at hsn HP hbd
        obtain ⟨q1, hq1⟩ : ∃ q1, (dput wsi tg.f0).1 = q1 := ⟨_, rfl⟩
        obtain ⟨wsj, hwsj⟩ : ∃ wsj, (dput wsi tg.f0).2.2 = wsj := ⟨_, rfl⟩
        obtain ⟨q2, hq2⟩ : ∃ q2, (dput wsj tg.f1).1 = q2 := ⟨_, rfl⟩
        obtain ⟨wsk, hwsk⟩ : ∃ wsk, (dput wsj tg.f1).2.2 = wsk := ⟨_, rfl⟩
        obtain ⟨li, hli⟩ : ∃ li, l3 ++ lt = li := ⟨_, rfl⟩
        simp only at hsn HP hbd
        rw [hq1, hwsj, hq2, hwsk] at hsn
        rw [hli] at HP
        have HSN := Aside0.mk (show ptags ws1 (m.f4.take (i + 1).toNat) = (lt ++ q1 ++ q2, wsk) by rw [show (i + 1).toNat = i.toNat + 1 by omega]; exact hsn)
        have hwi : wsi.length + 2 ≤ 65536 ∧ lt.length ≤ 20000 := by
         have h1 := HQ.out.2.2.2.1.1
         have h2 := HG1.out
         rw [List.length_take] at hbd
         omega
        have hg1 : wsj.length ≤ wsi.length + 1 := by rw [← hwsj]; exact dput_grow _ _
        have HLI := Aside0.mk hli
        have HLL := Aside0.mk (show li.length ≤ 40000 ∧ q1.length ≤ 220 ∧ q2.length ≤ 220 from ⟨by rw [← hli, List.length_append]; have := HLB3.out; omega, by rw [← hq1]; exact dput_len1 _ _ (by omega), by rw [← hq2]; exact dput_len1 _ _ (by omega)⟩)
        have HWS := Aside0.mk (show wsi.length < 65536 ∧ wsj.length < 65536 ∧ tg.f0.size ≤ 200 ∧ tg.f1.size ≤ 200 from ⟨by omega, by omega, by omega, by omega⟩)
        have HQ1 := Aside0.mk hq1
        have HQ2 := Aside0.mk hq2
        have HWJ := Aside0.mk hwsj
        have HWK := Aside0.mk hwsk
        have HIN := Aside0.mk hlt
        clear hli htg htg2 hmem hin hsn hbd hpt hq1 hwsj hq2 hwsk hwi hg1 s1 s2 s3
        go_wp2
        have hal : Below wo.heap.size wo (wo.alloc (.cells #[.string tg.f0, .string tg.f1] 81)) := below_alloc (Below.refl _ _) _
        have hbox := blk_new wo (.cells #[.string tg.f0, .string tg.f1] 81)
        generalize hwt : wo.alloc (.cells #[.string tg.f0, .string tg.f1] 81) = wt at hal hbox ⊢
        obtain ⟨b14, hb14⟩ : ∃ b14, wo.heap.size = b14 := ⟨_, rfl⟩
        rw [hb14] at hbox ⊢
        have KB := Aside0.mk hbox
        have n0 := Aside0.mk (HP.out.below hal)
        clear HP hal hbox hb14 hwt c0 c1
        have HP := n0
        clear n0
        have HPUT := Aside0.mk (HP.out.drew.put0 HWS.out.2.2.1 HWS.out.1 HQ1.out HWJ.out)
        refine start_ (n := 8) (S := fun w' => w'.cell? ⟨b9, 0, none⟩ = some (.func (.func 39) #[] #[.pointer (some ⟨b8, 0, none⟩), .pointer (some ⟨b7, 0, none⟩)]) ∧ w'.cell? ⟨b14, 0, none⟩ = some (.string tg.f0)) (ds := []) #[false, false, false, false, false, false, false, false] (by kernel_rfl) rfl rfl ⟨(blk_cell HP.out.drew.k9 0).trans rfl, (blk_cell (blk_drew KB.out) 0).trans rfl⟩ (fun hHeld => ?_)
        refine pure_ (i := 1) (N := some 83) (v := ?_) (a' := ?_) #[false, true, false, false, false, false, false, false] rfl rfl (by kernel_rfl) (fun _ _ _ h => h) (Or.inl ⟨by rfl, ?_⟩) ?_ ?_
        rotate_left
        ·intro w'
         go_simp
         with_reducible rfl
        rotate_left
        ·simp only [Act.put, List.setIfInBounds_toArray, List.set_cons_zero, List.set_cons_succ, i64_w, i32_w]
         rfl
        refine pure_ (i := 2) (N := some 84) (v := ?_) (a' := ?_) #[false, true, true, false, false, false, false, false] rfl rfl (by kernel_rfl) (fun _ _ _ h => h) (Or.inl ⟨by rfl, ?_⟩) ?_ ?_
        rotate_left
        ·intro w'
         go_simp
         with_reducible rfl
        rotate_left
        ·simp only [Act.put, List.setIfInBounds_toArray, List.set_cons_zero, List.set_cons_succ, i64_w, i32_w]
         rfl
        refine take_ (i := 0) (N := some 82) (v := ?_) (a' := ?_) #[true, true, true, false, false, false, false, false] rfl rfl (by kernel_rfl) (fun _ _ _ h => h) (Or.inl ⟨by rfl, ?_⟩) hHeld ?_ ?_
        rotate_left
        ·rintro w' ⟨s0, s1⟩
         go_simp
         with_reducible rfl
        rotate_left
        ·simp only [Act.put, List.setIfInBounds_toArray, List.set_cons_zero, List.set_cons_succ, i64_w, i32_w]
         rfl
        refine take_ (i := 3) (N := some 85) (v := ?_) (a' := ?_) #[true, true, true, true, false, false, false, false] rfl rfl (by kernel_rfl) (fun _ _ _ h => h) (Or.inl ⟨by rfl, ?_⟩) hHeld ?_ ?_
        rotate_left
        ·rintro w' ⟨s0, s1⟩
         go_simp
         with_reducible rfl
        rotate_left
        ·simp only [Act.put, List.setIfInBounds_toArray, List.set_cons_zero, List.set_cons_succ, i64_w, i32_w]
         rfl
        refine one_ (i := 4) (N := some 86) #[true, true, true, true, true, false, false, false] rfl rfl (by kernel_rfl) (by decide) (fun K hK => ?_)
        refine goes_ Try.func35 (by kernel_rfl) rfl #[.pointer (some ⟨d.g, 0, none⟩), .string tg.f0] (by rfl) rfl rfl (by first | (simp only [List.map_toArray, List.map_cons, List.map_nil]; done) | (simp only [List.map_toArray, List.map_cons, List.map_nil]; rfl) | simp) ?_
        with_reducible refine (HPUT.out).mono ?_
        rintro e wA ⟨Ay, cy, vj, rfl, hy, hp, hk⟩
        have HA := Aside0.mk hp
        have HY := Aside0.mk hy
        have KA := Aside0.mk (hk _ _ _ (by decide) (blk_drew KB.out))
        clear hp hy hk
        refine ⟨_, rfl, ?_⟩
        refine hK.out _ _ ⟨(blk_cell HA.out.k9 0).trans rfl, (blk_cell KA.out 0).trans rfl⟩ (fun hHeld => ?_)
        clear hK K
        refine norm_ (a' := ?_) ?_ ?_
        rotate_left
        ·show Act.put _ (some 86) _ = _
         simp only [Act.put, List.setIfInBounds_toArray, List.set_cons_zero, List.set_cons_succ, i64_w, i32_w]
         rfl
        refine pure_ (i := 5) (N := some 87) (v := ?_) (a' := ?_) #[true, true, true, true, true, true, false, false] rfl rfl (by kernel_rfl) (fun _ _ _ h => h) (Or.inl ⟨by rfl, ?_⟩) ?_ ?_
        rotate_left
        ·intro w'
         go_simp
         with_reducible rfl
        rotate_left
        ·simp only [Act.put, List.setIfInBounds_toArray, List.set_cons_zero, List.set_cons_succ, i64_w, i32_w]
         rfl
        refine pure_ (i := 6) (N := some 88) (v := ?_) (a' := ?_) #[true, true, true, true, true, true, true, false] rfl rfl (by kernel_rfl) (fun _ _ _ h => h) (Or.inl ⟨by rfl, ?_⟩) ?_ ?_
        rotate_left
        ·intro w'
         go_simp
         with_reducible rfl
        rotate_left
        ·simp only [Act.put, List.setIfInBounds_toArray, List.set_cons_zero, List.set_cons_succ, i64_w, i32_w]
         rfl
        refine one_ (i := 7) (N := some 89) #[true, true, true, true, true, true, true, true] rfl rfl (by kernel_rfl) (by decide) (fun K hK => ?_)
        refine goesW_ Try.func39 (by kernel_rfl) rfl #[.slice Ay q1.length cy, .int .i64 0, .pointer (some ⟨b8, 0, none⟩), .pointer (some ⟨b7, 0, none⟩)] (by rfl) rfl rfl (by rfl) (by simp only [List.map_toArray, List.map_cons, List.map_nil]; rfl) ?_
        refine (HA.out.app2 HY.out (by have := HLL.out; omega)).mono ?_
        rintro e wB ⟨rfl, x6, hp, hk⟩
        have HB := Aside0.mk hp
        have KC := Aside0.mk (hk _ _ _ (by decide) KA.out)
        clear hp hk
        refine ⟨_, rfl, ?_⟩
        refine hK.out _ _ ⟨(blk_cell HB.out.k9 0).trans rfl, (blk_cell KC.out 0).trans rfl⟩ (fun hHeld => ?_)
        clear hK K
        refine norm_ (a' := ?_) ?_ ?_
        rotate_left
        ·show Act.put _ (some 89) _ = _
         simp only [Act.put, List.setIfInBounds_toArray, List.set_cons_zero, List.set_cons_succ, i64_w, i32_w]
         rfl
        refine done_ (by kernel_rfl) ?_
        clear HP HPUT HA HY KA KB
        have HP := HB
        have KB := KC
        clear HB KC
        obtain ⟨wu, rfl⟩ : ∃ wu : World, wu = wB := ⟨_, rfl⟩
        have HPUT := Aside0.mk (HP.out.drew.put0 HWS.out.2.2.2 HWS.out.2.1 HQ2.out HWK.out)
        go_wp2
        refine start_ (n := 8) (S := fun w' => w'.cell? ⟨b9, 0, none⟩ = some (.func (.func 39) #[] #[.pointer (some ⟨b8, 0, none⟩), .pointer (some ⟨b7, 0, none⟩)]) ∧ w'.cell? ⟨b14, 1, none⟩ = some (.string tg.f1)) (ds := []) #[false, false, false, false, false, false, false, false] (by kernel_rfl) rfl rfl ⟨(blk_cell HP.out.drew.k9 0).trans rfl, (blk_cell (blk_drew KB.out) 1).trans rfl⟩ (fun hHeld => ?_)
        refine pure_ (i := 1) (N := some 91) (v := ?_) (a' := ?_) #[false, true, false, false, false, false, false, false] rfl rfl (by kernel_rfl) (fun _ _ _ h => h) (Or.inl ⟨by rfl, ?_⟩) ?_ ?_
        rotate_left
        ·intro w'
         go_simp
         with_reducible rfl
        rotate_left
        ·simp only [Act.put, List.setIfInBounds_toArray, List.set_cons_zero, List.set_cons_succ, i64_w, i32_w]
         rfl
        refine pure_ (i := 2) (N := some 92) (v := ?_) (a' := ?_) #[false, true, true, false, false, false, false, false] rfl rfl (by kernel_rfl) (fun _ _ _ h => h) (Or.inl ⟨by rfl, ?_⟩) ?_ ?_
        rotate_left
        ·intro w'
         go_simp
         with_reducible rfl
        rotate_left
        ·simp only [Act.put, List.setIfInBounds_toArray, List.set_cons_zero, List.set_cons_succ, i64_w, i32_w]
         rfl
        refine take_ (i := 0) (N := some 90) (v := ?_) (a' := ?_) #[true, true, true, false, false, false, false, false] rfl rfl (by kernel_rfl) (fun _ _ _ h => h) (Or.inl ⟨by rfl, ?_⟩) hHeld ?_ ?_
        rotate_left
        ·rintro w' ⟨s0, s1⟩
         go_simp
         with_reducible rfl
        rotate_left
        ·simp only [Act.put, List.setIfInBounds_toArray, List.set_cons_zero, List.set_cons_succ, i64_w, i32_w]
         rfl
        refine take_ (i := 3) (N := some 93) (v := ?_) (a' := ?_) #[true, true, true, true, false, false, false, false] rfl rfl (by kernel_rfl) (fun _ _ _ h => h) (Or.inl ⟨by rfl, ?_⟩) hHeld ?_ ?_
        rotate_left
        ·rintro w' ⟨s0, s1⟩
         go_simp
         with_reducible rfl
        rotate_left
        ·simp only [Act.put, List.setIfInBounds_toArray, List.set_cons_zero, List.set_cons_succ, i64_w, i32_w]
         rfl
        refine one_ (i := 4) (N := some 94) #[true, true, true, true, true, false, false, false] rfl rfl (by kernel_rfl) (by decide) (fun K hK => ?_)
        refine goes_ Try.func35 (by kernel_rfl) rfl #[.pointer (some ⟨d.g, 0, none⟩), .string tg.f1] (by rfl) rfl rfl (by first | (simp only [List.map_toArray, List.map_cons, List.map_nil]; done) | (simp only [List.map_toArray, List.map_cons, List.map_nil]; rfl) | simp) ?_
        with_reducible refine (HPUT.out).mono ?_
        rintro e wA ⟨Az, cz, vk, rfl, hy, hp, hk⟩
        have HA := Aside0.mk hp
        have HY := Aside0.mk hy
        have KA := Aside0.mk (hk _ _ _ (by decide) (blk_drew KB.out))
        clear hp hy hk
        refine ⟨_, rfl, ?_⟩
        refine hK.out _ _ ⟨(blk_cell HA.out.k9 0).trans rfl, (blk_cell KA.out 1).trans rfl⟩ (fun hHeld => ?_)
        clear hK K
        refine norm_ (a' := ?_) ?_ ?_
        rotate_left
        ·show Act.put _ (some 94) _ = _
         simp only [Act.put, List.setIfInBounds_toArray, List.set_cons_zero, List.set_cons_succ, i64_w, i32_w]
         rfl
        refine pure_ (i := 5) (N := some 95) (v := ?_) (a' := ?_) #[true, true, true, true, true, true, false, false] rfl rfl (by kernel_rfl) (fun _ _ _ h => h) (Or.inl ⟨by rfl, ?_⟩) ?_ ?_
        rotate_left
        ·intro w'
         go_simp
         with_reducible rfl
        rotate_left
        ·simp only [Act.put, List.setIfInBounds_toArray, List.set_cons_zero, List.set_cons_succ, i64_w, i32_w]
         rfl
        refine pure_ (i := 6) (N := some 96) (v := ?_) (a' := ?_) #[true, true, true, true, true, true, true, false] rfl rfl (by kernel_rfl) (fun _ _ _ h => h) (Or.inl ⟨by rfl, ?_⟩) ?_ ?_
        rotate_left
        ·intro w'
         go_simp
         with_reducible rfl
        rotate_left
        ·simp only [Act.put, List.setIfInBounds_toArray, List.set_cons_zero, List.set_cons_succ, i64_w, i32_w]
         rfl
        refine one_ (i := 7) (N := some 97) #[true, true, true, true, true, true, true, true] rfl rfl (by kernel_rfl) (by decide) (fun K hK => ?_)
        refine goesW_ Try.func39 (by kernel_rfl) rfl #[.slice Az q2.length cz, .int .i64 0, .pointer (some ⟨b8, 0, none⟩), .pointer (some ⟨b7, 0, none⟩)] (by rfl) rfl rfl (by rfl) (by simp only [List.map_toArray, List.map_cons, List.map_nil]; rfl) ?_
        refine (HA.out.app2 HY.out (by have := HLL.out; simp only [List.length_append]; omega)).mono ?_
        rintro e wB ⟨rfl, x7, hp, hk⟩
        have HB := Aside0.mk hp
        have KC := Aside0.mk (hk _ _ _ (by decide) KA.out)
        clear hp hk
        refine ⟨_, rfl, ?_⟩
        refine hK.out _ _ ⟨(blk_cell HB.out.k9 0).trans rfl, (blk_cell KC.out 1).trans rfl⟩ (fun hHeld => ?_)
        clear hK K
        refine norm_ (a' := ?_) ?_ ?_
        rotate_left
        ·show Act.put _ (some 97) _ = _
         simp only [Act.put, List.setIfInBounds_toArray, List.set_cons_zero, List.set_cons_succ, i64_w, i32_w]
         rfl
        refine done_ (by kernel_rfl) ?_
        have n0 := HB.out
        rw [← HLI.out] at n0
        have HPN : Aside0 (PS okm d b3 b7 b8 b9 m Av cv (some ad) ct vk (ptags ws1 (m.f4.take (i + 1).toNat)).2 x7 (l3 ++ (ptags ws1 (m.f4.take (i + 1).toNat)).1) w wB) := ⟨by rw [HSN.out]; simp only [List.append_assoc] at n0 ⊢; exact n0⟩
        clear n0 HP HB KB KC HA KA HY HPUT
        have HW := Aside0.mk (show wrap64 (i + 1) = i + 1 from IntWalk.wrap64_in _ (by have := HQ.out.2.2.2.1.1; omega))
        go_wp2
        have hw := HW.out
        go_roundw
        case rel => rw [hw]; exact ⟨i + 1, vk, x7, rfl, by omega, by have := HIN.out; omega, HPN⟩
        case measure => rw [hw]; have := HIN.out; simp [intOf]; omega
       ·have hie : i = (m.f4.length : Int) := by omega
        subst hie
        have hp0 := HP.out
        rw [Int.toNat_natCast, List.take_length] at hp0
        have HLB4 := Aside0.mk (show (l3 ++ (ptags ws1 m.f4).1).length ≤ 40000 by
         have h1 := HQ.out.2.2.2.1.1
         have h2 := HG1.out
         have h3 := HLB3.out
         have h4 := ptags_bd m.f4 ws1 (by omega)
         rw [List.length_append]
         omega)
        clear HP hi hi0 hlt
        have HP := Aside0.mk hp0
        clear hp0
        obtain ⟨wu, rfl⟩ : ∃ wu : World, wu = wo := ⟨_, rfl⟩
        have z35 : wu.cell? ⟨b3, 5, none⟩ = some (.int .i64 m.f5) := (blk_cell HP.out.k3 5).trans rfl
        go_wp2_with (first | ((with_reducible refine gate_dst (N := 102) rfl ?_); refine goesV_ (some 102) rfl rfl rfl rfl Try.func40 (by kernel_rfl) rfl #[.int .i64 m.f5, .pointer (some ⟨b9, 0, none⟩)] (by simp only [List.map_toArray, List.map_cons, List.map_nil]; rfl) ?_; (have hQ := HP.out.num m.f5 HQ.out.2.2.2.2 (by have := HLB4.out; omega)); refine hQ.mono ?_; (rintro e wE ⟨rfl, x8, hp⟩); have HP5 := Aside0.mk hp; clear hp hQ z35; refine ⟨_, rfl, ?_⟩; have z8 : wE.cell? ⟨b8, 0, none⟩ = some (.int .i64 0) := (blk_cell HP5.out.k8 0).trans rfl; have z7 : wE.cell? ⟨b7, 0, none⟩ = some x8 := (blk_cell HP5.out.k7 0).trans rfl))
        go_ret2
        refine ⟨x8, ?_, ?_, ?_⟩
        ·rw [HPC.out]
         rfl
        ·rw [if_pos HPC.out]
         unfold pmet
         rw [HP0.out, HWS1.out]
         have h := HP5.out.r
         rw [← HL3.out, ← HL2.out, ← HL1.out] at h
         simp only [List.append_assoc] at h ⊢
         exact h
        ·rw [if_pos HPC.out]
         unfold pmet
         rw [HWS1.out]
         exact ⟨_, HP5.out.dic, HP5.out.chg, HP5.out.nx⟩
 ·have hbn : (bd == 0) = false := by simpa using h0
  have hbn2 : (bd != 0) = true := by simpa using h0
  go_wp2
  go_ret2
  refine PPost.no HD0.out HB.out ?_ h0
  unfold pcode
  rw [if_neg (by rw [HBD.out]; exact h0), HBD.out]
end Go.Proofs.Ytclbmdblalgdjaa
/- forebaylaw16: awake: always so; no condition. -/
namespace Go.Proofs.Ytclbmdblalgdjaa
open Go.RowKit Go.Proofs.YtclbmdblalgdjaaW.PrintWords Go.Proofs.YtclbmdblalgdjaaW.PrintLast Go.Proofs.YtclbmdblalgdjaaW.PrintMore Go.Proofs.Ytclbmdblalgdjaa.PE
set_option linter.unusedVariables false
set_option linter.unusedSimpArgs false
def metA : MetS := ⟨⟨#[97]⟩, 1, [⟨false, 15, -1⟩], 1000000, [], 0⟩
theorem metA_bad : metBad metA = 0 := by decide +kernel
theorem metA_code : pcode [] metA = 0 := by
 unfold pcode
 rw [if_pos metA_bad, if_pos (by decide), if_neg (by decide)]
theorem metA_bytes : (pmet [] metA).1 = [0, 1, 97, 1, 1, 2, 15, 192, 132, 61, 0, 0] := by decide +kernel
theorem metA_in : metIn metA = true := by decide +kernel
set_option maxHeartbeats 4000000 in
set_option maxRecDepth 100000 in
theorem awake16_calls (w : World) : Calls Try.prog 10 #[] w fun e w' => e = .returned (.bool true) ∧ Below w.heap.size w w' := by
 have HB := Aside0.mk (Below.refl w.heap.size w)
 go_enter Try.func10, Try.ntmps10
 go_wp2_with fail
 with_reducible refine Calls.stepNew HB ?_
 clear HB
 intro g gm w1 HD HN HF hb1 HB
 go_wp2_with (first | ((with_reducible refine gate_dst (N := 6) rfl ?_); refine Kd.R_lit k48 _ 48 ?hg (N := 6) ?hd (xs := ([(⟨false, 15, -1⟩ : DecS)] : List DecS)) (inner := [.bool false, .int .u64 15, .int .i64 (-1)]) (ok := fun _ => True) (okp := fun _ => True) ?hr ?hp (fun _ hk => hk) trivial (Below.refl _ _) (Nat.le_refl _) (by simp) ?_; (case hd => rfl); (case hg => rfl); (case hr => first | (go_simp; done) | (go_simp; rfl)); (case hp => exact (Reps.c3 (show Kd.M k48 _ _ _ (⟨false, 15, -1⟩ : DecS) [.bool false, .int .u64 15, .int .i64 (-1)] from (k48_mkM _ _ _ (⟨false, 15, -1⟩ : DecS) )) (Reps.none _ _))); intro v6 w2 ho hb hg_ hnew_; clear hg_ hnew_; have HO := Aside0.mk ho; have HB2 := Aside0.mk hb; clear ho hb; obtain ⟨A6, c6, e6⟩ := Kd.R_slice HO.out; subst e6) | fail)
 have hq : Calls Try.prog 12 #[.pointer (some ⟨g, 0, none⟩), .agg #[.string ⟨#[97]⟩, .int .i64 1, .slice A6 1 c6, .int .i64 1000000, .slice none 0 0, .int .i64 0]] w2 (PPost ⟨g, gm, .slice none 0 0, []⟩ metA w2) := by
  obtain ⟨A, c, e, hle, _⟩ := Kd.R_reads HO.out
  injection e with e1 e2 e3
  refine recput_calls (okm := fun k => some k = (Value.slice A6 1 c6).ownBlock) ⟨g, gm, .slice none 0 0, []⟩ metA A6 c6 none 0 w2 (HD.out.below HB2.out) ⟨Kd.R_F (Kd.R_mono (Kd.R_tight rfl HO.out) (fun k hk => hk)), by rw [e3]; exact hle, fun W' hW => Kd.C_nil _ _, Nat.le_refl _, metA_in⟩ ?_ ?_
  ·intro k hk hF
   have h1 := Kd.R_base HO.out k hk.symm
   have h2 := HD.out.lt k hF
   omega
  ·exact fun k hk => Kd.R_lt HO.out k hk.symm
 refine hq.mono ?_
 rintro e w3 ⟨v, he, hR, vd, hd, hc, _⟩
 simp only [metA_code, if_true, metA_bytes] at he hR
 subst he
 obtain ⟨A9, c9, rfl, hle9, hC9⟩ := Kd.R_reads hR
 have HC9 := Aside0.mk hC9
 have HL9 := Aside0.mk hle9
 have HB3 := Aside0.mk (Below.trans (below_step HB.out HB2.out) (hc.to_below HF.out (Nat.le_trans (below_size HB.out) (below_size HB2.out))))
 clear hq hR hd hc hC9 hle9 HB HB2 HO HD HF HN hb1
 have HSM := Aside0.mk (fun b : Bool => forebaylaw16_same.calls A9 c9 [0, 1, 97, 1, 1, 2, 15, 192, 132, 61, 0, 0] (some ⟨w3.heap.size, 0, none⟩) 12 [0, 1, 97, 1, 1, 2, 15, 192, 132, 61, 0, 0] true (w3.alloc (.cells (nums .u8 [0, 1, 97, 1, 1, 2, 15, 192, 132, 61, 0, 0]).toArray 5)) (Kd.C_below HC9.out (below_alloc (Below.refl _ _) _)) HL9.out (lit_C 5 [0, 1, 97, 1, 1, 2, 15, 192, 132, 61, 0, 0] (by decide)) (by decide) (by unfold forebaylaw16_same.f; simp))
 go_wp2_with fail
 refine (HSM.out true).mono ?_
 rintro e w4 ⟨rfl, hd⟩
 have HB4 := Aside0.mk (below_step (below_alloc HB3.out (.cells (nums .u8 [0, 1, 97, 1, 1, 2, 15, 192, 132, 61, 0, 0]).toArray 5)) hd.below)
 clear hd HSM HC9 HB3
 go_wp2
 go_ret
 exact ⟨rfl, HB4.out⟩
end Go.Proofs.Ytclbmdblalgdjaa
/- forebaylaw16: with, Few, texts; no condition. -/
namespace Go.Proofs.Ytclbmdblalgdjaa
open Go.RowKit Go.Proofs.YtclbmdblalgdjaaW.PrintWords Go.Proofs.YtclbmdblalgdjaaW.PrintLast Go.Proofs.YtclbmdblalgdjaaW.PrintMore Go.Proofs.Ytclbmdblalgdjaa.PE
set_option linter.unusedVariables false
set_option linter.unusedSimpArgs false
theorem texts_l0 (l : List ByteArray) (hl : l.length ≤ 1000000) : ∀ (d : Nat) (i : Int), 0 ≤ i → i + (d : Int) = (l.length : Int) → Ev (fun k => forebaylaw16_texts.l0 k l l i) true
 | 0, i, h0, h => Ev.step (f := fun _ => some true) (fun k => by unfold forebaylaw16_texts.l0; exact if_neg (by omega)) (Ev.now _)
 | d + 1, i, h0, h => by
  have ih := texts_l0 l hl d (i + 1) (by omega) (by omega)
  refine Ev.step (fun k => ?_) ih
  have hw : wrap64 (i + 1) = i + 1 := IntWalk.wrap64_in _ (by omega)
  show forebaylaw16_texts.l0 (k + 1) l l i = forebaylaw16_texts.l0 k l l (i + 1)
  rw [forebaylaw16_texts.l0, if_pos (by omega), if_pos h0, if_pos (by omega), if_pos rfl, hw]
theorem texts_same (A0 : Option Addr) (c0 : Nat) (A1 : Option Addr) (c1 : Nat) (l : List ByteArray) (w : World) (h0 : Kd.string.C w A0 l.length l) (hc0 : l.length ≤ c0) (h1 : Kd.string.C w A1 l.length l) (hc1 : l.length ≤ c1) (hl : l.length ≤ 1000000) :
  Calls Try.prog 14 #[.slice A0 l.length c0, .slice A1 l.length c1] w fun e w' => e = .returned (.bool true) ∧ Drawn0 w w' := by
 obtain ⟨k, hk⟩ := Ev.rounds (texts_l0 l hl l.length 0 (by omega) (by omega))
 exact forebaylaw16_texts.calls k A0 c0 l A1 c1 l true w h0 hc0 h1 hc1 (by unfold forebaylaw16_texts.f; rw [if_pos rfl]; exact hk)
theorem few_l0 (l : List ByteArray) : ∀ (d : Nat) (i : Nat), i + d = min l.length 41 → (∀ s ∈ l.take i, s.size ≤ 250) → ∃ b, Ev (fun k => forebaylaw16_Few.l0 k l (i : Int)) b ∧ (b = true → l.length ≤ 40 ∧ ∀ s ∈ l, s.size ≤ 250)
 | 0, i, h, hs => by
  have hj : Ev (fun k => forebaylaw16_Few.j1 k l (i : Int) false) (decide ((l.length : Int) ≤ 40)) := Ev.step (f := fun _ => some (decide ((l.length : Int) ≤ 40))) (fun k => by unfold forebaylaw16_Few.j1; exact if_neg (by decide)) (Ev.now _)
  refine ⟨decide ((l.length : Int) ≤ 40), ?_, fun hb => ?_⟩
  ·by_cases hi : (i : Int) < (l.length : Int)
   ·exact Ev.step (fun k => by unfold forebaylaw16_Few.l0; rw [if_pos hi, decide_eq_false (show ¬ (i : Int) < 41 by omega)]) hj
   ·exact Ev.step (fun k => by unfold forebaylaw16_Few.l0; rw [if_neg hi]) hj
  ·rw [decide_eq_true_eq] at hb
   refine ⟨by omega, fun s hm => hs s ?_⟩
   rw [List.take_of_length_le (by omega)]
   exact hm
 | d + 1, i, h, hs => by
  have hi : i < l.length := by omega
  have hi4 : i < 41 := by omega
  obtain ⟨x, hx⟩ : ∃ x, rdOf ByteArray.empty l (i : Int) = x := ⟨_, rfl⟩
  have hx2 : l[i] = x := by
   rw [← hx]
   unfold rdOf
   rw [Int.toNat_natCast, List.getD_eq_getElem?_getD, List.getElem?_eq_getElem hi]
   rfl
  by_cases hb : (x.size : Int) > 250
  ·refine ⟨false, ?_, fun h => by cases h⟩
   refine Ev.step (f := fun k => forebaylaw16_Few.j1 k l (i : Int) true) (fun k => by unfold forebaylaw16_Few.l0; rw [if_pos (by omega), decide_eq_true (show (i : Int) < 41 by omega)]) ?_
   exact Ev.step (f := fun _ => some false) (fun k => by unfold forebaylaw16_Few.j1; rw [if_pos rfl, if_pos (by omega), if_pos (by omega), hx, if_pos hb]) (Ev.now _)
  ·obtain ⟨b, h1, h2⟩ := few_l0 l d (i + 1) (by omega) (fun s hm => by
    rw [List.take_succ_eq_append_getElem hi, List.mem_append] at hm
    rcases hm with hm | hm
    ·exact hs s hm
    ·rw [hx2] at hm
     obtain rfl : s = x := by simpa using hm
     omega)
   refine ⟨b, ?_, h2⟩
   refine Ev.step (f := fun k => forebaylaw16_Few.j1 k l (i : Int) true) (fun k => by unfold forebaylaw16_Few.l0; rw [if_pos (by omega), decide_eq_true (show (i : Int) < 41 by omega)]) ?_
   refine Ev.step (fun k => ?_) h1
   show forebaylaw16_Few.j1 (k + 1) l (i : Int) true = forebaylaw16_Few.l0 k l ((i + 1 : Nat) : Int)
   rw [forebaylaw16_Few.j1, if_pos rfl, if_pos (by omega), if_pos (by omega), hx, if_neg hb, IntWalk.wrap64_in _ (by omega)]
   rfl
theorem few16_all (l : List ByteArray) : ∃ b, (∀ (A : Option Addr) (c : Nat) (w : World), Kd.string.C w A l.length l → l.length ≤ c → (Calls Try.prog 8 #[.slice A l.length c] w fun e w' => e = .returned (.bool b) ∧ Drawn0 w w')) ∧ (b = true → l.length ≤ 40 ∧ ∀ s ∈ l, s.size ≤ 250) := by
 obtain ⟨b, h1, h2⟩ := few_l0 l (min l.length 41) 0 (by omega) (fun s hm => absurd hm (by simp))
 obtain ⟨k, hk⟩ := Ev.rounds h1
 exact ⟨b, fun A c w h hc => forebaylaw16_Few.calls k A c l b w h hc hk, h2⟩
attribute [local go_sem high] eqFault
set_option maxHeartbeats 8000000 in
set_option maxRecDepth 100000 in
theorem with16_calls (A0 : Option Addr) (c0 : Nat) (l : List ByteArray) (w : World) (hC : Kd.string.C w A0 l.length l) (hl80 : l.length ≤ 40) (hsz : ∀ s ∈ l, s.size ≤ 250) :
  Calls Try.prog 11 #[.slice A0 l.length c0] w fun e w' => ∃ g gm vd gr vr, e = .returned (.tuple #[.pointer (some ⟨g, 0, none⟩), .pointer (some ⟨gr, 0, none⟩)]) ∧ DR ⟨g, gm, vd, putsW [] l⟩ ⟨gr, vr, putsW [] l⟩ w w' ∧ Below w.heap.size w w' := by
 have HCW := Aside0.mk hC
 have HSZ := Aside0.mk hsz
 have HB := Aside0.mk (Below.refl w.heap.size w)
 clear hC hsz
 go_enter Try.func11, Try.ntmps11
 go_wp2_with fail
 with_reducible refine Calls.stepNew HB ?_
 clear HB
 intro g gm w1 HD hnew HF hb1 HB
 have HDR := Aside0.mk (show DR ⟨g, gm, .slice none 0 0, []⟩ ⟨w1.heap.size, .slice none 0 0, []⟩ w (w1.alloc (.cells #[.slice none 0 0] 40)) from
  by
  refine ⟨HD.out.alloc _, ⟨blk_new _ _, Kd.R_nil _ _ _ _ _, by simp⟩, HF.out, ?_, ?_⟩
  ·rintro k (rfl | hk)
   ·exact below_size HB.out
   ·cases hk
  ·rintro k (rfl | hk) hF
   ·have := HD.out.lt _ hF
    have e : w1.heap.size < w1.heap.size := this
    omega
   ·cases hk)
 clear hnew hb1 HD HF
 go_wp2
 go_loopw [6] (fun v6 w' => ∃ (i : Int) (vd vr : Value), v6 = .int .i64 i ∧ 0 ≤ i ∧ i ≤ (l.length : Int) ∧ Aside0 (DR ⟨g, gm, vd, putsW [] (l.take i.toNat)⟩ ⟨w1.heap.size, vr, putsW [] (l.take i.toNat)⟩ w w') ∧ Aside0 (Below w.heap.size w w')) (fun v6 _ => l.length - (intOf v6).toNat)
 case atStart => exact ⟨0, _, _, rfl, by omega, by omega, HDR, ⟨below_alloc HB.out _⟩⟩
 case round =>
  clear HB HDR
  obtain ⟨i, vd, vr, rfl, hi0, hi, HDR, HB⟩ := hrel
  obtain ⟨ws, hws⟩ : ∃ ws, putsW [] (l.take i.toNat) = ws := ⟨_, rfl⟩
  rw [hws] at HDR
  have HWS := Aside0.mk hws
  clear hws
  obtain ⟨wo, rfl⟩ : ∃ wo : World, wo = wr := ⟨_, rfl⟩
  by_cases hlt : i < (l.length : Int)
  ·obtain ⟨ad, e, hx0⟩ := str_at HCW.out i hi0 hlt
   cases e
   obtain ⟨s0, hs0⟩ : ∃ s, l.getD i.toNat ByteArray.empty = s := ⟨_, rfl⟩
   rw [hs0] at hx0
   have hs250 := HSZ.out s0 (by rw [← hs0]; exact getD_mem (by omega))
   have HNX := Aside0.mk (show putsW [] (l.take (i + 1).toNat) = (dput ws s0).2.2 by rw [putsW_take hi0 hlt, HWS.out, hs0])
   obtain ⟨xs, code, ws', he⟩ : ∃ xs code ws', dput ws s0 = (xs, code, ws') := ⟨_, _, _, rfl⟩
   rw [he] at HNX
   have HE := Aside0.mk he
   have HX0 := Aside0.mk hx0
   have hx1 := pw_cell_below HB.out hx0
   clear hs0 he hx0
   go_wp2_with fail
   with_reducible refine Calls.stepPut HE.out (by omega) ⟨HDR.out.dic⟩ ⟨HDR.out.df⟩ HB ?_
   clear HB
   intro A3 c3 vd1 w2 HD1 HF1 HG1 HN1 HR1 HB
   have HRD := Aside0.mk (HDR.out.ref.step HG1.out HDR.out.ap)
   have HAP := Aside0.mk (show ∀ k, (⟨w1.heap.size, vr, ws⟩ : RDic).F k → ¬ (⟨g, gm, vd1, ws'⟩ : Dic).F k from fun k hk hF => (HN1.out k hF).elim (HDR.out.ap k hk) (fun h => by have := HDR.out.ref.lt k hk; omega))
   have HRF := Aside0.mk HDR.out.rf
   have hx2 := pw_cell_below HB.out HX0.out
   clear HDR HG1 HN1 hx1
   go_wp2_with fail
   with_reducible refine Calls.stepRPut HE.out (by omega) HRD HRF HB ?_
   clear HB
   intro A4 c4 vr2 w3 HRD2 HRF2 HG2 HN2 HR2 HB
   have n1 := Aside0.mk (HD1.out.step HG2.out (fun k hk hF => HAP.out k hF hk))
   have n2 := Aside0.mk (show ∀ k, (⟨w1.heap.size, vr2, ws'⟩ : RDic).F k → ¬ (⟨g, gm, vd1, ws'⟩ : Dic).F k from fun k hk hF => (HN2.out k hk).elim (fun h => HAP.out k h hF) (fun h => by have := HD1.out.lt k hF; omega))
   have HDR := Aside0.mk (show DR ⟨g, gm, vd1, ws'⟩ ⟨w1.heap.size, vr2, ws'⟩ w w3 from ⟨n1.out, HRD2.out, HF1.out, HRF2.out, n2.out⟩)
   clear HR1 HR2 HD1 HRD HAP HG2 HN2 HRD2 HF1 HRF HRF2 n1 n2 hx2
   go_wp2
   go_roundw
   case rel => exact ⟨i + 1, vd1, vr2, by go_num, by omega, by omega, by rw [HNX.out]; exact HDR, HB⟩
   case measure => simp [intOf]; omega
  ·go_wp2
   go_ret2
   have hd := HDR.out
   rw [← HWS.out, List.take_of_length_le (by omega)] at hd
   exact ⟨g, gm, vd, w1.heap.size, rfl, ⟨vr, hd⟩, HB.out⟩
end Go.Proofs.Ytclbmdblalgdjaa
/- Package rec: fine, bound, number, word, GetDec: what they tell and turn; no condition. -/
namespace Go.Proofs.Ytclbmdblalgdjaa
open Go.RowKit Go.Proofs.YtclbmdblalgdjaaW.PrintWords Go.Proofs.YtclbmdblalgdjaaW.PrintLast Go.Proofs.YtclbmdblalgdjaaW.PrintMore Go.Proofs.Ytclbmdblalgdjaa.PE
set_option linter.unusedVariables false
set_option linter.unusedSimpArgs false
attribute [local go_sem high] eqFault
set_option maxHeartbeats 1000000 in
set_option maxRecDepth 100000 in
theorem recfine_calls {ok : Nat → Prop} (g : Nat) (s : Cu) (w : World) (h : CurAt ok g s w) : Calls Try.prog 53 #[.pointer (some ⟨g, 0, none⟩)] w fun e w' => e = .returned (.bool s.fine) ∧ Below w.heap.size w w' := by
 have H := Aside0.mk h
 have HB := Aside0.mk (Below.refl w.heap.size w)
 clear h
 go_enter Try.func53, Try.ntmps53
 go_wp2_with fail
 with_reducible refine Calls.stepB (curfault_calls g s _ H.out) ⟨(by repeat (first | (with_reducible first | exact HB.out | apply below_alloc | apply pw_below_drewN | apply below_drew1) | exact HB.out))⟩ ?_
 clear HB
 intro w_ HK HB
 clear HK
 go_wp2
 go_ret
 exact ⟨rfl, (by repeat (first | (with_reducible first | exact HB.out | apply below_alloc | apply pw_below_drewN | apply below_drew1) | exact HB.out))⟩
set_option maxHeartbeats 2000000 in
set_option maxRecDepth 100000 in
theorem boundu_calls (FT : FuncId) (ft : Func) (hft : Try.prog.funcs[FT]? = some ft) (hnt : (ft.name == "runtime.NumGoroutine") = false) (hbt : ft.body.isSome = true) (ct : Array Value)
  (FM : FuncId) (fm : Func) (hfm : Try.prog.funcs[FM]? = some fm) (hnm : (fm.name == "runtime.NumGoroutine") = false) (hbm : fm.body.isSome = true) (cm : Array Value)
  (p : Value) (ec at_ : Int) (x : Int) (b : Bool) (P0 P1 P2 : World → Prop)
  (hA : ∀ W, P0 W → Calls Try.prog 25 #[p] W fun e W' => e = .returned (.int .i64 at_) ∧ P0 W')
  (hT : ∀ W, P0 W → Calls Try.prog FT ct W fun e W' => e = .returned (.int .u64 x) ∧ P1 W')
  (hM : ∀ W, P1 W → Calls Try.prog FM (#[.int .u64 x] ++ cm) W fun e W' => e = .returned (.bool b) ∧ P1 W')
  (hF : b = false → ∀ W, P1 W → Calls Try.prog 54 #[p, .int .i64 ec, .int .i64 at_] W fun e W' => e = .returned (.tuple #[]) ∧ P2 W')
  (hG : b = true → ∀ W, P1 W → P2 W) (w : World) (h0 : P0 w) :
  Calls Try.prog 103 #[p, .int .i64 ec, .func (.func FT) #[] ct, .func (.func FM) #[] cm] w fun e w' => e = .returned (.int .u64 x) ∧ P2 w' := by
 have HFT := Aside0.mk hft
 have HNT := Aside0.mk hnt
 have HBT := Aside0.mk hbt
 have HFM := Aside0.mk hfm
 have HNM := Aside0.mk hnm
 have HBM := Aside0.mk hbm
 have HA := Aside0.mk hA
 have HT := Aside0.mk hT
 have HM := Aside0.mk hM
 have HF := Aside0.mk hF
 have HG := Aside0.mk hG
 have H0 := Aside0.mk h0
 clear hft hnt hbt hfm hnm hbm hA hT hM hF hG h0
 cases b with
 | false =>
  go_enter Try.func103, Try.ntmps103
  go_wp2_with fail
  refine (HA.out _ H0.out).mono ?_
  rintro e w1 ⟨rfl, h1⟩
  have H1 := Aside0.mk h1
  clear h1 H0
  go_wp2_with (first | ((with_reducible refine gate_dst (N := 14) rfl ?_); go_must (refine goesV_ (some 14) rfl rfl rfl rfl HFT.out HNT.out HBT.out ct (by simp) ?_); refine (HT.out _ H1.out).mono ?_; rintro e w2 ⟨rfl, h2⟩; have H2 := Aside0.mk h2; clear h2; refine ⟨_, rfl, ?_⟩) | ((with_reducible refine gate_dst (N := 17) rfl ?_); go_must (refine goesV_ (some 17) rfl rfl rfl rfl HFM.out HNM.out HBM.out (#[.int .u64 x] ++ cm) (by simp only [List.map_toArray, List.map_cons, List.map_nil]; rfl) ?_); refine (HM.out _ H2.out).mono ?_; rintro e w3 ⟨rfl, h3⟩; have H3 := Aside0.mk h3; clear h3; refine ⟨_, rfl, ?_⟩))
  refine (HF.out (by first | rfl | trivial) _ H3.out).mono ?_
  rintro e w4 ⟨rfl, h4⟩
  go_wp2
  go_ret
  exact ⟨rfl, h4⟩
 | true =>
  go_enter Try.func103, Try.ntmps103
  go_wp2_with fail
  refine (HA.out _ H0.out).mono ?_
  rintro e w1 ⟨rfl, h1⟩
  have H1 := Aside0.mk h1
  clear h1 H0
  go_wp2_with (first | ((with_reducible refine gate_dst (N := 14) rfl ?_); go_must (refine goesV_ (some 14) rfl rfl rfl rfl HFT.out HNT.out HBT.out ct (by simp) ?_); refine (HT.out _ H1.out).mono ?_; rintro e w2 ⟨rfl, h2⟩; have H2 := Aside0.mk h2; clear h2; refine ⟨_, rfl, ?_⟩) | ((with_reducible refine gate_dst (N := 17) rfl ?_); go_must (refine goesV_ (some 17) rfl rfl rfl rfl HFM.out HNM.out HBM.out (#[.int .u64 x] ++ cm) (by simp only [List.map_toArray, List.map_cons, List.map_nil]; rfl) ?_); refine (HM.out _ H2.out).mono ?_; rintro e w3 ⟨rfl, h3⟩; have H3 := Aside0.mk h3; clear h3; refine ⟨_, rfl, ?_⟩))
  go_ret
  exact ⟨rfl, HG.out (by first | rfl | trivial) _ H3.out⟩
set_option maxHeartbeats 2000000 in
set_option maxRecDepth 100000 in
theorem bounds_calls (FT : FuncId) (ft : Func) (hft : Try.prog.funcs[FT]? = some ft) (hnt : (ft.name == "runtime.NumGoroutine") = false) (hbt : ft.body.isSome = true) (ct : Array Value)
  (FM : FuncId) (fm : Func) (hfm : Try.prog.funcs[FM]? = some fm) (hnm : (fm.name == "runtime.NumGoroutine") = false) (hbm : fm.body.isSome = true) (cm : Array Value)
  (p : Value) (ec at_ : Int) (x : ByteArray) (b : Bool) (P0 P1 P2 : World → Prop)
  (hA : ∀ W, P0 W → Calls Try.prog 25 #[p] W fun e W' => e = .returned (.int .i64 at_) ∧ P0 W')
  (hT : ∀ W, P0 W → Calls Try.prog FT ct W fun e W' => e = .returned (.string x) ∧ P1 W')
  (hM : ∀ W, P1 W → Calls Try.prog FM (#[.string x] ++ cm) W fun e W' => e = .returned (.bool b) ∧ P1 W')
  (hF : b = false → ∀ W, P1 W → Calls Try.prog 54 #[p, .int .i64 ec, .int .i64 at_] W fun e W' => e = .returned (.tuple #[]) ∧ P2 W')
  (hG : b = true → ∀ W, P1 W → P2 W) (w : World) (h0 : P0 w) :
  Calls Try.prog 98 #[p, .int .i64 ec, .func (.func FT) #[] ct, .func (.func FM) #[] cm] w fun e w' => e = .returned (.string x) ∧ P2 w' := by
 have HFT := Aside0.mk hft
 have HNT := Aside0.mk hnt
 have HBT := Aside0.mk hbt
 have HFM := Aside0.mk hfm
 have HNM := Aside0.mk hnm
 have HBM := Aside0.mk hbm
 have HA := Aside0.mk hA
 have HT := Aside0.mk hT
 have HM := Aside0.mk hM
 have HF := Aside0.mk hF
 have HG := Aside0.mk hG
 have H0 := Aside0.mk h0
 clear hft hnt hbt hfm hnm hbm hA hT hM hF hG h0
 cases b with
 | false =>
  go_enter Try.func98, Try.ntmps98
  go_wp2_with fail
  refine (HA.out _ H0.out).mono ?_
  rintro e w1 ⟨rfl, h1⟩
  have H1 := Aside0.mk h1
  clear h1 H0
  go_wp2_with (first | ((with_reducible refine gate_dst (N := 14) rfl ?_); go_must (refine goesV_ (some 14) rfl rfl rfl rfl HFT.out HNT.out HBT.out ct (by simp) ?_); refine (HT.out _ H1.out).mono ?_; rintro e w2 ⟨rfl, h2⟩; have H2 := Aside0.mk h2; clear h2; refine ⟨_, rfl, ?_⟩) | ((with_reducible refine gate_dst (N := 17) rfl ?_); go_must (refine goesV_ (some 17) rfl rfl rfl rfl HFM.out HNM.out HBM.out (#[.string x] ++ cm) (by simp only [List.map_toArray, List.map_cons, List.map_nil]; rfl) ?_); refine (HM.out _ H2.out).mono ?_; rintro e w3 ⟨rfl, h3⟩; have H3 := Aside0.mk h3; clear h3; refine ⟨_, rfl, ?_⟩))
  refine (HF.out (by first | rfl | trivial) _ H3.out).mono ?_
  rintro e w4 ⟨rfl, h4⟩
  go_wp2
  go_ret
  exact ⟨rfl, h4⟩
 | true =>
  go_enter Try.func98, Try.ntmps98
  go_wp2_with fail
  refine (HA.out _ H0.out).mono ?_
  rintro e w1 ⟨rfl, h1⟩
  have H1 := Aside0.mk h1
  clear h1 H0
  go_wp2_with (first | ((with_reducible refine gate_dst (N := 14) rfl ?_); go_must (refine goesV_ (some 14) rfl rfl rfl rfl HFT.out HNT.out HBT.out ct (by simp) ?_); refine (HT.out _ H1.out).mono ?_; rintro e w2 ⟨rfl, h2⟩; have H2 := Aside0.mk h2; clear h2; refine ⟨_, rfl, ?_⟩) | ((with_reducible refine gate_dst (N := 17) rfl ?_); go_must (refine goesV_ (some 17) rfl rfl rfl rfl HFM.out HNM.out HBM.out (#[.string x] ++ cm) (by simp only [List.map_toArray, List.map_cons, List.map_nil]; rfl) ?_); refine (HM.out _ H2.out).mono ?_; rintro e w3 ⟨rfl, h3⟩; have H3 := Aside0.mk h3; clear h3; refine ⟨_, rfl, ?_⟩))
  go_ret
  exact ⟨rfl, HG.out (by first | rfl | trivial) _ H3.out⟩
set_option maxHeartbeats 2000000 in
set_option maxRecDepth 100000 in
theorem boundi_calls (FT : FuncId) (ft : Func) (hft : Try.prog.funcs[FT]? = some ft) (hnt : (ft.name == "runtime.NumGoroutine") = false) (hbt : ft.body.isSome = true) (ct : Array Value)
  (FM : FuncId) (fm : Func) (hfm : Try.prog.funcs[FM]? = some fm) (hnm : (fm.name == "runtime.NumGoroutine") = false) (hbm : fm.body.isSome = true) (cm : Array Value)
  (p : Value) (ec at_ : Int) (x : Int) (b : Bool) (P0 P1 P2 : World → Prop)
  (hA : ∀ W, P0 W → Calls Try.prog 25 #[p] W fun e W' => e = .returned (.int .i64 at_) ∧ P0 W')
  (hT : ∀ W, P0 W → Calls Try.prog FT ct W fun e W' => e = .returned (.int .i64 x) ∧ P1 W')
  (hM : ∀ W, P1 W → Calls Try.prog FM (#[.int .i64 x] ++ cm) W fun e W' => e = .returned (.bool b) ∧ P1 W')
  (hF : b = false → ∀ W, P1 W → Calls Try.prog 54 #[p, .int .i64 ec, .int .i64 at_] W fun e W' => e = .returned (.tuple #[]) ∧ P2 W')
  (hG : b = true → ∀ W, P1 W → P2 W) (w : World) (h0 : P0 w) :
  Calls Try.prog 61 #[p, .int .i64 ec, .func (.func FT) #[] ct, .func (.func FM) #[] cm] w fun e w' => e = .returned (.int .i64 x) ∧ P2 w' := by
 have HFT := Aside0.mk hft
 have HNT := Aside0.mk hnt
 have HBT := Aside0.mk hbt
 have HFM := Aside0.mk hfm
 have HNM := Aside0.mk hnm
 have HBM := Aside0.mk hbm
 have HA := Aside0.mk hA
 have HT := Aside0.mk hT
 have HM := Aside0.mk hM
 have HF := Aside0.mk hF
 have HG := Aside0.mk hG
 have H0 := Aside0.mk h0
 clear hft hnt hbt hfm hnm hbm hA hT hM hF hG h0
 cases b with
 | false =>
  go_enter Try.func61, Try.ntmps61
  go_wp2_with fail
  refine (HA.out _ H0.out).mono ?_
  rintro e w1 ⟨rfl, h1⟩
  have H1 := Aside0.mk h1
  clear h1 H0
  go_wp2_with (first | ((with_reducible refine gate_dst (N := 14) rfl ?_); go_must (refine goesV_ (some 14) rfl rfl rfl rfl HFT.out HNT.out HBT.out ct (by simp) ?_); refine (HT.out _ H1.out).mono ?_; rintro e w2 ⟨rfl, h2⟩; have H2 := Aside0.mk h2; clear h2; refine ⟨_, rfl, ?_⟩) | ((with_reducible refine gate_dst (N := 17) rfl ?_); go_must (refine goesV_ (some 17) rfl rfl rfl rfl HFM.out HNM.out HBM.out (#[.int .i64 x] ++ cm) (by simp only [List.map_toArray, List.map_cons, List.map_nil]; rfl) ?_); refine (HM.out _ H2.out).mono ?_; rintro e w3 ⟨rfl, h3⟩; have H3 := Aside0.mk h3; clear h3; refine ⟨_, rfl, ?_⟩))
  refine (HF.out (by first | rfl | trivial) _ H3.out).mono ?_
  rintro e w4 ⟨rfl, h4⟩
  go_wp2
  go_ret
  exact ⟨rfl, h4⟩
 | true =>
  go_enter Try.func61, Try.ntmps61
  go_wp2_with fail
  refine (HA.out _ H0.out).mono ?_
  rintro e w1 ⟨rfl, h1⟩
  have H1 := Aside0.mk h1
  clear h1 H0
  go_wp2_with (first | ((with_reducible refine gate_dst (N := 14) rfl ?_); go_must (refine goesV_ (some 14) rfl rfl rfl rfl HFT.out HNT.out HBT.out ct (by simp) ?_); refine (HT.out _ H1.out).mono ?_; rintro e w2 ⟨rfl, h2⟩; have H2 := Aside0.mk h2; clear h2; refine ⟨_, rfl, ?_⟩) | ((with_reducible refine gate_dst (N := 17) rfl ?_); go_must (refine goesV_ (some 17) rfl rfl rfl rfl HFM.out HNM.out HBM.out (#[.int .i64 x] ++ cm) (by simp only [List.map_toArray, List.map_cons, List.map_nil]; rfl) ?_); refine (HM.out _ H2.out).mono ?_; rintro e w3 ⟨rfl, h3⟩; have H3 := Aside0.mk h3; clear h3; refine ⟨_, rfl, ?_⟩))
  go_ret
  exact ⟨rfl, HG.out (by first | rfl | trivial) _ H3.out⟩
set_option maxHeartbeats 1000000 in
set_option maxRecDepth 100000 in
theorem num1_calls {ok : Nat → Prop} (g b : Nat) (s : Cu) (w : World) (h : CurAt ok g s w) (hb : w.heap[b]? = some (.cells #[.pointer (some ⟨g, 0, none⟩)] 52 (0, 0))) :
  Calls Try.prog 104 #[.pointer (some ⟨b, 0, none⟩)] w fun e w' => e = .returned (.int .u64 (s.vread.1 : Nat)) ∧ CurAt ok g s.vread.2 w' ∧ Chg (fun k => k = g) w w' := by
 have H := Aside0.mk h
 have z : w.cell? ⟨b, 0, none⟩ = some (.pointer (some ⟨g, 0, none⟩)) := (blk_cell hb 0).trans rfl
 clear h hb
 go_enter Try.func104, Try.ntmps104
 go_wp2_with fail
 refine (vread_calls g s _ H.out).mono ?_
 rintro e w' ⟨rfl, hc, hg⟩
 clear z
 go_wp2
 go_ret
 exact ⟨rfl, hc, hg⟩
def inB (n lo hi : Int) : Bool := decide (lo ≤ n) && decide (n ≤ hi)
set_option maxHeartbeats 1000000 in
set_option maxRecDepth 100000 in
theorem num2_calls (n lo hi : Int) (b1 b2 : Nat) (w : World) (hl : 0 ≤ lo ∧ lo ≤ 1099511627776) (hh : 0 ≤ hi ∧ hi ≤ 1099511627776) (h1 : w.heap[b1]? = some (.cells #[.int .i64 lo] 3 (0, 0))) (h2 : w.heap[b2]? = some (.cells #[.int .i64 hi] 3 (0, 0))) :
  Calls Try.prog 105 #[.int .u64 n, .pointer (some ⟨b1, 0, none⟩), .pointer (some ⟨b2, 0, none⟩)] w fun e w' => e = .returned (.bool (inB n lo hi)) ∧ w = w' := by
 have z1 : w.cell? ⟨b1, 0, none⟩ = some (.int .i64 lo) := (blk_cell h1 0).trans rfl
 have z2 : w.cell? ⟨b2, 0, none⟩ = some (.int .i64 hi) := (blk_cell h2 0).trans rfl
 have e1 : IntKind.u64.wrap lo = lo := IntWalk.u64_in _ (by omega)
 have e2 : IntKind.u64.wrap hi = hi := IntWalk.u64_in _ (by omega)
 clear h1 h2 hl hh
 by_cases c1 : lo ≤ n
 ·by_cases c2 : n ≤ hi
  ·have d1 : decide (lo ≤ n) = true := decide_eq_true c1
   have d2 : decide (n ≤ hi) = true := decide_eq_true c2
   have HE := Aside0.mk (show inB n lo hi = true by unfold inB; rw [d1, d2]; rfl)
   clear c1 c2
   go_enter Try.func105, Try.ntmps105
   go_wp2
   go_ret
   exact ⟨(by rw [HE.out]; rfl), rfl⟩
  ·have d1 : decide (lo ≤ n) = true := decide_eq_true c1
   have d2 : decide (n ≤ hi) = false := decide_eq_false c2
   have HE := Aside0.mk (show inB n lo hi = false by unfold inB; rw [d1, d2]; rfl)
   clear c1 c2
   go_enter Try.func105, Try.ntmps105
   go_wp2
   go_ret
   exact ⟨(by rw [HE.out]; rfl), rfl⟩
 ·have d1 : decide (lo ≤ n) = false := decide_eq_false c1
  have HE := Aside0.mk (show inB n lo hi = false by unfold inB; rw [d1]; rfl)
  clear c1
  go_enter Try.func105, Try.ntmps105
  go_wp2
  go_ret
  exact ⟨(by rw [HE.out]; rfl), rfl⟩
theorem inB_nat {n lo hi : Nat} : inB n lo hi = true ↔ lo ≤ n ∧ n ≤ hi := by
 unfold inB
 simp only [Bool.and_eq_true, decide_eq_true_eq]
 omega
set_option maxHeartbeats 2000000 in
set_option maxRecDepth 100000 in
theorem recnum_calls {ok : Nat → Prop} (g : Nat) (s : Cu) (lo hi : Nat) (lo2 hi2 ec : Int) (hl2 : lo2 = lo) (hh2 : hi2 = hi) (hl : lo ≤ 1099511627776) (hh : hi ≤ 1099511627776) (w : World) (h : CurAt ok g s w) :
  Calls Try.prog 65 #[.pointer (some ⟨g, 0, none⟩), .int .i64 lo2, .int .i64 hi2, .int .i64 ec] w fun e w' => e = .returned (.int .i64 (wrap64 ((gnum s lo hi ec).1 : Int))) ∧ CurAt ok g (gnum s lo hi ec).2 w' ∧ Chg (fun k => k = g) w w' := by
 have H := Aside0.mk h
 have HB := Aside0.mk (Below.refl w.heap.size w)
 have HL := Aside0.mk (And.intro hl hh)
 have HLI := Aside0.mk (And.intro hl2 hh2)
 clear h hl hh hl2 hh2
 go_enter Try.func65, Try.ntmps65
 have HC := H
 go_wp2_with (first | ((with_reducible refine gate_dst (N := 4) rfl ?_); refine box_event ?hg (N := 4) ?hd (cs := #[.pointer (some ⟨g, 0, none⟩)]) (t := 52) ?hr ?_; (case hd => rfl); (case hg => rfl); (case hr => first | (go_simp; done) | (go_simp; rfl)); intro b4 hgb4 w1 hbox hb; have GEb4 := Aside0.mk ((by rw [hgb4]; exact below_size HB.out) : w.heap.size ≤ b4); have n0 := Aside0.mk (below_step HB.out hb); clear HB; have HB := n0; clear n0; have n0 := Aside0.mk (HC.out.below hb); clear HC; have HC := n0; clear n0; have BK4 := Aside0.mk hbox; clear hgb4 hbox hb; (try clear zBK4_0); have zBK4_0 : w1.cell? ⟨b4, 0, none⟩ = some (.pointer (some ⟨g, 0, none⟩)) := (blk_cell BK4.out 0).trans rfl) | ((with_reducible refine gate_dst (N := 5) rfl ?_); refine box_event ?hg (N := 5) ?hd (cs := #[.int .i64 lo2]) (t := 3) ?hr ?_; (case hd => rfl); (case hg => rfl); (case hr => first | (go_simp; done) | (go_simp; rfl)); intro b5 hgb5 w2 hbox hb; have GEb5 := Aside0.mk ((by rw [hgb5]; exact below_size HB.out) : w.heap.size ≤ b5); have n0 := Aside0.mk (below_step HB.out hb); clear HB; have HB := n0; clear n0; have n0 := Aside0.mk (blk_below BK4.out hb); clear BK4; have BK4 := n0; clear n0; have n0 := Aside0.mk (HC.out.below hb); clear HC; have HC := n0; clear n0; have BK5 := Aside0.mk hbox; clear hgb5 hbox hb; (try clear zBK4_0); have zBK4_0 : w2.cell? ⟨b4, 0, none⟩ = some (.pointer (some ⟨g, 0, none⟩)) := (blk_cell BK4.out 0).trans rfl; (try clear zBK5_0); have zBK5_0 : w2.cell? ⟨b5, 0, none⟩ = some (.int .i64 lo2) := (blk_cell BK5.out 0).trans rfl) | ((with_reducible refine gate_dst (N := 6) rfl ?_); refine box_event ?hg (N := 6) ?hd (cs := #[.int .i64 hi2]) (t := 3) ?hr ?_; (case hd => rfl); (case hg => rfl); (case hr => first | (go_simp; done) | (go_simp; rfl)); intro b6 hgb6 w3 hbox hb; have GEb6 := Aside0.mk ((by rw [hgb6]; exact below_size HB.out) : w.heap.size ≤ b6); have n0 := Aside0.mk (below_step HB.out hb); clear HB; have HB := n0; clear n0; have n0 := Aside0.mk (blk_below BK4.out hb); clear BK4; have BK4 := n0; clear n0; have n0 := Aside0.mk (blk_below BK5.out hb); clear BK5; have BK5 := n0; clear n0; have n0 := Aside0.mk (HC.out.below hb); clear HC; have HC := n0; clear n0; have BK6 := Aside0.mk hbox; clear hgb6 hbox hb; (try clear zBK4_0); have zBK4_0 : w3.cell? ⟨b4, 0, none⟩ = some (.pointer (some ⟨g, 0, none⟩)) := (blk_cell BK4.out 0).trans rfl; (try clear zBK5_0); have zBK5_0 : w3.cell? ⟨b5, 0, none⟩ = some (.int .i64 lo2) := (blk_cell BK5.out 0).trans rfl; (try clear zBK6_0); have zBK6_0 : w3.cell? ⟨b6, 0, none⟩ = some (.int .i64 hi2) := (blk_cell BK6.out 0).trans rfl))
 refine (boundu_calls 104 _ Try.func104 (by kernel_rfl) rfl #[.pointer (some ⟨b4, 0, none⟩)] 105 _ Try.func105 (by kernel_rfl) rfl #[.pointer (some ⟨b5, 0, none⟩), .pointer (some ⟨b6, 0, none⟩)]
  (.pointer (some ⟨g, 0, none⟩)) ec s.pos (s.vread.1 : Int) (inB (s.vread.1 : Int) lo2 hi2)
  (fun W => CurAt ok g s W ∧ Chg (fun k => k = g) w W ∧ W.heap[b4]? = some (.cells #[.pointer (some ⟨g, 0, none⟩)] 52 (0, 0)) ∧ W.heap[b5]? = some (.cells #[.int .i64 lo2] 3 (0, 0)) ∧ W.heap[b6]? = some (.cells #[.int .i64 hi2] 3 (0, 0)))
  (fun W => CurAt ok g s.vread.2 W ∧ Chg (fun k => k = g) w W ∧ W.heap[b5]? = some (.cells #[.int .i64 lo2] 3 (0, 0)) ∧ W.heap[b6]? = some (.cells #[.int .i64 hi2] 3 (0, 0)))
  (fun W => CurAt ok g (gnum s lo hi ec).2 W ∧ Chg (fun k => k = g) w W) ?hA ?hT ?hM ?hF ?hG w3 ⟨HC.out, Chg.of_below HB.out _, BK4.out, BK5.out, BK6.out⟩).mono ?_
 case hA =>
  rintro W ⟨a1, a2, a3, a4, a5⟩
  refine (Calls.dB (curat_calls g s W a1)).mono ?_
  rintro e w' ⟨rfl, hb⟩
  exact ⟨rfl, a1.below hb, a2.below hb, blk_below a3 hb, blk_below a4 hb, blk_below a5 hb⟩
 case hT =>
  rintro W ⟨a1, a2, a3, a4, a5⟩
  refine (num1_calls g b4 s W a1 a3).mono ?_
  rintro e w' ⟨rfl, hc, hg⟩
  exact ⟨rfl, hc, a2.trans hg (fun _ h => .inl h), cur_blk (by decide) a1 hg a4, cur_blk (by decide) a1 hg a5⟩
 case hM =>
  rintro W ⟨a1, a2, a4, a5⟩
  refine (num2_calls (s.vread.1 : Int) lo2 hi2 b5 b6 W (by have := HL.out; have := HLI.out; omega) (by have := HL.out; have := HLI.out; omega) a4 a5).mono ?_
  rintro e w' ⟨rfl, rfl⟩
  exact ⟨rfl, a1, a2, a4, a5⟩
 case hF =>
  rintro hb W ⟨a1, a2, a4, a5⟩
  refine (curfail_calls g s.vread.2 ec s.pos W a1).mono ?_
  rintro e w' ⟨rfl, hc, hg⟩
  have e2 : (gnum s lo hi ec).2 = s.vread.2.fail ec s.pos := by
   unfold gnum
   rw [if_neg]
   intro hq
   rw [HLI.out.1, HLI.out.2, inB_nat.2 hq] at hb
   cases hb
  rw [e2]
  exact ⟨rfl, hc, a2.trans hg (fun _ h => .inl h)⟩
 case hG =>
  rintro hb W ⟨a1, a2, a4, a5⟩
  have e2 : (gnum s lo hi ec).2 = s.vread.2 := by
   unfold gnum
   rw [HLI.out.1, HLI.out.2] at hb
   rw [if_pos (inB_nat.1 hb)]
  rw [e2]
  exact ⟨a1, a2⟩
 rintro e w' ⟨rfl, hc, hg⟩
 clear zBK4_0 zBK5_0 zBK6_0
 go_wp2
 go_ret
 exact ⟨rfl, hc, hg⟩
/-! A word of so many bytes. -/
set_option maxHeartbeats 1000000 in
set_option maxRecDepth 100000 in
theorem word1_calls {ok : Nat → Prop} (d : Dic) (g : Nat) (s : Cu) (v : Value) (ws : List ByteArray) (cl : Int) (b1 b2 b3 : Nat) (w0 w : World) (h : RX ok g d s v ws w0 w) (hs : s.sane)
  (h1 : w.heap[b1]? = some (.cells #[.pointer (some ⟨d.g, 0, none⟩)] 30 (0, 0))) (h2 : w.heap[b2]? = some (.cells #[.pointer (some ⟨g, 0, none⟩)] 52 (0, 0))) (h3 : w.heap[b3]? = some (.cells #[.int .i64 cl] 3 (0, 0))) :
  Calls Try.prog 99 #[.pointer (some ⟨b1, 0, none⟩), .pointer (some ⟨b2, 0, none⟩), .pointer (some ⟨b3, 0, none⟩)] w fun e w' => e = .returned (.string (dget ws s cl).1) ∧ TwoPost ok g ⟨d.g, d.gm, v, ws⟩ (dget ws s cl).2.1 (dget ws s cl).2.2 w w' := by
 have H := Aside0.mk h
 have HS := Aside0.mk hs
 have z1 : w.cell? ⟨b1, 0, none⟩ = some (.pointer (some ⟨d.g, 0, none⟩)) := (blk_cell h1 0).trans rfl
 have z2 : w.cell? ⟨b2, 0, none⟩ = some (.pointer (some ⟨g, 0, none⟩)) := (blk_cell h2 0).trans rfl
 have z3 : w.cell? ⟨b3, 0, none⟩ = some (.int .i64 cl) := (blk_cell h3 0).trans rfl
 clear h h1 h2 h3 hs
 go_enter Try.func99, Try.ntmps99
 go_wp2_with fail
 refine (RX.get H.out HS.out cl).mono ?_
 rintro e w' ⟨rfl, hp⟩
 clear z1 z2 z3
 go_wp2
 go_ret
 exact ⟨rfl, hp⟩
set_option maxHeartbeats 1000000 in
set_option maxRecDepth 100000 in
theorem word2_calls (t : ByteArray) (lo hi : Int) (b1 b2 : Nat) (w : World) (h1 : w.heap[b1]? = some (.cells #[.int .i64 lo] 3 (0, 0))) (h2 : w.heap[b2]? = some (.cells #[.int .i64 hi] 3 (0, 0))) :
  Calls Try.prog 101 #[.string t, .pointer (some ⟨b1, 0, none⟩), .pointer (some ⟨b2, 0, none⟩)] w fun e w' => e = .returned (.bool (inB (t.size : Int) lo hi)) ∧ w = w' := by
 have z1 : w.cell? ⟨b1, 0, none⟩ = some (.int .i64 lo) := (blk_cell h1 0).trans rfl
 have z2 : w.cell? ⟨b2, 0, none⟩ = some (.int .i64 hi) := (blk_cell h2 0).trans rfl
 clear h1 h2
 by_cases c1 : lo ≤ (t.size : Int)
 ·by_cases c2 : (t.size : Int) ≤ hi
  ·have d1 : decide (lo ≤ (t.size : Int)) = true := decide_eq_true c1
   have d2 : decide ((t.size : Int) ≤ hi) = true := decide_eq_true c2
   have HE := Aside0.mk (show inB (t.size : Int) lo hi = true by unfold inB; rw [d1, d2]; rfl)
   clear c1 c2
   go_enter Try.func101, Try.ntmps101
   go_wp2
   go_ret
   exact ⟨(by rw [HE.out]; rfl), rfl⟩
  ·have d1 : decide (lo ≤ (t.size : Int)) = true := decide_eq_true c1
   have d2 : decide ((t.size : Int) ≤ hi) = false := decide_eq_false c2
   have HE := Aside0.mk (show inB (t.size : Int) lo hi = false by unfold inB; rw [d1, d2]; rfl)
   clear c1 c2
   go_enter Try.func101, Try.ntmps101
   go_wp2
   go_ret
   exact ⟨(by rw [HE.out]; rfl), rfl⟩
 ·have d1 : decide (lo ≤ (t.size : Int)) = false := decide_eq_false c1
  have HE := Aside0.mk (show inB (t.size : Int) lo hi = false by unfold inB; rw [d1]; rfl)
  clear c1
  go_enter Try.func101, Try.ntmps101
  go_wp2
  go_ret
  exact ⟨(by rw [HE.out]; rfl), rfl⟩
set_option maxHeartbeats 2000000 in
set_option maxRecDepth 100000 in
theorem recword_calls {ok : Nat → Prop} (d : Dic) (g : Nat) (s : Cu) (v : Value) (ws : List ByteArray) (cl : Int) (lo hi : Nat) (lo2 hi2 ec : Int) (hl2 : lo2 = lo) (hh2 : hi2 = hi) (w0 w : World) (h : RX ok g d s v ws w0 w) (hs : s.sane) :
  Calls Try.prog 60 #[.pointer (some ⟨d.g, 0, none⟩), .pointer (some ⟨g, 0, none⟩), .int .i64 cl, .int .i64 lo2, .int .i64 hi2, .int .i64 ec] w fun e w' => e = .returned (.string (gword ws s cl lo hi ec).1) ∧ TwoPost ok g ⟨d.g, d.gm, v, ws⟩ (gword ws s cl lo hi ec).2.1 (gword ws s cl lo hi ec).2.2 w w' := by
 have HX := Aside0.mk (RX.start h.cur h.dic h.ap2 (fun k hk => Nat.lt_of_lt_of_le (h.lo k hk) h.chg.size))
 have HS := Aside0.mk hs
 have HB := Aside0.mk (Below.refl w.heap.size w)
 have HLI := Aside0.mk (And.intro hl2 hh2)
 clear h hs hl2 hh2
 go_enter Try.func60, Try.ntmps60
 go_wp2_with (first | ((with_reducible refine gate_dst (N := 6) rfl ?_); refine box_event ?hg (N := 6) ?hd (cs := #[.pointer (some ⟨d.g, 0, none⟩)]) (t := 30) ?hr ?_; (case hd => rfl); (case hg => rfl); (case hr => first | (go_simp; done) | (go_simp; rfl)); intro b6 hgb6 w1 hbox hb; have GEb6 := Aside0.mk ((by rw [hgb6]; exact below_size HB.out) : w.heap.size ≤ b6); have n0 := Aside0.mk (below_step HB.out hb); clear HB; have HB := n0; clear n0; have n0 := Aside0.mk (HX.out.below hb); clear HX; have HX := n0; clear n0; have BK6 := Aside0.mk hbox; clear hgb6 hbox hb; (try clear zBK6_0); have zBK6_0 : w1.cell? ⟨b6, 0, none⟩ = some (.pointer (some ⟨d.g, 0, none⟩)) := (blk_cell BK6.out 0).trans rfl) | ((with_reducible refine gate_dst (N := 7) rfl ?_); refine box_event ?hg (N := 7) ?hd (cs := #[.pointer (some ⟨g, 0, none⟩)]) (t := 52) ?hr ?_; (case hd => rfl); (case hg => rfl); (case hr => first | (go_simp; done) | (go_simp; rfl)); intro b7 hgb7 w2 hbox hb; have GEb7 := Aside0.mk ((by rw [hgb7]; exact below_size HB.out) : w.heap.size ≤ b7); have n0 := Aside0.mk (below_step HB.out hb); clear HB; have HB := n0; clear n0; have n0 := Aside0.mk (blk_below BK6.out hb); clear BK6; have BK6 := n0; clear n0; have n0 := Aside0.mk (HX.out.below hb); clear HX; have HX := n0; clear n0; have BK7 := Aside0.mk hbox; clear hgb7 hbox hb; (try clear zBK6_0); have zBK6_0 : w2.cell? ⟨b6, 0, none⟩ = some (.pointer (some ⟨d.g, 0, none⟩)) := (blk_cell BK6.out 0).trans rfl; (try clear zBK7_0); have zBK7_0 : w2.cell? ⟨b7, 0, none⟩ = some (.pointer (some ⟨g, 0, none⟩)) := (blk_cell BK7.out 0).trans rfl) | ((with_reducible refine gate_dst (N := 8) rfl ?_); refine box_event ?hg (N := 8) ?hd (cs := #[.int .i64 cl]) (t := 3) ?hr ?_; (case hd => rfl); (case hg => rfl); (case hr => first | (go_simp; done) | (go_simp; rfl)); intro b8 hgb8 w3 hbox hb; have GEb8 := Aside0.mk ((by rw [hgb8]; exact below_size HB.out) : w.heap.size ≤ b8); have n0 := Aside0.mk (below_step HB.out hb); clear HB; have HB := n0; clear n0; have n0 := Aside0.mk (blk_below BK6.out hb); clear BK6; have BK6 := n0; clear n0; have n0 := Aside0.mk (blk_below BK7.out hb); clear BK7; have BK7 := n0; clear n0; have n0 := Aside0.mk (HX.out.below hb); clear HX; have HX := n0; clear n0; have BK8 := Aside0.mk hbox; clear hgb8 hbox hb; (try clear zBK6_0); have zBK6_0 : w3.cell? ⟨b6, 0, none⟩ = some (.pointer (some ⟨d.g, 0, none⟩)) := (blk_cell BK6.out 0).trans rfl; (try clear zBK7_0); have zBK7_0 : w3.cell? ⟨b7, 0, none⟩ = some (.pointer (some ⟨g, 0, none⟩)) := (blk_cell BK7.out 0).trans rfl; (try clear zBK8_0); have zBK8_0 : w3.cell? ⟨b8, 0, none⟩ = some (.int .i64 cl) := (blk_cell BK8.out 0).trans rfl) | ((with_reducible refine gate_dst (N := 9) rfl ?_); refine box_event ?hg (N := 9) ?hd (cs := #[.int .i64 lo2]) (t := 3) ?hr ?_; (case hd => rfl); (case hg => rfl); (case hr => first | (go_simp; done) | (go_simp; rfl)); intro b9 hgb9 w4 hbox hb; have GEb9 := Aside0.mk ((by rw [hgb9]; exact below_size HB.out) : w.heap.size ≤ b9); have n0 := Aside0.mk (below_step HB.out hb); clear HB; have HB := n0; clear n0; have n0 := Aside0.mk (blk_below BK6.out hb); clear BK6; have BK6 := n0; clear n0; have n0 := Aside0.mk (blk_below BK7.out hb); clear BK7; have BK7 := n0; clear n0; have n0 := Aside0.mk (blk_below BK8.out hb); clear BK8; have BK8 := n0; clear n0; have n0 := Aside0.mk (HX.out.below hb); clear HX; have HX := n0; clear n0; have BK9 := Aside0.mk hbox; clear hgb9 hbox hb; (try clear zBK6_0); have zBK6_0 : w4.cell? ⟨b6, 0, none⟩ = some (.pointer (some ⟨d.g, 0, none⟩)) := (blk_cell BK6.out 0).trans rfl; (try clear zBK7_0); have zBK7_0 : w4.cell? ⟨b7, 0, none⟩ = some (.pointer (some ⟨g, 0, none⟩)) := (blk_cell BK7.out 0).trans rfl; (try clear zBK8_0); have zBK8_0 : w4.cell? ⟨b8, 0, none⟩ = some (.int .i64 cl) := (blk_cell BK8.out 0).trans rfl; (try clear zBK9_0); have zBK9_0 : w4.cell? ⟨b9, 0, none⟩ = some (.int .i64 lo2) := (blk_cell BK9.out 0).trans rfl) | ((with_reducible refine gate_dst (N := 10) rfl ?_); refine box_event ?hg (N := 10) ?hd (cs := #[.int .i64 hi2]) (t := 3) ?hr ?_; (case hd => rfl); (case hg => rfl); (case hr => first | (go_simp; done) | (go_simp; rfl)); intro b10 hgb10 w5 hbox hb; have GEb10 := Aside0.mk ((by rw [hgb10]; exact below_size HB.out) : w.heap.size ≤ b10); have n0 := Aside0.mk (below_step HB.out hb); clear HB; have HB := n0; clear n0; have n0 := Aside0.mk (blk_below BK6.out hb); clear BK6; have BK6 := n0; clear n0; have n0 := Aside0.mk (blk_below BK7.out hb); clear BK7; have BK7 := n0; clear n0; have n0 := Aside0.mk (blk_below BK8.out hb); clear BK8; have BK8 := n0; clear n0; have n0 := Aside0.mk (blk_below BK9.out hb); clear BK9; have BK9 := n0; clear n0; have n0 := Aside0.mk (HX.out.below hb); clear HX; have HX := n0; clear n0; have BK10 := Aside0.mk hbox; clear hgb10 hbox hb; (try clear zBK6_0); have zBK6_0 : w5.cell? ⟨b6, 0, none⟩ = some (.pointer (some ⟨d.g, 0, none⟩)) := (blk_cell BK6.out 0).trans rfl; (try clear zBK7_0); have zBK7_0 : w5.cell? ⟨b7, 0, none⟩ = some (.pointer (some ⟨g, 0, none⟩)) := (blk_cell BK7.out 0).trans rfl; (try clear zBK8_0); have zBK8_0 : w5.cell? ⟨b8, 0, none⟩ = some (.int .i64 cl) := (blk_cell BK8.out 0).trans rfl; (try clear zBK9_0); have zBK9_0 : w5.cell? ⟨b9, 0, none⟩ = some (.int .i64 lo2) := (blk_cell BK9.out 0).trans rfl; (try clear zBK10_0); have zBK10_0 : w5.cell? ⟨b10, 0, none⟩ = some (.int .i64 hi2) := (blk_cell BK10.out 0).trans rfl))
 refine (bounds_calls 99 _ Try.func99 (by kernel_rfl) rfl #[.pointer (some ⟨b6, 0, none⟩), .pointer (some ⟨b7, 0, none⟩), .pointer (some ⟨b8, 0, none⟩)] 101 _ Try.func101 (by kernel_rfl) rfl #[.pointer (some ⟨b9, 0, none⟩), .pointer (some ⟨b10, 0, none⟩)]
  (.pointer (some ⟨g, 0, none⟩)) ec s.pos (dget ws s cl).1 (inB ((dget ws s cl).1.size : Int) lo2 hi2)
  (fun W => RX ok g ⟨d.g, d.gm, v, ws⟩ s v ws w W ∧ W.heap[b6]? = some (.cells #[.pointer (some ⟨d.g, 0, none⟩)] 30 (0, 0)) ∧ W.heap[b7]? = some (.cells #[.pointer (some ⟨g, 0, none⟩)] 52 (0, 0)) ∧ W.heap[b8]? = some (.cells #[.int .i64 cl] 3 (0, 0)) ∧ W.heap[b9]? = some (.cells #[.int .i64 lo2] 3 (0, 0)) ∧ W.heap[b10]? = some (.cells #[.int .i64 hi2] 3 (0, 0)))
  (fun W => (∃ v1, RX ok g ⟨d.g, d.gm, v, ws⟩ (dget ws s cl).2.1 v1 (dget ws s cl).2.2 w W) ∧ W.heap[b9]? = some (.cells #[.int .i64 lo2] 3 (0, 0)) ∧ W.heap[b10]? = some (.cells #[.int .i64 hi2] 3 (0, 0)))
  (fun W => ∃ v1, RX ok g ⟨d.g, d.gm, v, ws⟩ (gword ws s cl lo hi ec).2.1 v1 (gword ws s cl lo hi ec).2.2 w W) ?hA ?hT ?hM ?hF ?hG w5 ⟨HX.out, BK6.out, BK7.out, BK8.out, BK9.out, BK10.out⟩).mono ?_
 case hA =>
  rintro W ⟨a1, a3, a4, a5, a6, a7⟩
  refine (Calls.dB (curat_calls g s W a1.cur)).mono ?_
  rintro e w' ⟨rfl, hb⟩
  exact ⟨rfl, a1.below hb, blk_below a3 hb, blk_below a4 hb, blk_below a5 hb, blk_below a6 hb, blk_below a7 hb⟩
 case hT =>
  rintro W ⟨a1, a3, a4, a5, a6, a7⟩
  refine (word1_calls ⟨d.g, d.gm, v, ws⟩ g s v ws cl b6 b7 b8 w W a1 HS.out a3 a4 a5).mono ?_
  rintro e w' ⟨rfl, hp⟩
  obtain ⟨v1, hx, hg⟩ := a1.of hp
  exact ⟨rfl, ⟨v1, hx⟩, two_blk (by decide) (by decide) (by decide) a1.cur a1.dic hg a6, two_blk (by decide) (by decide) (by decide) a1.cur a1.dic hg a7⟩
 case hM =>
  rintro W ⟨a1, a6, a7⟩
  refine (word2_calls (dget ws s cl).1 lo2 hi2 b9 b10 W a6 a7).mono ?_
  rintro e w' ⟨rfl, rfl⟩
  exact ⟨rfl, a1, a6, a7⟩
 case hF =>
  rintro hb W ⟨⟨v1, a1⟩, a6, a7⟩
  refine (curfail_calls g (dget ws s cl).2.1 ec s.pos W a1.cur).mono ?_
  rintro e w' ⟨rfl, hc, hg⟩
  have e2 : (gword ws s cl lo hi ec).2.1 = (dget ws s cl).2.1.fail ec s.pos := by
   unfold gword
   simp only
   rw [if_neg]
   intro hq
   rw [HLI.out.1, HLI.out.2, inB_nat.2 hq] at hb
   cases hb
  rw [e2]
  exact ⟨rfl, v1, a1.turn hc hg⟩
 case hG =>
  rintro hb W ⟨⟨v1, a1⟩, a6, a7⟩
  have e2 : (gword ws s cl lo hi ec).2.1 = (dget ws s cl).2.1 := by
   unfold gword
   simp only
   rw [HLI.out.1, HLI.out.2] at hb
   rw [if_pos (inB_nat.1 hb)]
  rw [e2]
  exact ⟨v1, a1⟩
 rintro e w' ⟨rfl, v1, hx⟩
 go_wp2
 go_ret
 exact ⟨rfl, hx.two⟩
/-! A kind. -/
set_option maxHeartbeats 1000000 in
set_option maxRecDepth 100000 in
theorem kind1_calls {ok : Nat → Prop} (g b : Nat) (s : Cu) (w : World) (h : CurAt ok g s w) (hb : w.heap[b]? = some (.cells #[.pointer (some ⟨g, 0, none⟩)] 52 (0, 0))) (hv : 0 ≤ s.byteV ∧ s.byteV < 256) :
  Calls Try.prog 62 #[.pointer (some ⟨b, 0, none⟩)] w fun e w' => e = .returned (.int .i64 s.byteV) ∧ CurAt ok g (s.take 1) w' ∧ Chg (fun k => k = g) w w' := by
 have H := Aside0.mk h
 have z : w.cell? ⟨b, 0, none⟩ = some (.pointer (some ⟨g, 0, none⟩)) := (blk_cell hb 0).trans rfl
 have e1 : wrap64 s.byteV = s.byteV := IntWalk.wrap64_in _ (by omega)
 clear h hb
 go_enter Try.func62, Try.ntmps62
 go_wp2_with fail
 refine (curbyte_calls g s _ H.out).mono ?_
 rintro e w' ⟨rfl, hc, hg⟩
 clear z
 go_wp2
 go_ret
 exact ⟨rfl, hc, hg⟩
set_option maxHeartbeats 1000000 in
set_option maxRecDepth 100000 in
theorem kind2_calls (n : Int) (w : World) : Calls Try.prog 64 #[.int .i64 n] w fun e w' => e = .returned (.bool (inB n 1 5)) ∧ w = w' := by
 by_cases c1 : 1 ≤ n
 ·by_cases c2 : n ≤ 5
  ·have d1 : decide (1 ≤ n) = true := decide_eq_true c1
   have d2 : decide (n ≤ 5) = true := decide_eq_true c2
   have HE := Aside0.mk (show inB n 1 5 = true by unfold inB; rw [d1, d2]; rfl)
   clear c1 c2
   go_enter Try.func64, Try.ntmps64
   go_wp2
   go_ret
   exact ⟨(by rw [HE.out]; rfl), rfl⟩
  ·have d1 : decide (1 ≤ n) = true := decide_eq_true c1
   have d2 : decide (n ≤ 5) = false := decide_eq_false c2
   have HE := Aside0.mk (show inB n 1 5 = false by unfold inB; rw [d1, d2]; rfl)
   clear c1 c2
   go_enter Try.func64, Try.ntmps64
   go_wp2
   go_ret
   exact ⟨(by rw [HE.out]; rfl), rfl⟩
 ·have d1 : decide (1 ≤ n) = false := decide_eq_false c1
  have HE := Aside0.mk (show inB n 1 5 = false by unfold inB; rw [d1]; rfl)
  clear c1
  go_enter Try.func64, Try.ntmps64
  go_wp2
  go_ret
  exact ⟨(by rw [HE.out]; rfl), rfl⟩
theorem byteV_bd {ok : Nat → Prop} {g : Nat} {s : Cu} {w : World} (h : CurAt ok g s w) : 0 ≤ s.byteV ∧ s.byteV < 256 := by
 unfold Cu.byteV
 split
 ·rename_i hq
  rw [List.getD_eq_getElem?_getD, List.getElem?_eq_getElem hq.2]
  exact h.bytes _ (List.getElem_mem hq.2)
 ·omega
theorem reckind_calls {ok : Nat → Prop} (g b : Nat) (s : Cu) (w : World) (h : CurAt ok g s w) (hb : w.heap[b]? = some (.cells #[.pointer (some ⟨g, 0, none⟩)] 52 (0, 0))) :
  Calls Try.prog 61 #[.pointer (some ⟨g, 0, none⟩), .int .i64 16, .func (.func 62) #[] #[.pointer (some ⟨b, 0, none⟩)], .func (.func 64) #[] #[]] w fun e w' => e = .returned (.int .i64 (gkind s).1) ∧ CurAt ok g (gkind s).2 w' ∧ Chg (fun k => k = g) w w' := by
 refine (boundi_calls 62 _ Try.func62 (by kernel_rfl) rfl #[.pointer (some ⟨b, 0, none⟩)] 64 _ Try.func64 (by kernel_rfl) rfl #[]
  (.pointer (some ⟨g, 0, none⟩)) 16 s.pos s.byteV (inB s.byteV 1 5)
  (fun W => CurAt ok g s W ∧ Chg (fun k => k = g) w W ∧ W.heap[b]? = some (.cells #[.pointer (some ⟨g, 0, none⟩)] 52 (0, 0)))
  (fun W => CurAt ok g (s.take 1) W ∧ Chg (fun k => k = g) w W)
  (fun W => CurAt ok g (gkind s).2 W ∧ Chg (fun k => k = g) w W) ?hA ?hT ?hM ?hF ?hG w ⟨h, Chg.refl _ _, hb⟩).mono ?_
 case hA =>
  rintro W ⟨a1, a2, a3⟩
  refine (Calls.dB (curat_calls g s W a1)).mono ?_
  rintro e w' ⟨rfl, hb⟩
  exact ⟨rfl, a1.below hb, a2.below hb, blk_below a3 hb⟩
 case hT =>
  rintro W ⟨a1, a2, a3⟩
  refine (kind1_calls g b s W a1 a3 (byteV_bd a1)).mono ?_
  rintro e w' ⟨rfl, hc, hg⟩
  exact ⟨rfl, hc, a2.trans hg (fun _ h => .inl h)⟩
 case hM =>
  rintro W ⟨a1, a2⟩
  refine (kind2_calls s.byteV W).mono ?_
  rintro e w' ⟨rfl, rfl⟩
  exact ⟨rfl, a1, a2⟩
 case hF =>
  rintro hb W ⟨a1, a2⟩
  refine (curfail_calls g (s.take 1) 16 s.pos W a1).mono ?_
  rintro e w' ⟨rfl, hc, hg⟩
  have e2 : (gkind s).2 = (s.take 1).fail 16 s.pos := by
   unfold gkind
   rw [if_neg]
   intro hq
   unfold inB at hb
   rw [decide_eq_true hq.1, decide_eq_true hq.2] at hb
   cases hb
  rw [e2]
  exact ⟨rfl, hc, a2.trans hg (fun _ h => .inl h)⟩
 case hG =>
  rintro hb W ⟨a1, a2⟩
  have e2 : (gkind s).2 = s.take 1 := by
   unfold gkind
   unfold inB at hb
   simp only [Bool.and_eq_true, decide_eq_true_eq] at hb
   rw [if_pos hb]
  rw [e2]
  exact ⟨a1, a2⟩
 rintro e w' ⟨rfl, hc, hg⟩
 exact ⟨rfl, hc, hg⟩
end Go.Proofs.Ytclbmdblalgdjaa
/- Package rec: GetDec: what it tells and turns; no condition. -/
namespace Go.Proofs.Ytclbmdblalgdjaa
open Go.RowKit Go.Proofs.YtclbmdblalgdjaaW.PrintWords Go.Proofs.YtclbmdblalgdjaaW.PrintLast Go.Proofs.YtclbmdblalgdjaaW.PrintMore Go.Proofs.Ytclbmdblalgdjaa.PE
set_option linter.unusedVariables false
set_option linter.unusedSimpArgs false
theorem box3 {W : World} {b T : Nat} {u0 u1 u2 : Value} (hb : W.heap[b]? = some (.cells #[u0, u1, u2] T (0, 0))) (v0 v1 v2 : Value) : (((W.setCell ⟨b, 0, none⟩ v0).setCell ⟨b, 1, none⟩ v1).setCell ⟨b, 2, none⟩ v2).heap[b]? = some (.cells #[v0, v1, v2] T (0, 0)) :=
 (blk_put ((blk_put ((blk_put hb 0 v0 rfl).trans rfl) 1 v1 rfl).trans rfl) 2 v2 rfl).trans rfl
theorem chg3 {W : World} {b : Nat} (v0 v1 v2 : Value) : Chg (fun k => k = b) W (((W.setCell ⟨b, 0, none⟩ v0).setCell ⟨b, 1, none⟩ v1).setCell ⟨b, 2, none⟩ v2) := (((Chg.refl _ _).set1 0 v0).set1 1 v1).set1 2 v2
theorem and_one_b {n : Nat} (h : n < 18446744073709551616) : (bits .and .u64 (n : Int) 1 == 1) = decide (n % 2 = 1) := by
 have ha : bits .and .u64 (n : Int) 1 = ((n % 2 : Nat) : Int) := by rw [and_one_u64 _ (by omega) (by omega)]; rfl
 rw [ha]
 by_cases h2 : n % 2 = 1
 ·rw [h2]; rfl
 ·have : n % 2 = 0 := by omega
  rw [this]; rfl
theorem zag_half (n : Nat) (h : n < 18446744073709551616) (w : World) : Calls Try.prog 52 #[.int .u64 ((n : Int) / 2)] w fun e w' => e = .returned (.int .i64 (zagZ (n / 2))) ∧ w = w' := zag_calls (n / 2) (by omega) w
set_option maxHeartbeats 4000000 in
set_option maxRecDepth 100000 in
theorem recgetdec_calls {ok : Nat → Prop} (g : Nat) (s : Cu) (w : World) (h : CurAt ok g s w) (hlo : ∀ k, ok k → k < w.heap.size) :
  Calls Try.prog 22 #[.pointer (some ⟨g, 0, none⟩)] w fun e w' => e = .returned (.agg #[.bool (gdec s).1.f0, .int .u64 (gdec s).1.f1, .int .i64 (gdec s).1.f2]) ∧ CurAt ok g (gdec s).2 w' ∧ Chg (fun k => k = g) w w' := by
 have HLO := Aside0.mk hlo
 have hn := vread_lt s h.bytes
 have hm : s.vread.2.vread.1 < 18446744073709551616 := vread_lt s.vread.2 (by rw [vread_b]; exact h.bytes)
 obtain ⟨n, s1, h1⟩ : ∃ n s1, s.vread = (n, s1) := ⟨_, _, rfl⟩
 obtain ⟨m, s2, h2⟩ : ∃ m s2, s1.vread = (m, s2) := ⟨_, _, rfl⟩
 rw [h1] at hn hm
 rw [h2] at hm
 have hn : n < 18446744073709551616 := hn
 have hm : m < 18446744073709551616 := hm
 have H1 := Aside0.mk h1
 have H2 := Aside0.mk h2
 have HN := Aside0.mk hn
 have HM := Aside0.mk hm
 obtain ⟨t, ht⟩ : ∃ t, decide (n % 2 = 1) = t := ⟨_, rfl⟩
 obtain ⟨x, hx⟩ : ∃ x, zagZ (n / 2) = x := ⟨_, rfl⟩
 obtain ⟨bd, hbd⟩ : ∃ bd, decBad t (m : Int) x = bd := ⟨_, rfl⟩
 have HT := Aside0.mk ht
 have HX := Aside0.mk hx
 have HBD := Aside0.mk hbd
 have HG0 : Aside0 (gdec s = if s2.fine = false then (decZ, s2) else if bd = 0 then (⟨t, (m : Int), x⟩, s2) else (decZ, s2.fail bd s.pos)) := ⟨by
  unfold gdec
  rw [h1]
  simp only
  rw [h2]
  simp only
  rw [ht, hx, hbd]⟩
 have hand : (bits .and .u64 (n : Int) 1 == 1) = t := by rw [and_one_b hn, ht]
 have HC := Aside0.mk h
 have HB := Aside0.mk (Below.refl w.heap.size w)
 clear h hlo h1 h2 hn hm ht hx hbd
 go_enter Try.func22, Try.ntmps22
 go_wp2_with (first | ((with_reducible refine gate_dst (N := 2) rfl ?_); refine box_event ?hg (N := 2) ?hd (cs := #[.bool false, .int .u64 0, .int .i64 0]) (t := 48) ?hr ?_; (case hd => rfl); (case hg => rfl); (case hr => first | (go_simp; done) | (go_simp; rfl)); intro b2 hgb2 w1 hbox hb; have GEb2 := Aside0.mk ((by rw [hgb2]; exact below_size HB.out) : w.heap.size ≤ b2); have n0 := Aside0.mk (below_step HB.out hb); clear HB; have HB := n0; clear n0; have n0 := Aside0.mk (HC.out.below hb); clear HC; have HC := n0; clear n0; have BK2 := Aside0.mk hbox; clear hgb2 hbox hb; (try clear zBK2_0); have zBK2_0 : w1.cell? ⟨b2, 0, none⟩ = some (.bool false) := (blk_cell BK2.out 0).trans rfl; (try clear zBK2_1); have zBK2_1 : w1.cell? ⟨b2, 1, none⟩ = some (.int .u64 0) := (blk_cell BK2.out 1).trans rfl; (try clear zBK2_2); have zBK2_2 : w1.cell? ⟨b2, 2, none⟩ = some (.int .i64 0) := (blk_cell BK2.out 2).trans rfl))
 have HG := Aside0.mk (Chg.of_below HB.out (fun k => k = g))
 refine (Calls.dB (curat_calls g s _ HC.out)).mono ?_
 rintro e w2 ⟨rfl, hb⟩
 clear zBK2_0 zBK2_1 zBK2_2
 have n0 := Aside0.mk (HC.out.below hb)
 have n1 := Aside0.mk (HG.out.below hb)
 have n2 := Aside0.mk (blk_below BK2.out hb)
 clear HC HG BK2 HB hb
 have HC := n0
 have HG := n1
 have BK2 := n2
 clear n0 n1 n2
 go_wp2_with fail
 refine (vread2 g HC.out H1.out).mono ?_
 rintro e w3 ⟨rfl, hc, hg⟩
 have n1 := Aside0.mk (HG.out.trans hg (fun _ h => .inl h))
 have n2 := Aside0.mk (cur_blk (by decide) HC.out hg BK2.out)
 clear HC HG BK2
 have HC := Aside0.mk hc
 have HG := n1
 have BK2 := n2
 clear n1 n2 hc hg
 go_wp2_with fail
 refine (zag_half n HN.out _).mono ?_
 rintro e w4 ⟨rfl, rfl⟩
 rw [HX.out]
 have hal : Below w3.heap.size w3 (w3.alloc (.cells #[.bool t, .int .u64 0, .int .i64 x] 48)) := below_alloc (Below.refl _ _) _
 have hbox := blk_new w3 (.cells #[.bool t, .int .u64 0, .int .i64 x] 48)
 generalize hw5 : w3.alloc (.cells #[.bool t, .int .u64 0, .int .i64 x] 48) = w5 at hal hbox
 obtain ⟨b5, hb5⟩ : ∃ b5, w3.heap.size = b5 := ⟨_, rfl⟩
 rw [hb5] at hbox
 have n0 := Aside0.mk (HC.out.below hal)
 have n1 := Aside0.mk (HG.out.below hal)
 have n2 := Aside0.mk (blk_below BK2.out hal)
 have BK5 := Aside0.mk hbox
 have HW5 := Aside0.mk (show w.heap.size ≤ b5 by rw [← hb5]; exact HG.out.size)
 have HNE := Aside0.mk (show b2 ≠ b5 by have := blk_lt BK2.out; omega)
 have HB5 := Aside0.mk hb5
 clear HC HG BK2 hal hbox
 have HC := n0
 have HG := n1
 have BK2 := n2
 clear n0 n1 n2
 go_wp2_with fail
 clear hw5
 try rw [HB5.out]
 clear hb5 HB5 hand
 refine (vread2 g HC.out H2.out).mono ?_
 rintro e w6 ⟨rfl, hc, hg⟩
 have n1 := Aside0.mk (HG.out.trans hg (fun _ h => .inl h))
 have n2 := Aside0.mk (cur_blk (by decide) HC.out hg BK2.out)
 have n3 := Aside0.mk (cur_blk (by decide) HC.out hg BK5.out)
 clear HC HG BK2 BK5
 have HC := Aside0.mk hc
 have HG := n1
 have BK2 := n2
 have BK5 := n3
 clear n1 n2 n3 hc hg
 have z1 : w6.cell? ⟨b5, 1, none⟩ = some (.int .u64 0) := (blk_cell BK5.out 1).trans rfl
 have f1 := blk_frozen BK5.out 1
 have n0 := Aside0.mk (HC.out.step ((Chg.refl (fun k => k = b5) w6).set1 1 (.int .u64 (m : Int))) (fun k hk e => by have := HLO.out k hk; have := HW5.out; omega))
 have n1 := Aside0.mk (HG.out.trans ((Chg.refl (fun k => k = b5) w6).set1 1 (.int .u64 (m : Int))) (fun k e => .inr (by rw [e]; exact HW5.out)))
 have n2 := Aside0.mk (blk_far (p := ⟨b5, 1, none⟩) BK2.out HNE.out (.int .u64 (m : Int)))
 have n3 := Aside0.mk ((blk_put BK5.out 1 (.int .u64 (m : Int)) rfl).trans rfl)
 generalize hw7 : w6.setCell ⟨b5, 1, none⟩ (.int .u64 (m : Int)) = w7 at n0 n1 n2 n3
 clear HC HG BK2 BK5
 have HC := n0
 have HG := n1
 have BK2 := n2
 have BK5 : Aside0 (w7.heap[b5]? = some (.cells #[.bool t, .int .u64 (m : Int), .int .i64 x] 48 (0, 0))) := ⟨n3.out⟩
 clear n0 n1 n2 n3
 go_wp2_with fail
 clear hw7 z1 f1
 refine (recfine_calls g s2 w7 HC.out).mono ?_
 rintro e w8 ⟨rfl, hb⟩
 have n0 := Aside0.mk (HC.out.below hb)
 have n1 := Aside0.mk (HG.out.below hb)
 have n2 := Aside0.mk (blk_below BK2.out hb)
 have n3 := Aside0.mk (blk_below BK5.out hb)
 clear HC HG BK2 BK5 hb
 have HC := n0
 have HG := n1
 have BK2 := n2
 have BK5 := n3
 clear n0 n1 n2 n3
 cases hf : s2.fine with
 | false =>
  have HF := Aside0.mk hf
  clear hf
  go_wp2_with fail
  refine (recfine_calls g s2 w8 HC.out).mono ?_
  rintro e w9 ⟨rfl, hb⟩
  rw [HF.out]
  have n0 := Aside0.mk (HC.out.below hb)
  have n1 := Aside0.mk (HG.out.below hb)
  have n2 := Aside0.mk (blk_below BK2.out hb)
  clear HC HG BK2 BK5 hb
  have z0 : w9.cell? ⟨b2, 0, none⟩ = some (.bool false) := (blk_cell n2.out 0).trans rfl
  have z1 : w9.cell? ⟨b2, 1, none⟩ = some (.int .u64 0) := (blk_cell n2.out 1).trans rfl
  have z2 : w9.cell? ⟨b2, 2, none⟩ = some (.int .i64 0) := (blk_cell n2.out 2).trans rfl
  have f0 := blk_frozen n2.out 0
  have f1 := blk_frozen n2.out 1
  have f2 := blk_frozen n2.out 2
  go_wp2
  refine bodyPost_ret (results_cell_row rfl _ _ b2 48 #[.bool false, .int .u64 0, .int .i64 0] (0, 0) _ rfl (box3 n2.out _ _ _) Try.underlying48 rfl (by kernel_rfl)) rfl ⟨?_, ?_, ?_⟩
  ·rw [HG0.out, if_pos HF.out]; rfl
  ·rw [HG0.out, if_pos HF.out]
   exact n0.out.step (chg3 _ _ _) (fun k hk e => by have := HLO.out k hk; have := GEb2.out; omega)
  ·exact n1.out.trans (chg3 _ _ _) (fun k e => .inr (by rw [e]; exact GEb2.out))
 | true =>
  have HF := Aside0.mk hf
  clear hf
  have z0 : w8.cell? ⟨b5, 0, none⟩ = some (.bool t) := (blk_cell BK5.out 0).trans rfl
  have z1 : w8.cell? ⟨b5, 1, none⟩ = some (.int .u64 (m : Int)) := (blk_cell BK5.out 1).trans rfl
  have z2 : w8.cell? ⟨b5, 2, none⟩ = some (.int .i64 x) := (blk_cell BK5.out 2).trans rfl
  go_wp2_with fail
  refine (deccheck_calls t (m : Int) x w8 ⟨by omega, by have := HM.out; omega⟩).mono ?_
  rintro e w9 ⟨rfl, hb⟩
  rw [HBD.out]
  have n0 := Aside0.mk (HC.out.below hb)
  have n1 := Aside0.mk (HG.out.below hb)
  have n2 := Aside0.mk (blk_below BK2.out hb)
  have n3 := Aside0.mk (blk_below BK5.out hb)
  clear HC HG BK2 BK5 hb z0 z1 z2
  have HC := n0
  have HG := n1
  have BK2 := n2
  have BK5 := n3
  clear n0 n1 n2 n3
  go_wp2_with fail
  refine (curfail_calls g s2 bd s.pos w9 HC.out).mono ?_
  rintro e wa ⟨rfl, hc, hg⟩
  have n1 := Aside0.mk (HG.out.trans hg (fun _ h => .inl h))
  have n2 := Aside0.mk (cur_blk (by decide) HC.out hg BK2.out)
  have n3 := Aside0.mk (cur_blk (by decide) HC.out hg BK5.out)
  clear HC HG BK2 BK5
  have HC := Aside0.mk hc
  have HG := n1
  have BK2 := n2
  have BK5 := n3
  clear n1 n2 n3 hc hg
  by_cases hz : bd = 0
  ·have e0 : s2.fail bd s.pos = s2 := by unfold Cu.fail; rw [if_neg (by rw [hz]; simp)]
   have HZ := Aside0.mk hz
   have n0 := HC.out
   rw [e0] at n0
   clear HC hz e0
   have HC := Aside0.mk n0
   clear n0
   go_wp2_with fail
   refine (recfine_calls g s2 wa HC.out).mono ?_
   rintro e wb ⟨rfl, hb⟩
   rw [HF.out]
   have n0 := Aside0.mk (HC.out.below hb)
   have n1 := Aside0.mk (HG.out.below hb)
   have n2 := Aside0.mk (blk_below BK2.out hb)
   have n3 := Aside0.mk (blk_below BK5.out hb)
   clear HC HG BK2 BK5 hb
   have z0 : wb.cell? ⟨b2, 0, none⟩ = some (.bool false) := (blk_cell n2.out 0).trans rfl
   have z1 : wb.cell? ⟨b2, 1, none⟩ = some (.int .u64 0) := (blk_cell n2.out 1).trans rfl
   have z2 : wb.cell? ⟨b2, 2, none⟩ = some (.int .i64 0) := (blk_cell n2.out 2).trans rfl
   have f0 := blk_frozen n2.out 0
   have f1 := blk_frozen n2.out 1
   have f2 := blk_frozen n2.out 2
   have y0 : wb.cell? ⟨b5, 0, none⟩ = some (.bool t) := (blk_cell n3.out 0).trans rfl
   have y1 : wb.cell? ⟨b5, 1, none⟩ = some (.int .u64 (m : Int)) := (blk_cell n3.out 1).trans rfl
   have y2 : wb.cell? ⟨b5, 2, none⟩ = some (.int .i64 x) := (blk_cell n3.out 2).trans rfl
   go_wp2
   refine bodyPost_ret (results_cell_row rfl _ _ b2 48 #[.bool t, .int .u64 (m : Int), .int .i64 x] (0, 0) _ rfl (box3 n2.out _ _ _) Try.underlying48 rfl (by kernel_rfl)) rfl ⟨?_, ?_, ?_⟩
   ·rw [HG0.out, if_neg (by rw [HF.out]; decide), if_pos HZ.out]
   ·rw [HG0.out, if_neg (by rw [HF.out]; decide), if_pos HZ.out]
    exact n0.out.step (chg3 _ _ _) (fun k hk e => by have := HLO.out k hk; have := GEb2.out; omega)
   ·exact n1.out.trans (chg3 _ _ _) (fun k e => .inr (by rw [e]; exact GEb2.out))
  ·have HZ := Aside0.mk hz
   have HNF := Aside0.mk (fail_fine (a := s.pos) HF.out hz)
   clear hz
   go_wp2_with fail
   refine (recfine_calls g (s2.fail bd s.pos) wa HC.out).mono ?_
   rintro e wb ⟨rfl, hb⟩
   rw [HNF.out]
   have n0 := Aside0.mk (HC.out.below hb)
   have n1 := Aside0.mk (HG.out.below hb)
   have n2 := Aside0.mk (blk_below BK2.out hb)
   clear HC HG BK2 BK5 hb
   have z0 : wb.cell? ⟨b2, 0, none⟩ = some (.bool false) := (blk_cell n2.out 0).trans rfl
   have z1 : wb.cell? ⟨b2, 1, none⟩ = some (.int .u64 0) := (blk_cell n2.out 1).trans rfl
   have z2 : wb.cell? ⟨b2, 2, none⟩ = some (.int .i64 0) := (blk_cell n2.out 2).trans rfl
   have f0 := blk_frozen n2.out 0
   have f1 := blk_frozen n2.out 1
   have f2 := blk_frozen n2.out 2
   go_wp2
   refine bodyPost_ret (results_cell_row rfl _ _ b2 48 #[.bool false, .int .u64 0, .int .i64 0] (0, 0) _ rfl (box3 n2.out _ _ _) Try.underlying48 rfl (by kernel_rfl)) rfl ⟨?_, ?_, ?_⟩
   ·rw [HG0.out, if_neg (by rw [HF.out]; decide), if_neg HZ.out]; rfl
   ·rw [HG0.out, if_neg (by rw [HF.out]; decide), if_neg HZ.out]
    exact n0.out.step (chg3 _ _ _) (fun k hk e => by have := HLO.out k hk; have := GEb2.out; omega)
   ·exact n1.out.trans (chg3 _ _ _) (fun k e => .inr (by rw [e]; exact GEb2.out))
end Go.Proofs.Ytclbmdblalgdjaa
/- Package rec: Get: what lies in memory while a metric is taken; no condition. -/
namespace Go.Proofs.Ytclbmdblalgdjaa
open Go.RowKit Go.Proofs.YtclbmdblalgdjaaW.PrintWords Go.Proofs.YtclbmdblalgdjaaW.PrintLast Go.Proofs.YtclbmdblalgdjaaW.PrintMore Go.Proofs.Ytclbmdblalgdjaa.PE
set_option linter.unusedVariables false
set_option linter.unusedSimpArgs false
section
variable {P : Program} {ops : Array Oper} {rest : List Oper} {o : Oper} {a : Act} {Q : Exit → Act → World → Prop} {Kc : Act → World → Prop} {W : World} {s x : Operand} {t e : TypeId} {v : Value} {base : Nat}
theorem R_app_dec_step {xs : List DecS} {p : DecS} (hw : Region.wanted o (yielded ops a.tmps) = true)
  (ho : o.op = .call { callee := .builtin .append, args := #[s, x], argTypes := #[t, t] }) (hs : a.eval s = v) (hx : a.eval x = .slice (some ⟨W.heap.size, 0, none⟩) 1 1)
  (ht : P.underlying t = some (.slice e)) (hinfo : (P.info? e).map (fun i => (i.zero, i.size, i.bytes)) = some (some (.agg #[.bool false, .int .u64 0, .int .i64 0]), 3, 24))
  (HO : (k48).R e W base (fun _ => True) v xs) (hbase : base ≤ W.heap.size) (hl : xs.length < 1000000)
  (h : ∀ v1 w1, (k48).R e w1 base (fun _ => True) v1 (xs ++ [p]) → W.grownBy w1 v.ownBlock → Kc (a.put o.dst v1) w1) :
  if Region.wanted o (yielded ops a.tmps) = true then Oper.wp P o a (W.alloc (.cells #[.bool p.f0, .int .u64 p.f1, .int .i64 p.f2] e)) Kc Q else Kc (a.put o.dst undef) (W.alloc (.cells #[.bool p.f0, .int .u64 p.f1, .int .i64 p.f2] e)) := by
 refine Kd.R_append_step (k48) (w0 := W) base hw s x t e (.agg #[.bool false, .int .u64 0, .int .i64 0]) 24 ho ht hinfo rfl (by decide) (by omega) v xs p [.bool p.f0, .int .u64 p.f1, .int .i64 p.f2] (fun _ => True) (fun _ => False) hs hx (k48_mkM W base _ p) (fun _ hk => hk.elim) (fun _ _ => trivial) HO ((Below.refl _ _).mono hbase) hbase (by omega) ?_
 intro v1 w1 ho hb hg _
 exact h v1 w1 ho hg
theorem R_app_tag {xs : List TagS} {p : TagS} (hgd : o.guard = none)
  (ho : o.op = .call { callee := .builtin .append, args := #[s, x], argTypes := #[t, t] }) (hs : a.eval s = v) (hx : a.eval x = .slice (some ⟨W.heap.size, 0, none⟩) 1 1)
  (ht : P.underlying t = some (.slice e)) (hinfo : (P.info? e).map (fun i => (i.zero, i.size, i.bytes)) = some (some (.agg #[.string ⟨#[]⟩, .string ⟨#[]⟩]), 2, 32))
  (HO : (k81).R e W base (fun _ => True) v xs) (hbase : base ≤ W.heap.size) (hl : xs.length < 1000000)
  (h : ∀ v1 w1, (k81).R e w1 base (fun _ => True) v1 (xs ++ [p]) → W.grownBy w1 v.ownBlock → wpList P ops Q rest (a.put o.dst v1) w1) :
  wpList P ops Q (o :: rest) a (W.alloc (.cells #[.string p.f0, .string p.f1] e)) := by
 refine Kd.R_append (k81) (w0 := W) base hgd s x t e (.agg #[.string ⟨#[]⟩, .string ⟨#[]⟩]) 32 ho ht hinfo rfl (by decide) (by omega) v xs p [.string p.f0, .string p.f1] (fun _ => True) (fun _ => False) hs hx (k81_mkM W base _ p) (fun _ hk => hk.elim) (fun _ _ => trivial) HO ((Below.refl _ _).mono hbase) hbase (by omega) ?_
 intro v1 w1 ho hb hg _
 exact h v1 w1 ho hg
end
theorem row_set {α : Type} {kd : Kd α} {e base t b j : Nat} {ok' : Nat → Prop} {x : Value} {xs : List α} {W : World} {cells : Array Value} (hE : kd.E = []) (hb : W.heap[b]? = some (.cells cells t (0, 0))) (ht : e ≠ t) (hR : kd.R e W base ok' x xs) (u : Value) : kd.R e (W.setCell ⟨b, j, none⟩ u) base ok' x xs := by
 refine Kd.R_mono (Kd.R_step (Kd.R_tight hE hR) (fun k hk hl => Below.heap_setCell W ⟨b, j, none⟩ u k ?_)) (fun k hk => hR.1 k hk.symm)
 intro e2
 have e2 : k = b := e2
 obtain ⟨cs, hc⟩ := Kd.R_typed hR k hk.symm
 rw [e2, hb] at hc
 injection hc with hc
 injection hc with _ hc
 exact ht hc.symm
theorem row_grown {α β : Type} {kd : Kd α} {kd2 : Kd β} {e e2 base base2 : Nat} {ok' ok2 : Nat → Prop} {x y : Value} {xs : List α} {ys : List β} {W W1 : World} (hE : kd.E = []) (hR : kd.R e W base ok' x xs) (hS : kd2.R e2 W base2 ok2 y ys) (he : e ≠ e2) (hg : W.grownBy W1 y.ownBlock) : kd.R e W1 base ok' x xs := by
 refine Kd.R_mono (Kd.R_step (Kd.R_tight hE hR) (fun k hk hl => hg.block k hl ?_)) (fun k hk => hR.1 k hk.symm)
 intro e3
 obtain ⟨cs, hc⟩ := Kd.R_typed hR k hk.symm
 obtain ⟨cs2, hc2⟩ := Kd.R_typed hS k e3.symm
 rw [hc2] at hc
 injection hc with hc
 injection hc with _ hc
 exact he hc.symm
structure GM where
 nm : ByteArray
 kd : Int
 x2 : Value
 rt : Int
 x4 : Value
 tm : Int
 vs : List DecS
 ts : List TagS
structure GS (ok : Nat → Prop) (g : Nat) (dd : Dic) (b3 b4 b5 : Nat) (s : Cu) (v : Value) (ws : List ByteArray) (m : GM) (w W : World) : Prop where
 x : RX ok g dd s v ws w W
 k3 : W.heap[b3]? = some (.cells #[.pointer (some ⟨g, 0, none⟩)] 52 (0, 0))
 k4 : W.heap[b4]? = some (.cells #[.string ⟨#[]⟩, .int .i64 0, .slice none 0 0, .int .i64 0, .slice none 0 0, .int .i64 0] 26 (0, 0))
 k5 : W.heap[b5]? = some (.cells #[.string m.nm, .int .i64 m.kd, m.x2, .int .i64 m.rt, m.x4, .int .i64 m.tm] 26 (0, 0))
 r2 : (k48).R 48 W w.heap.size (fun _ => True) m.x2 m.vs
 r4 : (k81).R 81 W w.heap.size (fun _ => True) m.x4 m.ts
 l4 : w.heap.size ≤ b4
 l5 : w.heap.size ≤ b5
 n35 : b3 ≠ b5
 n45 : b4 ≠ b5
section
variable {ok : Nat → Prop} {g : Nat} {dd : Dic} {b3 b4 b5 : Nat} {s s' : Cu} {v : Value} {ws ws' : List ByteArray} {m : GM} {w W W' W1 : World}
theorem GS.below (h : GS ok g dd b3 b4 b5 s v ws m w W) (hb : Below W.heap.size W W') : GS ok g dd b3 b4 b5 s v ws m w W' :=
 ⟨h.x.below hb, blk_below h.k3 hb, blk_below h.k4 hb, blk_below h.k5 hb, Kd.R_below h.r2 hb, Kd.R_below h.r4 hb, h.l4, h.l5, h.n35, h.n45⟩
theorem GS.drew (h : GS ok g dd b3 b4 b5 s v ws m w W) : GS ok g dd b3 b4 b5 s v ws m w W.drew := h.below (below_drew1 (Below.refl _ _))
theorem GS.turn (h : GS ok g dd b3 b4 b5 s v ws m w W) (hc : CurAt ok g s' W') (hg : Chg (fun k => k = g) W W') : GS ok g dd b3 b4 b5 s' v ws m w W' :=
 ⟨h.x.turn hc hg, cur_blk (by decide) h.x.cur hg h.k3, cur_blk (by decide) h.x.cur hg h.k4, cur_blk (by decide) h.x.cur hg h.k5, cur_row rfl (by decide) h.x.cur hg h.r2, cur_row rfl (by decide) h.x.cur hg h.r4, h.l4, h.l5, h.n35, h.n45⟩
theorem GS.two (h : GS ok g dd b3 b4 b5 s v ws m w W) (hp : TwoPost ok g ⟨dd.g, dd.gm, v, ws⟩ s' ws' W W') : ∃ v', GS ok g dd b3 b4 b5 s' v' ws' m w W' := by
 obtain ⟨v', hx, hg⟩ := h.x.of hp
 have hc := h.x.cur
 have hd := h.x.dic
 exact ⟨v', hx, two_blk (by decide) (by decide) (by decide) hc hd hg h.k3, two_blk (by decide) (by decide) (by decide) hc hd hg h.k4, two_blk (by decide) (by decide) (by decide) hc hd hg h.k5, two_row rfl (by decide) (by decide) (by decide) hc hd hg h.r2, two_row rfl (by decide) (by decide) (by decide) hc hd hg h.r4, h.l4, h.l5, h.n35, h.n45⟩
theorem GS.set0 (h : GS ok g dd b3 b4 b5 s v ws m w W) (u : ByteArray) : GS ok g dd b3 b4 b5 s v ws { m with nm := u } w (W.setCell ⟨b5, 0, none⟩ (.string u)) :=
 ⟨h.x.put h.k5 (by decide) (by decide) h.l5 _, blk_far (p := ⟨b5, 0, none⟩) h.k3 h.n35 _, blk_far (p := ⟨b5, 0, none⟩) h.k4 h.n45 _, (blk_put h.k5 0 (.string u) rfl).trans rfl, row_set rfl h.k5 (by decide) h.r2 _, row_set rfl h.k5 (by decide) h.r4 _, h.l4, h.l5, h.n35, h.n45⟩
theorem GS.set1 (h : GS ok g dd b3 b4 b5 s v ws m w W) (u : Int) : GS ok g dd b3 b4 b5 s v ws { m with kd := u } w (W.setCell ⟨b5, 1, none⟩ (.int .i64 u)) :=
 ⟨h.x.put h.k5 (by decide) (by decide) h.l5 _, blk_far (p := ⟨b5, 1, none⟩) h.k3 h.n35 _, blk_far (p := ⟨b5, 1, none⟩) h.k4 h.n45 _, (blk_put h.k5 1 (.int .i64 u) rfl).trans rfl, row_set rfl h.k5 (by decide) h.r2 _, row_set rfl h.k5 (by decide) h.r4 _, h.l4, h.l5, h.n35, h.n45⟩
theorem GS.set3 (h : GS ok g dd b3 b4 b5 s v ws m w W) (u : Int) : GS ok g dd b3 b4 b5 s v ws { m with rt := u } w (W.setCell ⟨b5, 3, none⟩ (.int .i64 u)) :=
 ⟨h.x.put h.k5 (by decide) (by decide) h.l5 _, blk_far (p := ⟨b5, 3, none⟩) h.k3 h.n35 _, blk_far (p := ⟨b5, 3, none⟩) h.k4 h.n45 _, (blk_put h.k5 3 (.int .i64 u) rfl).trans rfl, row_set rfl h.k5 (by decide) h.r2 _, row_set rfl h.k5 (by decide) h.r4 _, h.l4, h.l5, h.n35, h.n45⟩
theorem GS.set5 (h : GS ok g dd b3 b4 b5 s v ws m w W) (u : Int) : GS ok g dd b3 b4 b5 s v ws { m with tm := u } w (W.setCell ⟨b5, 5, none⟩ (.int .i64 u)) :=
 ⟨h.x.put h.k5 (by decide) (by decide) h.l5 _, blk_far (p := ⟨b5, 5, none⟩) h.k3 h.n35 _, blk_far (p := ⟨b5, 5, none⟩) h.k4 h.n45 _, (blk_put h.k5 5 (.int .i64 u) rfl).trans rfl, row_set rfl h.k5 (by decide) h.r2 _, row_set rfl h.k5 (by decide) h.r4 _, h.l4, h.l5, h.n35, h.n45⟩
theorem GS.blk2 (h : GS ok g dd b3 b4 b5 s v ws m w W) (hg : W.grownBy W1 m.x2.ownBlock) : W1.heap[b5]? = some (.cells #[.string m.nm, .int .i64 m.kd, m.x2, .int .i64 m.rt, m.x4, .int .i64 m.tm] 26 (0, 0)) :=
 (hg.block b5 (blk_lt h.k5) (Kd.R_ne h.r2 h.k5 (by decide))).trans h.k5
theorem GS.blk2c (h : GS ok g dd b3 b4 b5 s v ws m w W) (hg : W.grownBy W1 m.x2.ownBlock) : W1.heap[b3]? = some (.cells #[.pointer (some ⟨g, 0, none⟩)] 52 (0, 0)) := (hg.block b3 (blk_lt h.k3) (Kd.R_ne h.r2 h.k3 (by decide))).trans h.k3
theorem GS.app2 (h : GS ok g dd b3 b4 b5 s v ws m w W) {y : Value} {ys : List DecS} (hg : W.grownBy W1 m.x2.ownBlock) (hr : (k48).R 48 W1 w.heap.size (fun _ => True) y ys) : GS ok g dd b3 b4 b5 s v ws { m with x2 := y, vs := ys } w (W1.setCell ⟨b5, 2, none⟩ y) := by
 have hc : Chg (fun k => some k = m.x2.ownBlock) W W1 := Chg.of_grown hg (fun k hk => hk.symm)
 have hx := h.x.far hc (fun k hk => Kd.R_base h.r2 k hk.symm) (fun k hk => by
  obtain ⟨cells, hb⟩ := Kd.R_typed h.r2 k hk.symm
  exact h.x.dic.nblk hb (by decide) (by decide))
 have k5 := h.blk2 hg
 have k3 := (hg.block b3 (blk_lt h.k3) (Kd.R_ne h.r2 h.k3 (by decide))).trans h.k3
 have k4 := (hg.block b4 (blk_lt h.k4) (Kd.R_ne h.r2 h.k4 (by decide))).trans h.k4
 have r4 := row_grown rfl h.r4 h.r2 (by decide) hg
 exact ⟨hx.put k5 (by decide) (by decide) h.l5 _, blk_far (p := ⟨b5, 2, none⟩) k3 h.n35 _, blk_far (p := ⟨b5, 2, none⟩) k4 h.n45 _, (blk_put k5 2 y rfl).trans rfl, row_set rfl k5 (by decide) hr _, row_set rfl k5 (by decide) r4 _, h.l4, h.l5, h.n35, h.n45⟩
theorem GS.blk4 (h : GS ok g dd b3 b4 b5 s v ws m w W) (hg : W.grownBy W1 m.x4.ownBlock) : W1.heap[b5]? = some (.cells #[.string m.nm, .int .i64 m.kd, m.x2, .int .i64 m.rt, m.x4, .int .i64 m.tm] 26 (0, 0)) :=
 (hg.block b5 (blk_lt h.k5) (Kd.R_ne h.r4 h.k5 (by decide))).trans h.k5
theorem GS.app4 (h : GS ok g dd b3 b4 b5 s v ws m w W) {y : Value} {ys : List TagS} (hg : W.grownBy W1 m.x4.ownBlock) (hr : (k81).R 81 W1 w.heap.size (fun _ => True) y ys) : GS ok g dd b3 b4 b5 s v ws { m with x4 := y, ts := ys } w (W1.setCell ⟨b5, 4, none⟩ y) := by
 have hc : Chg (fun k => some k = m.x4.ownBlock) W W1 := Chg.of_grown hg (fun k hk => hk.symm)
 have hx := h.x.far hc (fun k hk => Kd.R_base h.r4 k hk.symm) (fun k hk => by
  obtain ⟨cells, hb⟩ := Kd.R_typed h.r4 k hk.symm
  exact h.x.dic.nblk hb (by decide) (by decide))
 have k5 := h.blk4 hg
 have k3 := (hg.block b3 (blk_lt h.k3) (Kd.R_ne h.r4 h.k3 (by decide))).trans h.k3
 have k4 := (hg.block b4 (blk_lt h.k4) (Kd.R_ne h.r4 h.k4 (by decide))).trans h.k4
 have r2 := row_grown rfl h.r2 h.r4 (by decide) hg
 exact ⟨hx.put k5 (by decide) (by decide) h.l5 _, blk_far (p := ⟨b5, 4, none⟩) k3 h.n35 _, blk_far (p := ⟨b5, 4, none⟩) k4 h.n45 _, (blk_put k5 4 y rfl).trans rfl, row_set rfl k5 (by decide) r2 _, row_set rfl k5 (by decide) hr _, h.l4, h.l5, h.n35, h.n45⟩
end
theorem blk_ne {W : World} {a b t1 t2 : Nat} {c1 c2 : Array Value} (h1 : W.heap[a]? = some (.cells c1 t1 (0, 0))) (h2 : W.heap[b]? = some (.cells c2 t2 (0, 0))) (h : t1 ≠ t2) : a ≠ b := by
 rintro rfl
 rw [h1] at h2
 injection h2 with h2
 injection h2 with _ h2
 exact h h2
theorem GS.put10 {ok : Nat → Prop} {g : Nat} {dd : Dic} {b3 b4 b5 b10 j : Nat} {s : Cu} {v : Value} {ws : List ByteArray} {m : GM} {w W : World} {cs : Array Value} (h : GS ok g dd b3 b4 b5 s v ws m w W) (hb : W.heap[b10]? = some (.cells cs 81 (0, 0))) (hl : w.heap.size ≤ b10) (hx : some b10 ≠ m.x4.ownBlock) (u : Value) : GS ok g dd b3 b4 b5 s v ws m w (W.setCell ⟨b10, j, none⟩ u) :=
 ⟨h.x.put hb (by decide) (by decide) hl _, blk_far (p := ⟨b10, j, none⟩) h.k3 (blk_ne h.k3 hb (by decide)) _, blk_far (p := ⟨b10, j, none⟩) h.k4 (blk_ne h.k4 hb (by decide)) _, blk_far (p := ⟨b10, j, none⟩) h.k5 (blk_ne h.k5 hb (by decide)) _, row_set rfl hb (by decide) h.r2 _,
  Kd.R_mono (Kd.R_step (Kd.R_tight rfl h.r4) (fun k hk hl => Below.heap_setCell W ⟨b10, j, none⟩ u k (fun e => hx (by rw [← show k = b10 from e]; exact hk)))) (fun _ _ => trivial), h.l4, h.l5, h.n35, h.n45⟩
theorem box6 {W : World} {b T : Nat} {u0 u1 u2 u3 u4 u5 : Value} (hb : W.heap[b]? = some (.cells #[u0, u1, u2, u3, u4, u5] T (0, 0))) (v0 v1 v2 v3 v4 v5 : Value) : ((((((W.setCell ⟨b, 0, none⟩ v0).setCell ⟨b, 1, none⟩ v1).setCell ⟨b, 2, none⟩ v2).setCell ⟨b, 3, none⟩ v3).setCell ⟨b, 4, none⟩ v4).setCell ⟨b, 5, none⟩ v5).heap[b]? = some (.cells #[v0, v1, v2, v3, v4, v5] T (0, 0)) :=
 (blk_put ((blk_put ((blk_put ((blk_put ((blk_put ((blk_put hb 0 v0 rfl).trans rfl) 1 v1 rfl).trans rfl) 2 v2 rfl).trans rfl) 3 v3 rfl).trans rfl) 4 v4 rfl).trans rfl) 5 v5 rfl).trans rfl
theorem chg6 {W : World} {b : Nat} (v0 v1 v2 v3 v4 v5 : Value) : Chg (fun k => k = b) W ((((((W.setCell ⟨b, 0, none⟩ v0).setCell ⟨b, 1, none⟩ v1).setCell ⟨b, 2, none⟩ v2).setCell ⟨b, 3, none⟩ v3).setCell ⟨b, 4, none⟩ v4).setCell ⟨b, 5, none⟩ v5) := ((((((Chg.refl _ _).set1 0 v0).set1 1 v1).set1 2 v2).set1 3 v3).set1 4 v4).set1 5 v5
theorem row_chg {α : Type} {kd : Kd α} {e base t b : Nat} {ok' : Nat → Prop} {x : Value} {xs : List α} {W W' : World} {cells : Array Value} (hE : kd.E = []) (hb : W.heap[b]? = some (.cells cells t (0, 0))) (ht : e ≠ t) (hR : kd.R e W base ok' x xs) (hc : Chg (fun k => k = b) W W') : kd.R e W' base ok' x xs := by
 refine Kd.R_mono (Kd.R_step (Kd.R_tight hE hR) (fun k hk hl => hc.block k hl ?_)) (fun k hk => hR.1 k hk.symm)
 intro e2
 obtain ⟨cs, hc⟩ := Kd.R_typed hR k hk.symm
 rw [e2, hb] at hc
 injection hc with hc
 injection hc with _ hc
 exact ht hc.symm
theorem gnum_bd {s : Cu} {lo hi : Nat} {e : Int} (he : e ≠ 0) (h : (gnum s lo hi e).2.fine = true) : lo ≤ (gnum s lo hi e).1 ∧ (gnum s lo hi e).1 ≤ hi := by
 unfold gnum at h ⊢
 simp only at h ⊢
 split at h
 ·assumption
 ·exact absurd h (fail_keep he)
theorem gmet_nf {ws : List ByteArray} {s : Cu} (hf : s.fine = false) : gmet ws s = (recZ, s, ws) := by
 have hv : s.vread = (0, s) := by unfold Cu.vread; rw [if_pos hf]
 have hn : ∀ lo hi e, (gnum s lo hi e).2 = s := fun lo hi e => by
  unfold gnum
  rw [hv]
  simp only
  split
  ·rfl
  ·exact fail_off hf _ _
 have hg : dget ws s 1 = (ByteArray.empty, s, ws) := by unfold dget; rw [if_pos hf]
 have ha : (gword ws s 1 1 200 15).2 = (s, ws) := by
  unfold gword
  rw [hg]
  simp only
  split
  ·rfl
  ·rw [fail_off hf]
 have hk : (gkind s).2 = s := by
  unfold gkind
  simp only
  rw [nf_take hf]
  split
  ·rfl
  ·exact fail_off hf _ _
 unfold gmet gmet1
 rw [ha]
 unfold gmet2
 rw [hk]
 unfold gmet3
 rw [hn, gvals_nf hf]
 unfold gmet4
 simp only
 rw [hn, hn, gtags_nf hf]
 unfold gmet5
 simp only
 rw [gend_no (by rw [hn, hf]; decide), hn]
end Go.Proofs.Ytclbmdblalgdjaa
/- Package rec: Get: what it tells and turns; no condition. -/
namespace Go.Proofs.Ytclbmdblalgdjaa
open Go.RowKit Go.Proofs.YtclbmdblalgdjaaW.PrintWords Go.Proofs.YtclbmdblalgdjaaW.PrintLast Go.Proofs.YtclbmdblalgdjaaW.PrintMore Go.Proofs.Ytclbmdblalgdjaa.PE
set_option linter.unusedVariables false
set_option linter.unusedSimpArgs false
def MPost (ok : Nat → Prop) (g : Nat) (d : Dic) (r : MetS × Cu × List ByteArray) (w : World) (e : Ending) (w' : World) : Prop :=
 ∃ v2 v4, e = .returned (.agg #[.string r.1.f0, .int .i64 r.1.f1, v2, .int .i64 r.1.f3, v4, .int .i64 r.1.f5]) ∧ (k48).R 48 w' w.heap.size (fun _ => True) v2 r.1.f2 ∧ (k81).R 81 w' w.heap.size (fun _ => True) v4 r.1.f4 ∧ TwoPost ok g d r.2.1 r.2.2 w w'
def lastT (l : List TagS) : Option TagS := l.getLast?
theorem lastT_snoc (l : List TagS) (t : TagS) : lastT (l ++ [t]) = some t := by unfold lastT; simp
theorem rd_lastT {l : List TagS} {i : Int} (hi : i = (l.length : Int) - 1) (hl : 0 < l.length) : lastT l = some (rd_T81 l i) := by
 unfold lastT rd_T81
 rw [List.getLast?_eq_getElem?, show i.toNat = l.length - 1 by omega, List.getD_eq_getElem?_getD, List.getElem?_eq_getElem (by omega)]
 rfl
theorem gtags_succ {k : Nat} {ws : List ByteArray} {s : Cu} {o : Option TagS} (hs : s.fine = true) : gtags (k + 1) ws s o = ((gtag ws s o).1 :: (gtags k (gtag ws s o).2.2 (gtag ws s o).2.1 (some (gtag ws s o).1)).1, (gtags k (gtag ws s o).2.2 (gtag ws s o).2.1 (some (gtag ws s o).1)).2) := if_pos hs
theorem gvals_succ {k : Nat} {s : Cu} (hs : s.fine = true) : gvals (k + 1) s = ((gdec s).1 :: (gvals k (gdec s).2).1, (gvals k (gdec s).2).2) := if_pos hs
def VP (V : List DecS × Cu) (c : Int) (s : Cu) (vs : List DecS) : Prop := (s.fine = true → 0 ≤ c ∧ vs.length + c.toNat ≤ 64 ∧ V = (vs ++ (gvals c.toNat s).1, (gvals c.toNat s).2)) ∧ (s.fine = false → V.2 = s)
theorem VP.step {V : List DecS × Cu} {c : Int} {s s' : Cu} {vs : List DecS} {dv : DecS} (h : VP V c s vs) (hf : s.fine = true) (hc : 0 < c) (hd : gdec s = (dv, s')) : VP V (c - 1) s' (vs ++ [dv]) := by
 obtain ⟨h1, h2, h3⟩ := h.1 hf
 obtain ⟨k, hk⟩ : ∃ k : Nat, c = ((k + 1 : Nat) : Int) := ⟨c.toNat - 1, by omega⟩
 subst hk
 rw [Int.toNat_natCast, gvals_succ hf, hd] at h3
 have e : (((k + 1 : Nat) : Int) - 1).toNat = k := by omega
 refine ⟨fun hf2 => ⟨by omega, ?_, ?_⟩, fun hf2 => ?_⟩
 ·rw [e, List.length_append]
  simp only [List.length_cons, List.length_nil]
  omega
 ·rw [e, h3, List.append_assoc]
  rfl
 ·rw [h3]
  show (gvals k s').2 = s'
  rw [gvals_nf hf2]
theorem VP.done {V : List DecS × Cu} {c : Int} {s : Cu} {vs : List DecS} (h : VP V c s vs) (hc : s.fine = true → ¬ 0 < c) : V.2 = s ∧ (s.fine = true → V.1 = vs) := by
 cases hf : s.fine with
 | false => exact ⟨h.2 hf, fun h2 => by cases h2⟩
 | true =>
  obtain ⟨h1, h2, h3⟩ := h.1 hf
  have e : c.toNat = 0 := by have := hc hf; omega
  rw [e] at h3
  rw [h3]
  exact ⟨rfl, fun _ => by simp [gvals]⟩
def TP (G : List TagS × Cu × List ByteArray) (c : Int) (s : Cu) (ws : List ByteArray) (ts : List TagS) : Prop := (s.fine = true → 0 ≤ c ∧ ts.length + c.toNat ≤ 32 ∧ G = (ts ++ (gtags c.toNat ws s (lastT ts)).1, (gtags c.toNat ws s (lastT ts)).2)) ∧ (s.fine = false → G.2 = (s, ws)) ∧ s.sane
theorem TP.step {G : List TagS × Cu × List ByteArray} {c : Int} {s s' : Cu} {ws ws' : List ByteArray} {ts : List TagS} {t : TagS} (h : TP G c s ws ts) (hf : s.fine = true) (hc : 0 < c) (hd : gtag ws s (lastT ts) = (t, s', ws')) : TP G (c - 1) s' ws' (ts ++ [t]) := by
 obtain ⟨h1, h2, h3⟩ := h.1 hf
 obtain ⟨k, hk⟩ : ∃ k : Nat, c = ((k + 1 : Nat) : Int) := ⟨c.toNat - 1, by omega⟩
 subst hk
 have hsn := gtag_sane (ws := ws) (l := lastT ts) h.2.2
 rw [hd] at hsn
 rw [Int.toNat_natCast, gtags_succ hf, hd] at h3
 have e : (((k + 1 : Nat) : Int) - 1).toNat = k := by omega
 refine ⟨fun hf2 => ⟨by omega, ?_, ?_⟩, fun hf2 => ?_, hsn⟩
 ·rw [e, List.length_append]
  simp only [List.length_cons, List.length_nil]
  omega
 ·rw [e, h3, lastT_snoc, List.append_assoc]
  rfl
 ·rw [h3]
  show (gtags k ws' s' (some t)).2 = (s', ws')
  rw [gtags_nf hf2]
theorem TP.done {G : List TagS × Cu × List ByteArray} {c : Int} {s : Cu} {ws : List ByteArray} {ts : List TagS} (h : TP G c s ws ts) (hc : s.fine = true → ¬ 0 < c) : G.2 = (s, ws) ∧ (s.fine = true → G.1 = ts) := by
 cases hf : s.fine with
 | false => exact ⟨h.2.1 hf, fun h2 => by cases h2⟩
 | true =>
  obtain ⟨h1, h2, h3⟩ := h.1 hf
  have e : c.toNat = 0 := by have := hc hf; omega
  rw [e] at h3
  rw [h3]
  exact ⟨rfl, fun _ => by simp [gtags]⟩
set_option maxHeartbeats 16000000 in
set_option maxRecDepth 100000 in
theorem recget_calls {ok : Nat → Prop} (d : Dic) (g : Nat) (s : Cu) (w : World) (h : RX ok g d s d.v d.ws w w) (hs : s.sane) :
  Calls Try.prog 27 #[.pointer (some ⟨d.g, 0, none⟩), .pointer (some ⟨g, 0, none⟩)] w (MPost ok g d (gmet d.ws s) w) := by
 have HX := Aside0.mk h
 have HS := Aside0.mk hs
 have HB := Aside0.mk (Below.refl w.heap.size w)
 have HLO := Aside0.mk h.lo
 obtain ⟨a, ha⟩ : ∃ a, gword d.ws s 1 1 200 15 = a := ⟨_, rfl⟩
 obtain ⟨b, hbk⟩ : ∃ b, gkind a.2.1 = b := ⟨_, rfl⟩
 obtain ⟨n1, hn1⟩ : ∃ n1, gnum b.2 1 64 17 = n1 := ⟨_, rfl⟩
 obtain ⟨V, hV⟩ : ∃ V, gvals n1.1 n1.2 = V := ⟨_, rfl⟩
 obtain ⟨r, hr⟩ : ∃ r, gnum V.2 (leastR b.1) 1000000 18 = r := ⟨_, rfl⟩
 obtain ⟨n2, hn2⟩ : ∃ n2, gnum r.2 0 32 19 = n2 := ⟨_, rfl⟩
 obtain ⟨G, hG⟩ : ∃ G, gtags n2.1 a.2.2 n2.2 none = G := ⟨_, rfl⟩
 obtain ⟨u, hu⟩ : ∃ u, gnum G.2.1 0 1099511627776 20 = u := ⟨_, rfl⟩
 have HFIN : Aside0 (gmet d.ws s = gend a.1 b.1 V.1 r.1 G.1 G.2.2 u) := ⟨by
  unfold gmet
  rw [ha]
  unfold gmet1
  rw [hbk]
  unfold gmet2
  rw [hn1, hV]
  unfold gmet3
  rw [hr]
  unfold gmet4
  rw [hn2, hG]
  unfold gmet5
  rw [hu]⟩
 have HSN : Aside0 (a.2.1.sane ∧ n2.2.sane) := ⟨⟨by rw [← ha]; exact gword_sane hs, by rw [← hn2]; refine gnum_sane ?_; rw [← hr]; refine gnum_sane ?_; rw [← hV]; refine gvals_sane _ ?_; rw [← hn1]; refine gnum_sane ?_; rw [← hbk]; refine gkind_sane ?_; rw [← ha]; exact gword_sane hs⟩⟩
 have HA := Aside0.mk ha
 have HBK := Aside0.mk hbk
 have HN1 := Aside0.mk hn1
 have HV := Aside0.mk hV
 have HR := Aside0.mk hr
 have HN2 := Aside0.mk hn2
 have HGG := Aside0.mk hG
 have HU := Aside0.mk hu
 clear h hs ha hbk hn1 hV hr hn2 hG hu
 go_enter Try.func27, Try.ntmps27
 go_wp2_with (first | ((with_reducible refine gate_dst (N := 3) rfl ?_); refine box_event ?hg (N := 3) ?hd (cs := #[.pointer (some ⟨g, 0, none⟩)]) (t := 52) ?hr ?_; (case hd => rfl); (case hg => rfl); (case hr => first | (go_simp; done) | (go_simp; rfl)); intro b3 hgb3 w1 hbox hb; have GEb3 := Aside0.mk ((by rw [hgb3]; exact below_size HB.out) : w.heap.size ≤ b3); have n0 := Aside0.mk (below_step HB.out hb); clear HB; have HB := n0; clear n0; have n0 := Aside0.mk (HX.out.below hb); clear HX; have HX := n0; clear n0; have BK3 := Aside0.mk hbox; clear hgb3 hbox hb; (try clear zBK3_0); have zBK3_0 : w1.cell? ⟨b3, 0, none⟩ = some (.pointer (some ⟨g, 0, none⟩)) := (blk_cell BK3.out 0).trans rfl) | ((with_reducible refine gate_dst (N := 4) rfl ?_); refine box_event ?hg (N := 4) ?hd (cs := #[.string ⟨#[]⟩, .int .i64 0, .slice none 0 0, .int .i64 0, .slice none 0 0, .int .i64 0]) (t := 26) ?hr ?_; (case hd => rfl); (case hg => rfl); (case hr => first | (go_simp; done) | (go_simp; rfl)); intro b4 hgb4 w2 hbox hb; have GEb4 := Aside0.mk ((by rw [hgb4]; exact below_size HB.out) : w.heap.size ≤ b4); have n0 := Aside0.mk (below_step HB.out hb); clear HB; have HB := n0; clear n0; have n0 := Aside0.mk (blk_below BK3.out hb); clear BK3; have BK3 := n0; clear n0; have n0 := Aside0.mk (HX.out.below hb); clear HX; have HX := n0; clear n0; have BK4 := Aside0.mk hbox; clear hgb4 hbox hb; (try clear zBK3_0); have zBK3_0 : w2.cell? ⟨b3, 0, none⟩ = some (.pointer (some ⟨g, 0, none⟩)) := (blk_cell BK3.out 0).trans rfl; (try clear zBK4_0); have zBK4_0 : w2.cell? ⟨b4, 0, none⟩ = some (.string ⟨#[]⟩) := (blk_cell BK4.out 0).trans rfl; (try clear zBK4_1); have zBK4_1 : w2.cell? ⟨b4, 1, none⟩ = some (.int .i64 0) := (blk_cell BK4.out 1).trans rfl; (try clear zBK4_2); have zBK4_2 : w2.cell? ⟨b4, 2, none⟩ = some (.slice none 0 0) := (blk_cell BK4.out 2).trans rfl; (try clear zBK4_3); have zBK4_3 : w2.cell? ⟨b4, 3, none⟩ = some (.int .i64 0) := (blk_cell BK4.out 3).trans rfl; (try clear zBK4_4); have zBK4_4 : w2.cell? ⟨b4, 4, none⟩ = some (.slice none 0 0) := (blk_cell BK4.out 4).trans rfl; (try clear zBK4_5); have zBK4_5 : w2.cell? ⟨b4, 5, none⟩ = some (.int .i64 0) := (blk_cell BK4.out 5).trans rfl))
 refine (recfine_calls g s w2 HX.out.cur).mono ?_
 rintro e w3 ⟨rfl, hb⟩
 have n0 := Aside0.mk (HX.out.below hb)
 have n1_ := Aside0.mk (blk_below BK3.out hb)
 have n2_ := Aside0.mk (blk_below BK4.out hb)
 have n3_ := Aside0.mk (below_step HB.out hb)
 clear HX BK3 BK4 HB hb zBK3_0 zBK4_0 zBK4_1 zBK4_2 zBK4_3 zBK4_4 zBK4_5
 have HX := n0
 have BK3 := n1_
 have BK4 := n2_
 have HB := n3_
 clear n0 n1_ n2_ n3_
 cases hf : s.fine with
 | false =>
  have HF := Aside0.mk hf
  clear hf
  have z0 : w3.cell? ⟨b4, 0, none⟩ = some (.string ⟨#[]⟩) := (blk_cell BK4.out 0).trans rfl
  have z1 : w3.cell? ⟨b4, 1, none⟩ = some (.int .i64 0) := (blk_cell BK4.out 1).trans rfl
  have z2 : w3.cell? ⟨b4, 2, none⟩ = some (.slice none 0 0) := (blk_cell BK4.out 2).trans rfl
  have z3 : w3.cell? ⟨b4, 3, none⟩ = some (.int .i64 0) := (blk_cell BK4.out 3).trans rfl
  have z4 : w3.cell? ⟨b4, 4, none⟩ = some (.slice none 0 0) := (blk_cell BK4.out 4).trans rfl
  have z5 : w3.cell? ⟨b4, 5, none⟩ = some (.int .i64 0) := (blk_cell BK4.out 5).trans rfl
  have f0 := blk_frozen BK4.out 0
  have f1 := blk_frozen BK4.out 1
  have f2 := blk_frozen BK4.out 2
  have f3 := blk_frozen BK4.out 3
  have f4 := blk_frozen BK4.out 4
  have f5 := blk_frozen BK4.out 5
  go_wp2
  refine bodyPost_ret (results_cell_row rfl _ _ b4 26 #[.string ⟨#[]⟩, .int .i64 0, .slice none 0 0, .int .i64 0, .slice none 0 0, .int .i64 0] (0, 0) _ rfl (box6 BK4.out _ _ _ _ _ _) Try.underlying26 rfl (by kernel_rfl)) rfl ?_
  rw [gmet_nf HF.out]
  refine ⟨_, _, rfl, Kd.R_nil _ _ _ _ _, Kd.R_nil _ _ _ _ _, ?_⟩
  exact (HX.out.far (chg6 _ _ _ _ _ _) (fun k hk => by rw [hk]; exact GEb4.out) (fun k hk => by rw [hk]; exact HX.out.dic.nblk BK4.out (by decide) (by decide))).two
 | true =>
  clear hf
  have NE45 := Aside0.mk trivial
  have N35 := Aside0.mk trivial
  go_wp2_with (first | ((with_reducible refine gate_dst (N := 5) rfl ?_); refine box_event ?hg (N := 5) ?hd (cs := #[.string ⟨#[]⟩, .int .i64 0, .slice none 0 0, .int .i64 0, .slice none 0 0, .int .i64 0]) (t := 26) ?hr ?_; (case hd => rfl); (case hg => rfl); (case hr => first | (go_simp; done) | (go_simp; rfl)); intro b5 hgb5 w4 hbox hb; have GEb5 := Aside0.mk ((by rw [hgb5]; exact below_size HB.out) : w.heap.size ≤ b5); have n0 := Aside0.mk (below_step HB.out hb); clear HB; have HB := n0; clear n0; have n0 := Aside0.mk (((by rw [hgb5]; exact Nat.ne_of_lt (blk_lt BK4.out)) : b4 ≠ b5)); clear NE45; have NE45 := n0; clear n0; have n0 := Aside0.mk (((by rw [hgb5]; exact Nat.ne_of_lt (blk_lt BK3.out)) : b3 ≠ b5)); clear N35; have N35 := n0; clear n0; have n0 := Aside0.mk (HX.out.below hb); clear HX; have HX := n0; clear n0; have n0 := Aside0.mk (blk_below BK3.out hb); clear BK3; have BK3 := n0; clear n0; have n0 := Aside0.mk (blk_below BK4.out hb); clear BK4; have BK4 := n0; clear n0; have BK5 := Aside0.mk hbox; clear hgb5 hbox hb; (try clear zBK5_0); have zBK5_0 : w4.cell? ⟨b5, 0, none⟩ = some (.string ⟨#[]⟩) := (blk_cell BK5.out 0).trans rfl; (try clear zBK5_1); have zBK5_1 : w4.cell? ⟨b5, 1, none⟩ = some (.int .i64 0) := (blk_cell BK5.out 1).trans rfl; (try clear zBK5_2); have zBK5_2 : w4.cell? ⟨b5, 2, none⟩ = some (.slice none 0 0) := (blk_cell BK5.out 2).trans rfl; (try clear zBK5_3); have zBK5_3 : w4.cell? ⟨b5, 3, none⟩ = some (.int .i64 0) := (blk_cell BK5.out 3).trans rfl; (try clear zBK5_4); have zBK5_4 : w4.cell? ⟨b5, 4, none⟩ = some (.slice none 0 0) := (blk_cell BK5.out 4).trans rfl; (try clear zBK5_5); have zBK5_5 : w4.cell? ⟨b5, 5, none⟩ = some (.int .i64 0) := (blk_cell BK5.out 5).trans rfl; (try clear zBK3_0); have zBK3_0 : w4.cell? ⟨b3, 0, none⟩ = some (.pointer (some ⟨g, 0, none⟩)) := (blk_cell BK3.out 0).trans rfl))
  have HG : Aside0 (GS ok g d b3 b4 b5 s d.v d.ws ⟨⟨#[]⟩, 0, .slice none 0 0, 0, .slice none 0 0, 0, [], []⟩ w w4) := ⟨⟨HX.out, BK3.out, BK4.out, BK5.out, Kd.R_nil _ _ _ _ _, Kd.R_nil _ _ _ _ _, GEb4.out, GEb5.out, N35.out, NE45.out⟩⟩
  clear HX BK3 BK4 BK5 HB GEb3 GEb4 GEb5 N35 NE45
  have hcall := recword_calls d g s d.v d.ws 1 1 200 1 200 15 rfl rfl w w4 HG.out.x HS.out
  rw [HA.out] at hcall
  refine hcall.mono ?_
  rintro e w5 ⟨rfl, hp⟩
  clear hcall zBK3_0 zBK5_0 zBK5_1 zBK5_2 zBK5_3 zBK5_4 zBK5_5
  obtain ⟨v5, hg5⟩ := HG.out.two hp
  clear HG hp
  have HG := Aside0.mk hg5
  clear hg5
  have z5 : w5.cell? ⟨b5, 0, none⟩ = some (.string ⟨#[]⟩) := (blk_cell HG.out.k5 0).trans rfl
  have f5 := blk_frozen HG.out.k5 0
  have n0 := Aside0.mk (HG.out.set0 a.1)
  generalize hw6 : w5.setCell ⟨b5, 0, none⟩ (.string a.1) = w6 at n0
  clear HG
  have HG : Aside0 (GS ok g d b3 b4 b5 a.2.1 v5 a.2.2 ⟨a.1, 0, .slice none 0 0, 0, .slice none 0 0, 0, [], []⟩ w w6) := ⟨n0.out⟩
  clear n0
  have z3 : w6.cell? ⟨b3, 0, none⟩ = some (.pointer (some ⟨g, 0, none⟩)) := (blk_cell HG.out.k3 0).trans rfl
  go_wp2_with fail
  clear hw6 z5 f5 z3
  have hcall := reckind_calls g b3 a.2.1 w6 HG.out.x.cur HG.out.k3
  rw [HBK.out] at hcall
  refine hcall.mono ?_
  rintro e w7 ⟨rfl, hc, hg⟩
  have n0 := Aside0.mk (HG.out.turn hc hg)
  clear HG hcall hc hg
  have HG := n0
  clear n0
  have z5 : w7.cell? ⟨b5, 1, none⟩ = some (.int .i64 0) := (blk_cell HG.out.k5 1).trans rfl
  have f5 := blk_frozen HG.out.k5 1
  have n0 := Aside0.mk (HG.out.set1 b.1)
  generalize hw8 : w7.setCell ⟨b5, 1, none⟩ (.int .i64 b.1) = w8 at n0
  clear HG
  have HG : Aside0 (GS ok g d b3 b4 b5 b.2 v5 a.2.2 ⟨a.1, b.1, .slice none 0 0, 0, .slice none 0 0, 0, [], []⟩ w w8) := ⟨n0.out⟩
  clear n0
  have z3 : w8.cell? ⟨b3, 0, none⟩ = some (.pointer (some ⟨g, 0, none⟩)) := (blk_cell HG.out.k3 0).trans rfl
  go_wp2_with fail
  clear hw8 z5 f5 z3
  have hcall := recnum_calls g b.2 1 64 1 64 17 rfl rfl (by decide) (by decide) w8 HG.out.x.cur
  rw [HN1.out] at hcall
  have hvp : VP V (wrap64 (n1.1 : Int)) n1.2 [] := by
   refine ⟨fun hf => ?_, fun hf => ?_⟩
   ·have hbd := gnum_bd (s := b.2) (lo := 1) (hi := 64) (e := 17) (by decide) (by rw [HN1.out]; exact hf)
    rw [HN1.out] at hbd
    rw [IntWalk.wrap64_in _ (by omega), Int.toNat_natCast, HV.out]
    exact ⟨by omega, by simp; omega, rfl⟩
   ·rw [← HV.out, gvals_nf hf]
  obtain ⟨c0, hc0⟩ : ∃ c0, wrap64 (n1.1 : Int) = c0 := ⟨_, rfl⟩
  rw [hc0] at hcall hvp
  have HVP := Aside0.mk hvp
  clear hc0 hvp
  refine hcall.mono ?_
  rintro e w9 ⟨rfl, hc, hg⟩
  have n0 := Aside0.mk (HG.out.turn hc hg)
  clear HG hcall hc hg
  have HG := n0
  clear n0
  go_upto_block 0 with fail
  (try simp only [Act.put, List.setIfInBounds_toArray, List.set_cons_zero, List.set_cons_succ])
  go_cut [6] from 30 to 44 (fun v6 wc => ∃ (c' : Int) (x2 : Value) (vs : List DecS), v6 = .int .i64 c' ∧ Aside0 (GS ok g d b3 b4 b5 V.2 v5 a.2.2 ⟨a.1, b.1, x2, 0, .slice none 0 0, 0, vs, []⟩ w wc) ∧ Aside0 (V.2.fine = true → V.1 = vs))
  case first =>
   go_wp2
   go_loopw [6] (fun v6 wr => ∃ (c' : Int) (si : Cu) (x2 : Value) (vs : List DecS), v6 = .int .i64 c' ∧ Aside0 (GS ok g d b3 b4 b5 si v5 a.2.2 ⟨a.1, b.1, x2, 0, .slice none 0 0, 0, vs, []⟩ w wr) ∧ Aside0 (VP V c' si vs)) (fun v6 _ => (intOf v6).toNat)
   case atStart => exact ⟨c0, n1.2, _, _, rfl, HG, HVP⟩
   case round =>
    clear HG HVP
    obtain ⟨c', si, x2, vs, rfl, HG, HVP⟩ := hrel
    obtain ⟨wo, rfl⟩ : ∃ wo : World, wo = wr := ⟨_, rfl⟩
    have z3 : wo.cell? ⟨b3, 0, none⟩ = some (.pointer (some ⟨g, 0, none⟩)) := (blk_cell HG.out.k3 0).trans rfl
    by_cases hc : 0 < c'
    ·have hd : decide (0 < c') = true := decide_eq_true hc
     have HC0 := Aside0.mk hc
     clear hc
     go_wp2_with fail
     refine (recfine_calls g si wo HG.out.x.cur).mono ?_
     rintro e wp ⟨rfl, hb⟩
     clear z3
     have n0 := Aside0.mk (HG.out.below hb)
     clear HG hb
     have HG := n0
     clear n0
     cases hf : si.fine with
     | false =>
      have HF := Aside0.mk hf
      clear hf
      have hdn := HVP.out.done (fun h => by rw [HF.out] at h; cases h)
      have n0 := HG.out
      rw [← hdn.1] at n0
      have HD : Aside0 (V.2.fine = true → V.1 = vs) := ⟨by rw [hdn.1]; exact hdn.2⟩
      have HG2 := Aside0.mk n0
      clear n0 hdn
      go_wp2
      go_meet
      case rel => exact ⟨c', x2, vs, rfl, HG2, HD⟩
     | true =>
      have HF := Aside0.mk hf
      have hfa := HVP.out.1 hf
      clear hf
      obtain ⟨dv, s', hd2⟩ : ∃ dv s', gdec si = (dv, s') := ⟨_, _, rfl⟩
      have HST := Aside0.mk (HVP.out.step HF.out HC0.out hd2)
      have HLEN := Aside0.mk (show vs.length < 1000000 by omega)
      have hcall := recgetdec_calls g si wp.drew HG.out.drew.x.cur (fun k hk => Nat.lt_of_lt_of_le (HLO.out k hk) HG.out.drew.x.chg.size)
      rw [hd2] at hcall
      have HCALL := Aside0.mk hcall
      have hsub : wrap64 (c' - 1) = c' - 1 := IntWalk.wrap64_in _ (by have := HC0.out; omega)
      have HSUB := Aside0.mk hsub
      clear hfa hd2 hcall hsub
      go_wp2
      refine start_ (n := 8) (S := fun w' => w'.cell? ⟨b5, 2, none⟩ = some x2 ∧ w'.cell? ⟨b3, 0, none⟩ = some (.pointer (some ⟨g, 0, none⟩))) (ds := [7]) #[false, false, false, false, false, false, false, false] (by kernel_rfl) rfl rfl ⟨(blk_cell HG.out.drew.k5 2).trans rfl, (blk_cell HG.out.drew.k3 0).trans rfl⟩ (fun hHeld => ?_)
      refine pure_ (i := 0) (N := some 38) (v := ?_) (a' := ?_) #[true, false, false, false, false, false, false, false] rfl rfl (by kernel_rfl) (fun _ _ _ h => h) (Or.inl ⟨by rfl, ?_⟩) ?_ ?_
      rotate_left
      ·intro w'
       go_simp
       with_reducible rfl
      rotate_left
      ·simp only [Act.put, List.setIfInBounds_toArray, List.set_cons_zero, List.set_cons_succ, i64_w, i32_w]
       rfl
      refine take_ (i := 1) (N := some 39) (v := ?_) (a' := ?_) #[true, true, false, false, false, false, false, false] rfl rfl (by kernel_rfl) (fun _ _ _ h => h) (Or.inl ⟨by rfl, ?_⟩) hHeld ?_ ?_
      rotate_left
      ·rintro w' ⟨s0, s1⟩
       go_simp
       with_reducible rfl
      rotate_left
      ·simp only [Act.put, List.setIfInBounds_toArray, List.set_cons_zero, List.set_cons_succ, i64_w, i32_w]
       rfl
      refine take_ (i := 2) (N := some 40) (v := ?_) (a' := ?_) #[true, true, true, false, false, false, false, false] rfl rfl (by kernel_rfl) (fun _ _ _ h => h) (Or.inl ⟨by rfl, ?_⟩) hHeld ?_ ?_
      rotate_left
      ·rintro w' ⟨s0, s1⟩
       go_simp
       with_reducible rfl
      rotate_left
      ·simp only [Act.put, List.setIfInBounds_toArray, List.set_cons_zero, List.set_cons_succ, i64_w, i32_w]
       rfl
      refine one_ (i := 3) (N := some 41) #[true, true, true, true, false, false, false, false] rfl rfl (by kernel_rfl) (by decide) (fun K hK => ?_)
      refine goes_ Try.func22 (by kernel_rfl) rfl #[.pointer (some ⟨g, 0, none⟩)] (by rfl) rfl rfl (by first | (simp only [List.map_toArray, List.map_cons, List.map_nil]; done) | (simp only [List.map_toArray, List.map_cons, List.map_nil]; rfl) | simp) ?_
      with_reducible refine (HCALL.out).mono ?_
      rintro e wA ⟨rfl, hc, hg⟩
      have HGa := Aside0.mk (HG.out.drew.turn hc hg)
      clear hc hg
      refine ⟨_, rfl, ?_⟩
      refine hK.out _ _ ⟨(blk_cell HGa.out.k5 2).trans rfl, (blk_cell HGa.out.k3 0).trans rfl⟩ (fun hHeld => ?_)
      clear hK K
      refine norm_ (a' := ?_) ?_ ?_
      rotate_left
      ·show Act.put _ (some 41) _ = _
       simp only [Act.put, List.setIfInBounds_toArray, List.set_cons_zero, List.set_cons_succ, i64_w, i32_w]
       rfl
      refine one_ (i := 4) (N := some 42) #[true, true, true, true, true, false, false, false] rfl rfl (by kernel_rfl) (by decide) (fun K hK => ?_)
      refine value_ (w1 := ?_) (v := ?_) (by rfl) rfl ?_ ?_
      rotate_left 2
      ·go_simp
       constructor
       ·rfl
       ·rfl
      refine hK.out _ _ ⟨(blk_cell (blk_alloc HGa.out.k5 _) 2).trans rfl, (blk_cell (blk_alloc HGa.out.k3 _) 0).trans rfl⟩ (fun hHeld => ?_)
      clear hK K
      refine norm_ (a' := ?_) ?_ ?_
      rotate_left
      ·show Act.put _ (some 42) _ = _
       simp only [Act.put, List.setIfInBounds_toArray, List.set_cons_zero, List.set_cons_succ, i64_w, i32_w]
       rfl
      refine one_ (i := 5) (N := some 43) #[true, true, true, true, true, true, false, false] rfl rfl (by kernel_rfl) (by decide) (fun K hK => ?_)
      refine R_app_dec_step (p := dv) (by rfl) rfl rfl rfl Try.underlying23 info48 HGa.out.r2 HGa.out.x.chg.size HLEN.out ?_
      intro y wB hy hgB
      obtain ⟨Ay, ny, cy, hye⟩ : ∃ A n c, y = .slice A n c := by obtain ⟨A, c, h⟩ := Kd.R_slice hy; exact ⟨A, _, c, h⟩
      subst hye
      have HY := Aside0.mk hy
      have HGB := Aside0.mk hgB
      have HBB := Aside0.mk (HGa.out.blk2 hgB)
      have HB3 := Aside0.mk (HGa.out.blk2c hgB)
      have zB : wB.cell? ⟨b5, 2, none⟩ = some x2 := (blk_cell HBB.out 2).trans rfl
      have fB := blk_frozen HBB.out 2
      clear hy hgB
      refine hK.out _ _ ⟨(blk_cell HBB.out 2).trans rfl, (blk_cell HB3.out 0).trans rfl⟩ (fun hHeld => ?_)
      clear hK K
      refine norm_ (a' := ?_) ?_ ?_
      rotate_left
      ·show Act.put _ (some 43) _ = _
       simp only [Act.put, List.setIfInBounds_toArray, List.set_cons_zero, List.set_cons_succ, i64_w, i32_w]
       rfl
      refine pure_ (i := 6) (N := some 44) (v := ?_) (a' := ?_) #[true, true, true, true, true, true, true, false] rfl rfl (by kernel_rfl) (fun _ _ _ h => h) (Or.inl ⟨by rfl, ?_⟩) ?_ ?_
      rotate_left
      ·intro w'
       go_simp
       with_reducible rfl
      rotate_left
      ·simp only [Act.put, List.setIfInBounds_toArray, List.set_cons_zero, List.set_cons_succ, i64_w, i32_w]
       rfl
      refine last_ (i := 7) (N := none) #[true, true, true, true, true, true, true, true] rfl rfl (by kernel_rfl) (by decide) (fun K hK => ?_)
      refine skip_ (w1 := ?_) (by rfl) rfl ?_ ?_
      rotate_left
      ·go_simp
       rfl
      refine hK.out _ _ ?_
      clear hK K
      refine done_ (by kernel_rfl) ?_
      have n0 := Aside0.mk (HGa.out.app2 HGB.out HY.out)
      clear zB fB
      go_wp2
      go_roundw
      case rel => exact ⟨c' - 1, s', _, vs ++ [dv], (by rw [HSUB.out]), ⟨n0.out⟩, HST⟩
      case measure => rw [HSUB.out]; show (c' - 1).toNat < c'.toNat; have := HC0.out; omega
    ·have hd : decide (0 < c') = false := decide_eq_false hc
     have hdn := HVP.out.done (fun _ => hc)
     have n0 := HG.out
     rw [← hdn.1] at n0
     have HD : Aside0 (V.2.fine = true → V.1 = vs) := ⟨by rw [hdn.1]; exact hdn.2⟩
     have HG2 := Aside0.mk n0
     clear n0 hdn hc
     go_wp2
     go_meet
     case rel => exact ⟨c', x2, vs, rfl, HG2, HD⟩
  case rest =>
   clear HG HVP
   obtain ⟨c1, x2, vs, rfl, HG, HD1⟩ := hcut
   obtain ⟨wa, rfl⟩ : ∃ wa : World, wa = wc := ⟨_, rfl⟩
   have z5 : wa.cell? ⟨b5, 1, none⟩ = some (.int .i64 b.1) := (blk_cell HG.out.k5 1).trans rfl
   go_upto_if 47 with fail
   (try simp only [Act.put, List.setIfInBounds_toArray, List.set_cons_zero, List.set_cons_succ])
   go_cut [7] from 45 to 47 (fun v7 wc => v7 = .int .i64 (leastR b.1 : Int) ∧ wa = wc)
   case first =>
    by_cases hk : b.1 = 2
    ·have hk2 : (b.1 == 2) = true := by rw [hk]; rfl
     have HL := Aside0.mk (show (1000000 : Int) = (leastR b.1 : Int) by unfold leastR; rw [if_pos hk]; rfl)
     clear hk
     go_wp2
     go_meet
     case rel => exact ⟨by rw [← HL.out], rfl⟩
    ·have hk2 : (b.1 == 2) = false := beq_eq_false_iff_ne.2 hk
     have HL := Aside0.mk (show (1 : Int) = (leastR b.1 : Int) by unfold leastR; rw [if_neg hk]; rfl)
     clear hk
     go_wp2
     go_meet
     case rel => exact ⟨by rw [← HL.out], rfl⟩
   case rest =>
    obtain ⟨rfl, rfl⟩ := hcut
    have z3 : wa.cell? ⟨b3, 0, none⟩ = some (.pointer (some ⟨g, 0, none⟩)) := (blk_cell HG.out.k3 0).trans rfl
    clear z5
    have hcall := recnum_calls g V.2 (leastR b.1) 1000000 (leastR b.1 : Int) 1000000 18 rfl rfl (by unfold leastR; split <;> omega) (by decide) wa HG.out.x.cur
    rw [HR.out] at hcall
    obtain ⟨rt, hrt⟩ : ∃ rt, wrap64 (r.1 : Int) = rt := ⟨_, rfl⟩
    have HRT : Aside0 (r.2.fine = true → rt = (r.1 : Int)) := ⟨fun hf => by
     have hbd := gnum_bd (s := V.2) (lo := leastR b.1) (hi := 1000000) (e := 18) (by decide) (by rw [HR.out]; exact hf)
     rw [HR.out] at hbd
     rw [← hrt, IntWalk.wrap64_in _ (by omega)]⟩
    rw [hrt] at hcall
    have HCALL := Aside0.mk hcall
    clear hrt hcall
    go_wp2_with fail
    refine HCALL.out.mono ?_
    rintro e wb ⟨rfl, hc, hg⟩
    have n0 := Aside0.mk (HG.out.turn hc hg)
    clear HG HCALL hc hg z3
    have HG := n0
    clear n0
    have z5 : wb.cell? ⟨b5, 3, none⟩ = some (.int .i64 0) := (blk_cell HG.out.k5 3).trans rfl
    have f5 := blk_frozen HG.out.k5 3
    have n0 := Aside0.mk (HG.out.set3 rt)
    generalize hwd : wb.setCell ⟨b5, 3, none⟩ (.int .i64 rt) = wd at n0
    clear HG
    have HG : Aside0 (GS ok g d b3 b4 b5 r.2 v5 a.2.2 ⟨a.1, b.1, x2, rt, .slice none 0 0, 0, vs, []⟩ w wd) := ⟨n0.out⟩
    clear n0
    have z3 : wd.cell? ⟨b3, 0, none⟩ = some (.pointer (some ⟨g, 0, none⟩)) := (blk_cell HG.out.k3 0).trans rfl
    have hcall := recnum_calls g r.2 0 32 0 32 19 rfl rfl (by decide) (by decide) wd HG.out.x.cur
    rw [HN2.out] at hcall
    have htp : TP G (wrap64 (n2.1 : Int)) n2.2 a.2.2 [] := by
     refine ⟨fun hf => ?_, fun hf => ?_, HSN.out.2⟩
     ·have hbd := gnum_bd (s := r.2) (lo := 0) (hi := 32) (e := 19) (by decide) (by rw [HN2.out]; exact hf)
      rw [HN2.out] at hbd
      rw [IntWalk.wrap64_in _ (by omega), Int.toNat_natCast]
      exact ⟨by omega, by simp; omega, HGG.out.symm⟩
     ·rw [← HGG.out, gtags_nf hf]
    obtain ⟨c0, hc0⟩ : ∃ c0, wrap64 (n2.1 : Int) = c0 := ⟨_, rfl⟩
    rw [hc0] at hcall htp
    have HTP := Aside0.mk htp
    have HCALL := Aside0.mk hcall
    clear hc0 htp hcall
    go_wp2_with fail
    clear hwd z5 f5 z3
    refine HCALL.out.mono ?_
    rintro e we ⟨rfl, hc, hg⟩
    have n0 := Aside0.mk (HG.out.turn hc hg)
    clear HG HCALL hc hg
    have HG := n0
    clear n0
    go_upto_block 2 with fail
    (try simp only [Act.put, List.setIfInBounds_toArray, List.set_cons_zero, List.set_cons_succ])
    go_cut [8, 9, 10, 11] from 54 to 96 (fun v8 v9 v10 v11 wc => ∃ (v7 x4 : Value) (ts : List TagS), Aside0 (GS ok g d b3 b4 b5 G.2.1 v7 G.2.2 ⟨a.1, b.1, x2, rt, x4, 0, vs, ts⟩ w wc) ∧ Aside0 (G.2.1.fine = true → G.1 = ts))
    case first =>
     go_wp2
     go_loopw [8] (fun v8 wr => ∃ (c' : Int) (si : Cu) (vi : Value) (wi : List ByteArray) (x4 : Value) (ts : List TagS), v8 = .int .i64 c' ∧ Aside0 (GS ok g d b3 b4 b5 si vi wi ⟨a.1, b.1, x2, rt, x4, 0, vs, ts⟩ w wr) ∧ Aside0 (TP G c' si wi ts)) (fun v8 _ => (intOf v8).toNat)
     case atStart => exact ⟨c0, n2.2, _, _, _, _, rfl, HG, HTP⟩
     case round =>
      clear HG HTP
      obtain ⟨c', si, vi, wi, x4, ts, rfl, HG, HTP⟩ := hrel
      obtain ⟨wo, rfl⟩ : ∃ wo : World, wo = wr := ⟨_, rfl⟩
      have z3 : wo.cell? ⟨b3, 0, none⟩ = some (.pointer (some ⟨g, 0, none⟩)) := (blk_cell HG.out.k3 0).trans rfl
      by_cases hc : 0 < c'
      ·have hd : decide (0 < c') = true := decide_eq_true hc
       have HC0 := Aside0.mk hc
       clear hc
       go_wp2_with fail
       refine (recfine_calls g si wo HG.out.x.cur).mono ?_
       rintro e wp ⟨rfl, hb⟩
       clear z3
       have n0 := Aside0.mk (HG.out.below hb)
       clear HG hb
       have HG := n0
       clear n0
       cases hf : si.fine with
       | false =>
        have HF := Aside0.mk hf
        clear hf
        have hdn := HTP.out.done (fun h => by rw [HF.out] at h; cases h)
        have n0 := HG.out
        have HD : Aside0 (GS ok g d b3 b4 b5 G.2.1 vi G.2.2 ⟨a.1, b.1, x2, rt, x4, 0, vs, ts⟩ w wp ∧ (G.2.1.fine = true → G.1 = ts)) := ⟨by rw [hdn.1]; exact ⟨n0, hdn.2⟩⟩
        clear n0 hdn
        go_wp2
        go_meet
        case rel => exact ⟨vi, x4, ts, ⟨HD.out.1⟩, ⟨HD.out.2⟩⟩
       | true =>
        have HF := Aside0.mk hf
        have hfa := HTP.out.1 hf
        have HTL := Aside0.mk (show ts.length < 1000000 by omega)
        have hsub : wrap64 (c' - 1) = c' - 1 := IntWalk.wrap64_in _ (by have := HC0.out; omega)
        have HSUB := Aside0.mk hsub
        clear hf hfa hsub
        obtain ⟨ka, hka⟩ : ∃ ka, gword wi si 2 1 64 19 = ka := ⟨_, rfl⟩
        obtain ⟨va, hva⟩ : ∃ va, gword ka.2.2 ka.2.1 3 0 100 19 = va := ⟨_, rfl⟩
        obtain ⟨ky, s6, w6, rfl⟩ : ∃ ky s6 w6, ka = (ky, s6, w6) := ⟨_, _, _, rfl⟩
        obtain ⟨vl, s7, w7, rfl⟩ : ∃ vl s7 w7, va = (vl, s7, w7) := ⟨_, _, _, rfl⟩
        have HSN6 : Aside0 (s6.sane ∧ s7.sane) := ⟨by
         have h6 := gword_sane (ws := wi) (kind := 2) (lo := 1) (hi := 64) (e := 19) HTP.out.2.2
         rw [hka] at h6
         have h7 := gword_sane (ws := w6) (kind := 3) (lo := 0) (hi := 100) (e := 19) h6
         rw [hva] at h7
         exact ⟨h6, h7⟩⟩
        have HGT : Aside0 (gtag wi si (lastT ts) = (⟨ky, vl⟩, if upB (lastT ts) ⟨ky, vl⟩ = true then s7 else s7.fail 21 si.pos, w7)) := ⟨by
         unfold gtag
         rw [hka]
         simp only
         rw [hva]⟩
        have HKA := Aside0.mk hka
        have HVA := Aside0.mk hva
        have z3 : wp.cell? ⟨b3, 0, none⟩ = some (.pointer (some ⟨g, 0, none⟩)) := (blk_cell HG.out.k3 0).trans rfl
        clear hka hva
        go_wp2_with fail
        refine (Calls.dB (curat_calls g si wp HG.out.x.cur)).mono ?_
        rintro e wq ⟨rfl, hb⟩
        clear z3
        have n0 := Aside0.mk (HG.out.below hb)
        clear HG hb
        have HG := n0
        clear n0
        have z3 : wq.cell? ⟨b3, 0, none⟩ = some (.pointer (some ⟨g, 0, none⟩)) := (blk_cell HG.out.k3 0).trans rfl
        have hcall := recword_calls d g si vi wi 2 1 64 1 64 19 rfl rfl w wq HG.out.x HTP.out.2.2
        rw [HKA.out] at hcall
        have HCALL := Aside0.mk hcall
        clear hcall
        go_wp2_with fail
        refine HCALL.out.mono ?_
        rintro e ws6 ⟨rfl, hp⟩
        obtain ⟨v6, hg6⟩ := HG.out.two hp
        clear HG hp HCALL z3
        have HG := Aside0.mk hg6
        clear hg6
        have z3 : (ws6.alloc (.cells #[.string ky, .string ⟨#[]⟩] 81)).cell? ⟨b3, 0, none⟩ = some (.pointer (some ⟨g, 0, none⟩)) := (blk_cell (blk_below HG.out.k3 (below_alloc (Below.refl _ _) _)) 0).trans rfl
        go_wp2_with fail
        clear z3
        have hal : Below ws6.heap.size ws6 (ws6.alloc (.cells #[.string ky, .string ⟨#[]⟩] 81)) := below_alloc (Below.refl _ _) _
        have hbox := blk_new ws6 (.cells #[.string ky, .string ⟨#[]⟩] 81)
        generalize hwt : ws6.alloc (.cells #[.string ky, .string ⟨#[]⟩] 81) = wt at hal hbox ⊢
        obtain ⟨b10, hb10⟩ : ∃ b10, ws6.heap.size = b10 := ⟨_, rfl⟩
        rw [hb10] at hbox ⊢
        have KB := Aside0.mk hbox
        have HX4 : Aside0 (some b10 ≠ x4.ownBlock) := ⟨fun e => by have := Kd.R_lt HG.out.r4 b10 e.symm; omega⟩
        have HL10 : Aside0 (w.heap.size ≤ b10) := ⟨by rw [← hb10]; exact HG.out.x.chg.size⟩
        have n0 := Aside0.mk (HG.out.below hal)
        clear HG hal hbox hb10 hwt
        have HG := n0
        clear n0
        have hcall := recword_calls d g s6 v6 w6 3 0 100 0 100 19 rfl rfl w wt HG.out.x HSN6.out.1
        rw [HVA.out] at hcall
        have HCALL := Aside0.mk hcall
        clear hcall
        refine HCALL.out.mono ?_
        rintro e ws7 ⟨rfl, hp⟩
        have n1 := Aside0.mk (two_blk (by decide) (by decide) (by decide) HG.out.x.cur HG.out.x.dic (HG.out.x.of hp).choose_spec.2 KB.out)
        obtain ⟨v7, hg7⟩ := HG.out.two hp
        clear HG hp HCALL KB
        have HG := Aside0.mk hg7
        have KB := n1
        clear hg7 n1
        have z10 : ws7.cell? ⟨b10, 1, none⟩ = some (.string ⟨#[]⟩) := (blk_cell KB.out 1).trans rfl
        have f10 := blk_frozen KB.out 1
        have n0 := Aside0.mk (HG.out.put10 (j := 1) KB.out HL10.out HX4.out (.string vl))
        have n1 := Aside0.mk ((blk_put KB.out 1 (.string vl) rfl).trans rfl)
        generalize hw8 : ws7.setCell ⟨b10, 1, none⟩ (.string vl) = ws8 at n0 n1
        clear HG KB
        have HG := n0
        have KB : Aside0 (ws8.heap[b10]? = some (.cells #[.string ky, .string vl] 81 (0, 0))) := ⟨n1.out⟩
        clear n0 n1
        have hr4 : (k81).R 81 ws8 w.heap.size (fun _ => True) x4 ts := HG.out.r4
        obtain ⟨A4, c4, e4, hle4, hC4⟩ := Kd.R_reads hr4
        obtain ⟨tl, htl⟩ : ∃ tl, ts.length = tl := ⟨_, rfl⟩
        rw [htl] at e4 hC4
        subst e4
        have HTLN := Aside0.mk htl
        have HC4 := Aside0.mk hC4
        have z4 : ws8.cell? ⟨b5, 4, none⟩ = some (.slice A4 tl c4) := (blk_cell HG.out.k5 4).trans rfl
        clear hr4 hle4 hC4 htl
        have htlb : tl < 1000000 := by rw [← HTLN.out]; exact HTL.out
        have HTLB := Aside0.mk htlb
        clear htlb
        by_cases h0 : tl = 0
        ·have hts : ts = [] := List.eq_nil_of_length_eq_zero (by rw [HTLN.out, h0])
         have HST := Aside0.mk (HTP.out.step (t := ⟨ky, vl⟩) (s' := s7) (ws' := w7) HF.out HC0.out (by rw [HGT.out, hts]; rfl))
         subst h0
         clear hts
         go_wp2
         clear hw8 z10 f10
         refine start_ (n := 13) (S := fun w' => True) (ds := []) #[false, false, false, false, false, false, false, false, false, false, false, false, false] (by kernel_rfl) rfl rfl trivial (fun hHeld => ?_)
         refine pure_ (i := 0) (N := some 75) (v := ?_) (a' := ?_) #[true, false, false, false, false, false, false, false, false, false, false, false, false] rfl rfl (by kernel_rfl) (fun _ _ _ h => h) (Or.inl ⟨by rfl, ?_⟩) ?_ ?_
         rotate_left
         ·intro w'
          go_simp
          with_reducible rfl
         rotate_left
         ·simp only [Act.put, List.setIfInBounds_toArray, List.set_cons_zero, List.set_cons_succ, i64_w, i32_w]
          rfl
         refine pure_ (i := 1) (N := some 76) (v := ?_) (a' := ?_) #[true, true, false, false, false, false, false, false, false, false, false, false, false] rfl rfl (by kernel_rfl) (fun _ _ _ h => h) (Or.inl ⟨by rfl, ?_⟩) ?_ ?_
         rotate_left
         ·intro w'
          go_simp
          with_reducible rfl
         rotate_left
         ·simp only [Act.put, List.setIfInBounds_toArray, List.set_cons_zero, List.set_cons_succ, i64_w, i32_w]
          rfl
         refine pure_ (i := 2) (N := some 77) (v := ?_) (a' := ?_) #[true, true, true, false, false, false, false, false, false, false, false, false, false] rfl rfl (by kernel_rfl) (fun _ _ _ h => h) (Or.inl ⟨by rfl, ?_⟩) ?_ ?_
         rotate_left
         ·intro w'
          go_simp
          with_reducible rfl
         rotate_left
         ·simp only [Act.put, List.setIfInBounds_toArray, List.set_cons_zero, List.set_cons_succ, i64_w, i32_w]
          rfl
         refine pure_ (i := 3) (N := some 78) (v := undef) (a' := ?_) #[true, true, true, true, false, false, false, false, false, false, false, false, false] rfl rfl (by kernel_rfl) (fun _ _ _ h => h) (Or.inr ⟨by rfl, rfl⟩) ?_ ?_
         rotate_left
         ·simp only [Act.put, List.setIfInBounds_toArray, List.set_cons_zero, List.set_cons_succ, i64_w, i32_w]
          rfl
         refine pure_ (i := 4) (N := some 79) (v := undef) (a' := ?_) #[true, true, true, true, true, false, false, false, false, false, false, false, false] rfl rfl (by kernel_rfl) (fun _ _ _ h => h) (Or.inr ⟨by rfl, rfl⟩) ?_ ?_
         rotate_left
         ·simp only [Act.put, List.setIfInBounds_toArray, List.set_cons_zero, List.set_cons_succ, i64_w, i32_w]
          rfl
         refine pure_ (i := 5) (N := some 80) (v := undef) (a' := ?_) #[true, true, true, true, true, true, false, false, false, false, false, false, false] rfl rfl (by kernel_rfl) (fun _ _ _ h => h) (Or.inr ⟨by rfl, rfl⟩) ?_ ?_
         rotate_left
         ·simp only [Act.put, List.setIfInBounds_toArray, List.set_cons_zero, List.set_cons_succ, i64_w, i32_w]
          rfl
         refine pure_ (i := 6) (N := some 81) (v := undef) (a' := ?_) #[true, true, true, true, true, true, true, false, false, false, false, false, false] rfl rfl (by kernel_rfl) (fun _ _ _ h => h) (Or.inr ⟨by rfl, rfl⟩) ?_ ?_
         rotate_left
         ·simp only [Act.put, List.setIfInBounds_toArray, List.set_cons_zero, List.set_cons_succ, i64_w, i32_w]
          rfl
         refine pure_ (i := 7) (N := some 82) (v := undef) (a' := ?_) #[true, true, true, true, true, true, true, true, false, false, false, false, false] rfl rfl (by kernel_rfl) (fun _ _ _ h => h) (Or.inr ⟨by rfl, rfl⟩) ?_ ?_
         rotate_left
         ·simp only [Act.put, List.setIfInBounds_toArray, List.set_cons_zero, List.set_cons_succ, i64_w, i32_w]
          rfl
         refine pure_ (i := 8) (N := some 83) (v := undef) (a' := ?_) #[true, true, true, true, true, true, true, true, true, false, false, false, false] rfl rfl (by kernel_rfl) (fun _ _ _ h => h) (Or.inr ⟨by rfl, rfl⟩) ?_ ?_
         rotate_left
         ·simp only [Act.put, List.setIfInBounds_toArray, List.set_cons_zero, List.set_cons_succ, i64_w, i32_w]
          rfl
         refine pure_ (i := 9) (N := some 84) (v := undef) (a' := ?_) #[true, true, true, true, true, true, true, true, true, true, false, false, false] rfl rfl (by kernel_rfl) (fun _ _ _ h => h) (Or.inr ⟨by rfl, rfl⟩) ?_ ?_
         rotate_left
         ·simp only [Act.put, List.setIfInBounds_toArray, List.set_cons_zero, List.set_cons_succ, i64_w, i32_w]
          rfl
         refine pure_ (i := 10) (N := some 85) (v := undef) (a' := ?_) #[true, true, true, true, true, true, true, true, true, true, true, false, false] rfl rfl (by kernel_rfl) (fun _ _ _ h => h) (Or.inr ⟨by rfl, rfl⟩) ?_ ?_
         rotate_left
         ·simp only [Act.put, List.setIfInBounds_toArray, List.set_cons_zero, List.set_cons_succ, i64_w, i32_w]
          rfl
         refine pure_ (i := 11) (N := some 86) (v := undef) (a' := ?_) #[true, true, true, true, true, true, true, true, true, true, true, true, false] rfl rfl (by kernel_rfl) (fun _ _ _ h => h) (Or.inr ⟨by rfl, rfl⟩) ?_ ?_
         rotate_left
         ·simp only [Act.put, List.setIfInBounds_toArray, List.set_cons_zero, List.set_cons_succ, i64_w, i32_w]
          rfl
         refine pure_ (i := 12) (N := some 87) (v := ?_) (a' := ?_) #[true, true, true, true, true, true, true, true, true, true, true, true, true] rfl rfl (by kernel_rfl) (fun _ _ _ h => h) (Or.inl ⟨by rfl, ?_⟩) ?_ ?_
         rotate_left
         ·intro w'
          go_simp
          with_reducible rfl
         rotate_left
         ·simp only [Act.put, List.setIfInBounds_toArray, List.set_cons_zero, List.set_cons_succ, i64_w, i32_w]
          rfl
         refine done_ (by kernel_rfl) ?_
         clear z4
         have HGt := Aside0.mk HG.out.drew
         have n1 := Aside0.mk (blk_drew KB.out)
         clear HG KB
         have KB := n1
         clear n1
         generalize ws8.drew = wt8 at HGt KB
         have zt0 : wt8.cell? ⟨b10, 0, none⟩ = some (.string ky) := (blk_cell KB.out 0).trans rfl
         have zt1 : wt8.cell? ⟨b10, 1, none⟩ = some (.string vl) := (blk_cell KB.out 1).trans rfl
         have z4 : wt8.cell? ⟨b5, 4, none⟩ = some (.slice A4 0 c4) := (blk_cell HGt.out.k5 4).trans rfl
         have f4 := blk_frozen HGt.out.k5 4
         go_wp2_with (first | ((with_reducible refine gate_builtin (b := .append) (xs := #[.tmp 92, .tmp 94]) rfl ?_); at_builtin; go_must (refine R_app_tag (p := (⟨ky, vl⟩ : TagS)) rfl rfl rfl rfl Try.underlying24 info81 HGt.out.r4 HGt.out.x.chg.size HTL.out ?_); intro y wz hy hgz; (obtain ⟨Ay, ny, cy, hye⟩ : ∃ A n c, y = .slice A n c := by obtain ⟨A, c, h⟩ := Kd.R_slice hy; exact ⟨A, _, c, h⟩); subst hye; have HY := Aside0.mk hy; have HGZ := Aside0.mk hgz; have HBZ := Aside0.mk (HGt.out.blk4 hgz); clear hy hgz z4 f4 zt0 zt1; have z4 : wz.cell? ⟨b5, 4, none⟩ = some (.slice A4 0 c4) := (blk_cell HBZ.out 4).trans rfl; have f4 := blk_frozen HBZ.out 4))
         clear z4 f4
         have n0 := Aside0.mk (HGt.out.app4 HGZ.out HY.out)
         go_roundw
         case rel => exact ⟨c' - 1, s7, v7, w7, _, ts ++ [(⟨ky, vl⟩ : TagS)], (by rw [HSUB.out]), ⟨n0.out⟩, ⟨HST.out⟩⟩
         case measure => rw [HSUB.out]; show (c' - 1).toNat < c'.toNat; have := HC0.out; omega
        ·have hk0 : 0 < tl := Nat.pos_of_ne_zero h0
         obtain ⟨q1, hq1⟩ : ∃ q1, wrap64 ((tl : Int) - 1) = q1 := ⟨_, rfl⟩
         have hq2 : q1 = (tl : Int) - 1 := by rw [← hq1]; exact IntWalk.wrap64_in _ (by have := HTLB.out; omega)
         have hq3 : 0 ≤ q1 := by omega
         have hq4 : q1 < (tl : Int) := by omega
         obtain ⟨ad, ead, x0, x1⟩ := at_T81 HC4.out q1 hq3 hq4
         subst ead
         obtain ⟨lt, hlt⟩ : ∃ lt, rd_T81 ts q1 = lt := ⟨_, rfl⟩
         rw [hlt] at x0 x1
         have HLT := Aside0.mk (show lastT ts = some lt by rw [rd_lastT (i := q1) (by rw [HTLN.out]; exact hq2) (by rw [HTLN.out]; exact hk0), hlt])
         have HX := Aside0.mk (show ∀ W', Below ws8.heap.size ws8 W' → W'.cell? (ad.add (q1.toNat * 2)) = some (.string lt.f0) ∧ W'.cell? ⟨(ad.add (q1.toNat * 2)).block, (ad.add (q1.toNat * 2)).off + 1, none⟩ = some (.string lt.f1) from fun W' hb => ⟨(hb.cell (World.block_lt_of_cell? _ _ x0)).trans x0, (hb.cell (World.block_lt_of_cell? _ _ x1)).trans x1⟩)
         have hp0 : (0 < (tl : Int)) = True := eq_true (by omega)
         have hp1 : decide (0 < (tl : Int)) = true := decide_eq_true (by omega)
         have hp2 : decide (0 < tl) = true := decide_eq_true hk0
         have hp3 : (0 < tl) = True := eq_true hk0
         have hp4 : decide (0 ≤ q1) = true := decide_eq_true hq3
         have hp5 : decide (q1 < (tl : Int)) = true := decide_eq_true hq4
         have hp6 : (0 ≤ q1) = True := eq_true hq3
         have hp7 : (q1 < (tl : Int)) = True := eq_true hq4
         have HBW := Aside0.mk (Below.refl ws8.heap.size ws8)
         clear h0 hk0 hq2 hq3 hq4 x0 x1 hlt
         cases hlb : tLt lt ⟨ky, vl⟩ with
         | true =>
          have HLB := Aside0.mk hlb
          have HLESS := Aside0.mk (fun W : World => tag_Less.calls lt.f0 lt.f1 ky vl true W (by have h := tagless_f lt ⟨ky, vl⟩; rw [hlb] at h; exact h))
          have HST := Aside0.mk (HTP.out.step (t := ⟨ky, vl⟩) (s' := s7) (ws' := w7) HF.out HC0.out (by rw [HGT.out, HLT.out]; show (_, if tLt lt ⟨ky, vl⟩ = true then s7 else _, _) = _; rw [hlb, if_pos rfl]))
          clear hlb
          go_wp2
          clear hw8 z10 f10
          refine start_ (n := 13) (S := fun w' => w'.cell? ⟨b5, 4, none⟩ = some (.slice (some ad) tl c4) ∧ w'.cell? (ad.add (q1.toNat * 2)) = some (.string lt.f0) ∧ w'.cell? ⟨(ad.add (q1.toNat * 2)).block, (ad.add (q1.toNat * 2)).off + 1, none⟩ = some (.string lt.f1) ∧ w'.cell? ⟨b10, 0, none⟩ = some (.string ky) ∧ w'.cell? ⟨b10, 1, none⟩ = some (.string vl)) (ds := []) #[false, false, false, false, false, false, false, false, false, false, false, false, false] (by kernel_rfl) rfl rfl ⟨(blk_cell HG.out.drew.k5 4).trans rfl, (HX.out _ (below_drew1 HBW.out)).1, (HX.out _ (below_drew1 HBW.out)).2, (blk_cell (blk_drew KB.out) 0).trans rfl, (blk_cell (blk_drew KB.out) 1).trans rfl⟩ (fun hHeld => ?_)
          refine pure_ (i := 0) (N := some 75) (v := ?_) (a' := ?_) #[true, false, false, false, false, false, false, false, false, false, false, false, false] rfl rfl (by kernel_rfl) (fun _ _ _ h => h) (Or.inl ⟨by rfl, ?_⟩) ?_ ?_
          rotate_left
          ·intro w'
           go_simp
           with_reducible rfl
          rotate_left
          ·simp only [Act.put, List.setIfInBounds_toArray, List.set_cons_zero, List.set_cons_succ, i64_w, i32_w]
           rfl
          refine pure_ (i := 1) (N := some 76) (v := ?_) (a' := ?_) #[true, true, false, false, false, false, false, false, false, false, false, false, false] rfl rfl (by kernel_rfl) (fun _ _ _ h => h) (Or.inl ⟨by rfl, ?_⟩) ?_ ?_
          rotate_left
          ·intro w'
           go_simp
           with_reducible rfl
          rotate_left
          ·simp only [Act.put, List.setIfInBounds_toArray, List.set_cons_zero, List.set_cons_succ, i64_w, i32_w]
           rfl
          refine pure_ (i := 2) (N := some 77) (v := ?_) (a' := ?_) #[true, true, true, false, false, false, false, false, false, false, false, false, false] rfl rfl (by kernel_rfl) (fun _ _ _ h => h) (Or.inl ⟨by rfl, ?_⟩) ?_ ?_
          rotate_left
          ·intro w'
           go_simp
           with_reducible rfl
          rotate_left
          ·simp only [Act.put, List.setIfInBounds_toArray, List.set_cons_zero, List.set_cons_succ, i64_w, i32_w]
           rfl
          refine pure_ (i := 3) (N := some 78) (v := ?_) (a' := ?_) #[true, true, true, true, false, false, false, false, false, false, false, false, false] rfl rfl (by kernel_rfl) (fun _ _ _ h => h) (Or.inl ⟨by rfl, ?_⟩) ?_ ?_
          rotate_left
          ·intro w'
           go_simp
           with_reducible rfl
          rotate_left
          ·simp only [Act.put, List.setIfInBounds_toArray, List.set_cons_zero, List.set_cons_succ, i64_w, i32_w]
           rfl
          refine pure_ (i := 5) (N := some 80) (v := ?_) (a' := ?_) #[true, true, true, true, false, true, false, false, false, false, false, false, false] rfl rfl (by kernel_rfl) (fun _ _ _ h => h) (Or.inl ⟨by rfl, ?_⟩) ?_ ?_
          rotate_left
          ·intro w'
           go_simp
           with_reducible rfl
          rotate_left
          ·simp only [Act.put, List.setIfInBounds_toArray, List.set_cons_zero, List.set_cons_succ, i64_w, i32_w]
           rfl
          refine pure_ (i := 6) (N := some 81) (v := ?_) (a' := ?_) #[true, true, true, true, false, true, true, false, false, false, false, false, false] rfl rfl (by kernel_rfl) (fun _ _ _ h => h) (Or.inl ⟨by rfl, ?_⟩) ?_ ?_
          rotate_left
          ·intro w'
           go_simp
           with_reducible rfl
          rotate_left
          ·simp only [Act.put, List.setIfInBounds_toArray, List.set_cons_zero, List.set_cons_succ, i64_w, i32_w]
           rfl
          refine take_ (i := 4) (N := some 79) (v := ?_) (a' := ?_) #[true, true, true, true, true, true, true, false, false, false, false, false, false] rfl rfl (by kernel_rfl) (fun _ _ _ h => h) (Or.inl ⟨by rfl, ?_⟩) hHeld ?_ ?_
          rotate_left
          ·rintro w' ⟨s0, s1, s2, s3, s4⟩
           go_simp
           with_reducible rfl
          rotate_left
          ·simp only [Act.put, List.setIfInBounds_toArray, List.set_cons_zero, List.set_cons_succ, i64_w, i32_w]
           rfl
          refine pure_ (i := 7) (N := some 82) (v := ?_) (a' := ?_) #[true, true, true, true, true, true, true, true, false, false, false, false, false] rfl rfl (by kernel_rfl) (fun _ _ _ h => h) (Or.inl ⟨by rfl, ?_⟩) ?_ ?_
          rotate_left
          ·intro w'
           go_simp
           with_reducible rfl
          rotate_left
          ·simp only [Act.put, List.setIfInBounds_toArray, List.set_cons_zero, List.set_cons_succ, i64_w, i32_w]
           rfl
          refine take_ (i := 8) (N := some 83) (v := ?_) (a' := ?_) #[true, true, true, true, true, true, true, true, true, false, false, false, false] rfl rfl (by kernel_rfl) (fun _ _ _ h => h) (Or.inl ⟨by rfl, ?_⟩) hHeld ?_ ?_
          rotate_left
          ·rintro w' ⟨s0, s1, s2, s3, s4⟩
           go_simp
           with_reducible rfl
          rotate_left
          ·simp only [Act.put, List.setIfInBounds_toArray, List.set_cons_zero, List.set_cons_succ, i64_w, i32_w]
           rfl
          refine take_ (i := 9) (N := some 84) (v := ?_) (a' := ?_) #[true, true, true, true, true, true, true, true, true, true, false, false, false] rfl rfl (by kernel_rfl) (fun _ _ _ h => h) (Or.inl ⟨by rfl, ?_⟩) hHeld ?_ ?_
          rotate_left
          ·rintro w' ⟨s0, s1, s2, s3, s4⟩
           go_simp
           with_reducible rfl
          rotate_left
          ·simp only [Act.put, List.setIfInBounds_toArray, List.set_cons_zero, List.set_cons_succ, i64_w, i32_w]
           rfl
          refine one_ (i := 10) (N := some 85) #[true, true, true, true, true, true, true, true, true, true, true, false, false] rfl rfl (by kernel_rfl) (by decide) (fun K hK => ?_)
          refine goes_ Try.func66 (by kernel_rfl) rfl #[.agg #[.string lt.f0, .string lt.f1], .agg #[.string ky, .string vl]] (by rfl) rfl rfl (by first | (simp only [List.map_toArray, List.map_cons, List.map_nil]; done) | (simp only [List.map_toArray, List.map_cons, List.map_nil]; rfl) | simp) ?_
          with_reducible refine (HLESS.out _).mono ?_
          rintro e wL ⟨rfl, hb⟩
          have n0 := Aside0.mk (HG.out.drew.below hb)
          have n1 := Aside0.mk (blk_below (blk_drew KB.out) hb)
          have n2 := Aside0.mk (below_step (below_drew1 HBW.out) hb)
          clear HG KB HBW hb
          have HG := n0
          have KB := n1
          have HBW := n2
          clear n0 n1 n2
          refine ⟨_, rfl, ?_⟩
          refine hK.out _ _ ⟨(blk_cell HG.out.k5 4).trans rfl, (HX.out _ HBW.out).1, (HX.out _ HBW.out).2, (blk_cell KB.out 0).trans rfl, (blk_cell KB.out 1).trans rfl⟩ (fun hHeld => ?_)
          clear hK K
          refine norm_ (a' := ?_) ?_ ?_
          rotate_left
          ·show Act.put _ (some 85) _ = _
           simp only [Act.put, List.setIfInBounds_toArray, List.set_cons_zero, List.set_cons_succ, i64_w, i32_w]
           rfl
          refine pure_ (i := 11) (N := some 86) (v := ?_) (a' := ?_) #[true, true, true, true, true, true, true, true, true, true, true, true, false] rfl rfl (by kernel_rfl) (fun _ _ _ h => h) (Or.inl ⟨by rfl, ?_⟩) ?_ ?_
          rotate_left
          ·intro w'
           go_simp
           with_reducible rfl
          rotate_left
          ·simp only [Act.put, List.setIfInBounds_toArray, List.set_cons_zero, List.set_cons_succ, i64_w, i32_w]
           rfl
          refine pure_ (i := 12) (N := some 87) (v := ?_) (a' := ?_) #[true, true, true, true, true, true, true, true, true, true, true, true, true] rfl rfl (by kernel_rfl) (fun _ _ _ h => h) (Or.inl ⟨by rfl, ?_⟩) ?_ ?_
          rotate_left
          ·intro w'
           go_simp
           with_reducible rfl
          rotate_left
          ·simp only [Act.put, List.setIfInBounds_toArray, List.set_cons_zero, List.set_cons_succ, i64_w, i32_w]
           rfl
          refine done_ (by kernel_rfl) ?_
          clear z4 hp0 hp1 hp2 hp3 hp4 hp5 hp6 hp7 hq1
          have HGt := HG
          clear HG
          obtain ⟨wt8, rfl⟩ : ∃ wt8 : World, wt8 = wL := ⟨_, rfl⟩
          have zt0 : wt8.cell? ⟨b10, 0, none⟩ = some (.string ky) := (blk_cell KB.out 0).trans rfl
          have zt1 : wt8.cell? ⟨b10, 1, none⟩ = some (.string vl) := (blk_cell KB.out 1).trans rfl
          have z4 : wt8.cell? ⟨b5, 4, none⟩ = some (.slice (some ad) tl c4) := (blk_cell HGt.out.k5 4).trans rfl
          have f4 := blk_frozen HGt.out.k5 4
          go_wp2_with (first | ((with_reducible refine gate_builtin (b := .append) (xs := #[.tmp 92, .tmp 94]) rfl ?_); at_builtin; go_must (refine R_app_tag (p := (⟨ky, vl⟩ : TagS)) rfl rfl rfl rfl Try.underlying24 info81 HGt.out.r4 HGt.out.x.chg.size HTL.out ?_); intro y wz hy hgz; (obtain ⟨Ay, ny, cy, hye⟩ : ∃ A n c, y = .slice A n c := by obtain ⟨A, c, h⟩ := Kd.R_slice hy; exact ⟨A, _, c, h⟩); subst hye; have HY := Aside0.mk hy; have HGZ := Aside0.mk hgz; have HBZ := Aside0.mk (HGt.out.blk4 hgz); clear hy hgz z4 f4 zt0 zt1; have z4 : wz.cell? ⟨b5, 4, none⟩ = some (.slice (some ad) tl c4) := (blk_cell HBZ.out 4).trans rfl; have f4 := blk_frozen HBZ.out 4))
          clear z4 f4
          have n0 := Aside0.mk (HGt.out.app4 HGZ.out HY.out)
          go_roundw
          case rel => exact ⟨c' - 1, s7, v7, w7, _, ts ++ [(⟨ky, vl⟩ : TagS)], (by rw [HSUB.out]), ⟨n0.out⟩, ⟨HST.out⟩⟩
          case measure => rw [HSUB.out]; show (c' - 1).toNat < c'.toNat; have := HC0.out; omega
         | false =>
          have HLB := Aside0.mk hlb
          have HLESS := Aside0.mk (fun W : World => tag_Less.calls lt.f0 lt.f1 ky vl false W (by have h := tagless_f lt ⟨ky, vl⟩; rw [hlb] at h; exact h))
          have HST := Aside0.mk (HTP.out.step (t := ⟨ky, vl⟩) (s' := s7.fail 21 si.pos) (ws' := w7) HF.out HC0.out (by rw [HGT.out, HLT.out]; show (_, if tLt lt ⟨ky, vl⟩ = true then s7 else _, _) = _; rw [hlb, if_neg (by decide)]))
          clear hlb
          go_wp2
          clear hw8 z10 f10
          refine start_ (n := 13) (S := fun w' => w'.cell? ⟨b5, 4, none⟩ = some (.slice (some ad) tl c4) ∧ w'.cell? (ad.add (q1.toNat * 2)) = some (.string lt.f0) ∧ w'.cell? ⟨(ad.add (q1.toNat * 2)).block, (ad.add (q1.toNat * 2)).off + 1, none⟩ = some (.string lt.f1) ∧ w'.cell? ⟨b10, 0, none⟩ = some (.string ky) ∧ w'.cell? ⟨b10, 1, none⟩ = some (.string vl)) (ds := []) #[false, false, false, false, false, false, false, false, false, false, false, false, false] (by kernel_rfl) rfl rfl ⟨(blk_cell HG.out.drew.k5 4).trans rfl, (HX.out _ (below_drew1 HBW.out)).1, (HX.out _ (below_drew1 HBW.out)).2, (blk_cell (blk_drew KB.out) 0).trans rfl, (blk_cell (blk_drew KB.out) 1).trans rfl⟩ (fun hHeld => ?_)
          refine pure_ (i := 0) (N := some 75) (v := ?_) (a' := ?_) #[true, false, false, false, false, false, false, false, false, false, false, false, false] rfl rfl (by kernel_rfl) (fun _ _ _ h => h) (Or.inl ⟨by rfl, ?_⟩) ?_ ?_
          rotate_left
          ·intro w'
           go_simp
           with_reducible rfl
          rotate_left
          ·simp only [Act.put, List.setIfInBounds_toArray, List.set_cons_zero, List.set_cons_succ, i64_w, i32_w]
           rfl
          refine pure_ (i := 1) (N := some 76) (v := ?_) (a' := ?_) #[true, true, false, false, false, false, false, false, false, false, false, false, false] rfl rfl (by kernel_rfl) (fun _ _ _ h => h) (Or.inl ⟨by rfl, ?_⟩) ?_ ?_
          rotate_left
          ·intro w'
           go_simp
           with_reducible rfl
          rotate_left
          ·simp only [Act.put, List.setIfInBounds_toArray, List.set_cons_zero, List.set_cons_succ, i64_w, i32_w]
           rfl
          refine pure_ (i := 2) (N := some 77) (v := ?_) (a' := ?_) #[true, true, true, false, false, false, false, false, false, false, false, false, false] rfl rfl (by kernel_rfl) (fun _ _ _ h => h) (Or.inl ⟨by rfl, ?_⟩) ?_ ?_
          rotate_left
          ·intro w'
           go_simp
           with_reducible rfl
          rotate_left
          ·simp only [Act.put, List.setIfInBounds_toArray, List.set_cons_zero, List.set_cons_succ, i64_w, i32_w]
           rfl
          refine pure_ (i := 3) (N := some 78) (v := ?_) (a' := ?_) #[true, true, true, true, false, false, false, false, false, false, false, false, false] rfl rfl (by kernel_rfl) (fun _ _ _ h => h) (Or.inl ⟨by rfl, ?_⟩) ?_ ?_
          rotate_left
          ·intro w'
           go_simp
           with_reducible rfl
          rotate_left
          ·simp only [Act.put, List.setIfInBounds_toArray, List.set_cons_zero, List.set_cons_succ, i64_w, i32_w]
           rfl
          refine pure_ (i := 5) (N := some 80) (v := ?_) (a' := ?_) #[true, true, true, true, false, true, false, false, false, false, false, false, false] rfl rfl (by kernel_rfl) (fun _ _ _ h => h) (Or.inl ⟨by rfl, ?_⟩) ?_ ?_
          rotate_left
          ·intro w'
           go_simp
           with_reducible rfl
          rotate_left
          ·simp only [Act.put, List.setIfInBounds_toArray, List.set_cons_zero, List.set_cons_succ, i64_w, i32_w]
           rfl
          refine pure_ (i := 6) (N := some 81) (v := ?_) (a' := ?_) #[true, true, true, true, false, true, true, false, false, false, false, false, false] rfl rfl (by kernel_rfl) (fun _ _ _ h => h) (Or.inl ⟨by rfl, ?_⟩) ?_ ?_
          rotate_left
          ·intro w'
           go_simp
           with_reducible rfl
          rotate_left
          ·simp only [Act.put, List.setIfInBounds_toArray, List.set_cons_zero, List.set_cons_succ, i64_w, i32_w]
           rfl
          refine take_ (i := 4) (N := some 79) (v := ?_) (a' := ?_) #[true, true, true, true, true, true, true, false, false, false, false, false, false] rfl rfl (by kernel_rfl) (fun _ _ _ h => h) (Or.inl ⟨by rfl, ?_⟩) hHeld ?_ ?_
          rotate_left
          ·rintro w' ⟨s0, s1, s2, s3, s4⟩
           go_simp
           with_reducible rfl
          rotate_left
          ·simp only [Act.put, List.setIfInBounds_toArray, List.set_cons_zero, List.set_cons_succ, i64_w, i32_w]
           rfl
          refine pure_ (i := 7) (N := some 82) (v := ?_) (a' := ?_) #[true, true, true, true, true, true, true, true, false, false, false, false, false] rfl rfl (by kernel_rfl) (fun _ _ _ h => h) (Or.inl ⟨by rfl, ?_⟩) ?_ ?_
          rotate_left
          ·intro w'
           go_simp
           with_reducible rfl
          rotate_left
          ·simp only [Act.put, List.setIfInBounds_toArray, List.set_cons_zero, List.set_cons_succ, i64_w, i32_w]
           rfl
          refine take_ (i := 8) (N := some 83) (v := ?_) (a' := ?_) #[true, true, true, true, true, true, true, true, true, false, false, false, false] rfl rfl (by kernel_rfl) (fun _ _ _ h => h) (Or.inl ⟨by rfl, ?_⟩) hHeld ?_ ?_
          rotate_left
          ·rintro w' ⟨s0, s1, s2, s3, s4⟩
           go_simp
           with_reducible rfl
          rotate_left
          ·simp only [Act.put, List.setIfInBounds_toArray, List.set_cons_zero, List.set_cons_succ, i64_w, i32_w]
           rfl
          refine take_ (i := 9) (N := some 84) (v := ?_) (a' := ?_) #[true, true, true, true, true, true, true, true, true, true, false, false, false] rfl rfl (by kernel_rfl) (fun _ _ _ h => h) (Or.inl ⟨by rfl, ?_⟩) hHeld ?_ ?_
          rotate_left
          ·rintro w' ⟨s0, s1, s2, s3, s4⟩
           go_simp
           with_reducible rfl
          rotate_left
          ·simp only [Act.put, List.setIfInBounds_toArray, List.set_cons_zero, List.set_cons_succ, i64_w, i32_w]
           rfl
          refine one_ (i := 10) (N := some 85) #[true, true, true, true, true, true, true, true, true, true, true, false, false] rfl rfl (by kernel_rfl) (by decide) (fun K hK => ?_)
          refine goes_ Try.func66 (by kernel_rfl) rfl #[.agg #[.string lt.f0, .string lt.f1], .agg #[.string ky, .string vl]] (by rfl) rfl rfl (by first | (simp only [List.map_toArray, List.map_cons, List.map_nil]; done) | (simp only [List.map_toArray, List.map_cons, List.map_nil]; rfl) | simp) ?_
          with_reducible refine (HLESS.out _).mono ?_
          rintro e wL ⟨rfl, hb⟩
          have n0 := Aside0.mk (HG.out.drew.below hb)
          have n1 := Aside0.mk (blk_below (blk_drew KB.out) hb)
          have n2 := Aside0.mk (below_step (below_drew1 HBW.out) hb)
          clear HG KB HBW hb
          have HG := n0
          have KB := n1
          have HBW := n2
          clear n0 n1 n2
          refine ⟨_, rfl, ?_⟩
          refine hK.out _ _ ⟨(blk_cell HG.out.k5 4).trans rfl, (HX.out _ HBW.out).1, (HX.out _ HBW.out).2, (blk_cell KB.out 0).trans rfl, (blk_cell KB.out 1).trans rfl⟩ (fun hHeld => ?_)
          clear hK K
          refine norm_ (a' := ?_) ?_ ?_
          rotate_left
          ·show Act.put _ (some 85) _ = _
           simp only [Act.put, List.setIfInBounds_toArray, List.set_cons_zero, List.set_cons_succ, i64_w, i32_w]
           rfl
          refine pure_ (i := 11) (N := some 86) (v := ?_) (a' := ?_) #[true, true, true, true, true, true, true, true, true, true, true, true, false] rfl rfl (by kernel_rfl) (fun _ _ _ h => h) (Or.inl ⟨by rfl, ?_⟩) ?_ ?_
          rotate_left
          ·intro w'
           go_simp
           with_reducible rfl
          rotate_left
          ·simp only [Act.put, List.setIfInBounds_toArray, List.set_cons_zero, List.set_cons_succ, i64_w, i32_w]
           rfl
          refine pure_ (i := 12) (N := some 87) (v := ?_) (a' := ?_) #[true, true, true, true, true, true, true, true, true, true, true, true, true] rfl rfl (by kernel_rfl) (fun _ _ _ h => h) (Or.inl ⟨by rfl, ?_⟩) ?_ ?_
          rotate_left
          ·intro w'
           go_simp
           with_reducible rfl
          rotate_left
          ·simp only [Act.put, List.setIfInBounds_toArray, List.set_cons_zero, List.set_cons_succ, i64_w, i32_w]
           rfl
          refine done_ (by kernel_rfl) ?_
          clear z4 hp0 hp1 hp2 hp3 hp4 hp5 hp6 hp7 hq1
          have z3 : wL.cell? ⟨b3, 0, none⟩ = some (.pointer (some ⟨g, 0, none⟩)) := (blk_cell HG.out.k3 0).trans rfl
          go_wp2_with fail
          refine (curfail_calls g s7 21 si.pos wL HG.out.x.cur).mono ?_
          rintro e wt8 ⟨rfl, hc, hg⟩
          have HGt := Aside0.mk (HG.out.turn hc hg)
          have n1 := Aside0.mk (cur_blk (by decide) HG.out.x.cur hg KB.out)
          clear HG hc hg z3 KB
          have KB := n1
          clear n1
          have zt0 : wt8.cell? ⟨b10, 0, none⟩ = some (.string ky) := (blk_cell KB.out 0).trans rfl
          have zt1 : wt8.cell? ⟨b10, 1, none⟩ = some (.string vl) := (blk_cell KB.out 1).trans rfl
          have z4 : wt8.cell? ⟨b5, 4, none⟩ = some (.slice (some ad) tl c4) := (blk_cell HGt.out.k5 4).trans rfl
          have f4 := blk_frozen HGt.out.k5 4
          go_wp2_with (first | ((with_reducible refine gate_builtin (b := .append) (xs := #[.tmp 92, .tmp 94]) rfl ?_); at_builtin; go_must (refine R_app_tag (p := (⟨ky, vl⟩ : TagS)) rfl rfl rfl rfl Try.underlying24 info81 HGt.out.r4 HGt.out.x.chg.size HTL.out ?_); intro y wz hy hgz; (obtain ⟨Ay, ny, cy, hye⟩ : ∃ A n c, y = .slice A n c := by obtain ⟨A, c, h⟩ := Kd.R_slice hy; exact ⟨A, _, c, h⟩); subst hye; have HY := Aside0.mk hy; have HGZ := Aside0.mk hgz; have HBZ := Aside0.mk (HGt.out.blk4 hgz); clear hy hgz z4 f4 zt0 zt1; have z4 : wz.cell? ⟨b5, 4, none⟩ = some (.slice (some ad) tl c4) := (blk_cell HBZ.out 4).trans rfl; have f4 := blk_frozen HBZ.out 4))
          clear z4 f4
          have n0 := Aside0.mk (HGt.out.app4 HGZ.out HY.out)
          go_roundw
          case rel => exact ⟨c' - 1, s7.fail 21 si.pos, v7, w7, _, ts ++ [(⟨ky, vl⟩ : TagS)], (by rw [HSUB.out]), ⟨n0.out⟩, ⟨HST.out⟩⟩
          case measure => rw [HSUB.out]; show (c' - 1).toNat < c'.toNat; have := HC0.out; omega
      ·have hd : decide (0 < c') = false := decide_eq_false hc
       have hdn := HTP.out.done (fun _ => hc)
       have n0 := HG.out
       have HD : Aside0 (GS ok g d b3 b4 b5 G.2.1 vi G.2.2 ⟨a.1, b.1, x2, rt, x4, 0, vs, ts⟩ w wo ∧ (G.2.1.fine = true → G.1 = ts)) := ⟨by rw [hdn.1]; exact ⟨n0, hdn.2⟩⟩
       clear n0 hdn hc
       go_wp2
       go_meet
       case rel => exact ⟨vi, x4, ts, ⟨HD.out.1⟩, ⟨HD.out.2⟩⟩
    case rest =>
     clear HG HTP
     obtain ⟨v7, x4, ts, HG, HD2⟩ := hcut
     obtain ⟨wf, rfl⟩ : ∃ wf : World, wf = wc := ⟨_, rfl⟩
     have z3 : wf.cell? ⟨b3, 0, none⟩ = some (.pointer (some ⟨g, 0, none⟩)) := (blk_cell HG.out.k3 0).trans rfl
     have hcall := recnum_calls g G.2.1 0 1099511627776 0 1099511627776 20 rfl rfl (by decide) (by decide) wf HG.out.x.cur
     rw [HU.out] at hcall
     obtain ⟨tm, htm⟩ : ∃ tm, wrap64 (u.1 : Int) = tm := ⟨_, rfl⟩
     have HTM : Aside0 (u.2.fine = true → tm = (u.1 : Int)) := ⟨fun hf => by
      have hbd := gnum_bd (s := G.2.1) (lo := 0) (hi := 1099511627776) (e := 20) (by decide) (by rw [HU.out]; exact hf)
      rw [HU.out] at hbd
      rw [← htm, IntWalk.wrap64_in _ (by omega)]⟩
     rw [htm] at hcall
     have HCALL := Aside0.mk hcall
     clear htm hcall
     go_wp2_with fail
     refine HCALL.out.mono ?_
     rintro e wg ⟨rfl, hc, hg⟩
     have n0 := Aside0.mk (HG.out.turn hc hg)
     clear HG HCALL hc hg z3
     have HG := n0
     clear n0
     have z5 : wg.cell? ⟨b5, 5, none⟩ = some (.int .i64 0) := (blk_cell HG.out.k5 5).trans rfl
     have f5 := blk_frozen HG.out.k5 5
     have n0 := Aside0.mk (HG.out.set5 tm)
     generalize hwh : wg.setCell ⟨b5, 5, none⟩ (.int .i64 tm) = wh at n0
     clear HG
     have HG : Aside0 (GS ok g d b3 b4 b5 u.2 v7 G.2.2 ⟨a.1, b.1, x2, rt, x4, tm, vs, ts⟩ w wh) := ⟨n0.out⟩
     clear n0
     have z3 : wh.cell? ⟨b3, 0, none⟩ = some (.pointer (some ⟨g, 0, none⟩)) := (blk_cell HG.out.k3 0).trans rfl
     go_wp2_with fail
     clear hwh z5 f5 z3
     refine (recfine_calls g u.2 wh HG.out.x.cur).mono ?_
     rintro e wi ⟨rfl, hb⟩
     have n0 := Aside0.mk (HG.out.below hb)
     clear HG hb
     have HG := n0
     clear n0
     have y0 : wi.cell? ⟨b4, 0, none⟩ = some (.string ⟨#[]⟩) := (blk_cell HG.out.k4 0).trans rfl
     have y1 : wi.cell? ⟨b4, 1, none⟩ = some (.int .i64 0) := (blk_cell HG.out.k4 1).trans rfl
     have y2 : wi.cell? ⟨b4, 2, none⟩ = some (.slice none 0 0) := (blk_cell HG.out.k4 2).trans rfl
     have y3 : wi.cell? ⟨b4, 3, none⟩ = some (.int .i64 0) := (blk_cell HG.out.k4 3).trans rfl
     have y4 : wi.cell? ⟨b4, 4, none⟩ = some (.slice none 0 0) := (blk_cell HG.out.k4 4).trans rfl
     have y5 : wi.cell? ⟨b4, 5, none⟩ = some (.int .i64 0) := (blk_cell HG.out.k4 5).trans rfl
     have f0 := blk_frozen HG.out.k4 0
     have f1 := blk_frozen HG.out.k4 1
     have f2 := blk_frozen HG.out.k4 2
     have f3 := blk_frozen HG.out.k4 3
     have f4 := blk_frozen HG.out.k4 4
     have f5 := blk_frozen HG.out.k4 5
     cases hf : u.2.fine with
     | false =>
      have HF := Aside0.mk hf
      clear hf
      go_wp2
      refine bodyPost_ret (results_cell_row rfl _ _ b4 26 #[.string ⟨#[]⟩, .int .i64 0, .slice none 0 0, .int .i64 0, .slice none 0 0, .int .i64 0] (0, 0) _ rfl (box6 HG.out.k4 _ _ _ _ _ _) Try.underlying26 rfl (by kernel_rfl)) rfl ?_
      rw [HFIN.out, gend_no (by rw [HF.out]; decide)]
      refine ⟨_, _, rfl, Kd.R_nil _ _ _ _ _, Kd.R_nil _ _ _ _ _, ?_⟩
      exact (HG.out.x.far (chg6 _ _ _ _ _ _) (fun k hk => by rw [hk]; exact HG.out.l4) (fun k hk => by rw [hk]; exact HG.out.x.dic.nblk HG.out.k4 (by decide) (by decide))).two
     | true =>
      have HF := Aside0.mk hf
      clear hf
      have hr2 : (k48).R 48 wi w.heap.size (fun _ => True) x2 vs := HG.out.r2
      have hr4 : (k81).R 81 wi w.heap.size (fun _ => True) x4 ts := HG.out.r4
      obtain ⟨A2, m2, c2, e2⟩ : ∃ A n c, x2 = .slice A n c := by obtain ⟨A, c, h⟩ := Kd.R_slice hr2; exact ⟨A, _, c, h⟩
      obtain ⟨A4, m4, c4, e4⟩ : ∃ A n c, x4 = .slice A n c := by obtain ⟨A, c, h⟩ := Kd.R_slice hr4; exact ⟨A, _, c, h⟩
      subst e2 e4
      have HR2 := Aside0.mk hr2
      have HR4 := Aside0.mk hr4
      clear hr2 hr4
      have q0 : wi.cell? ⟨b5, 0, none⟩ = some (.string a.1) := (blk_cell HG.out.k5 0).trans rfl
      have q1 : wi.cell? ⟨b5, 1, none⟩ = some (.int .i64 b.1) := (blk_cell HG.out.k5 1).trans rfl
      have q2 : wi.cell? ⟨b5, 2, none⟩ = some (.slice A2 m2 c2) := (blk_cell HG.out.k5 2).trans rfl
      have q3 : wi.cell? ⟨b5, 3, none⟩ = some (.int .i64 rt) := (blk_cell HG.out.k5 3).trans rfl
      have q4 : wi.cell? ⟨b5, 4, none⟩ = some (.slice A4 m4 c4) := (blk_cell HG.out.k5 4).trans rfl
      have q5 : wi.cell? ⟨b5, 5, none⟩ = some (.int .i64 tm) := (blk_cell HG.out.k5 5).trans rfl
      go_wp2
      refine bodyPost_ret (results_cell_row rfl _ _ b4 26 #[.string a.1, .int .i64 b.1, .slice A2 m2 c2, .int .i64 rt, .slice A4 m4 c4, .int .i64 tm] (0, 0) _ rfl (box6 HG.out.k4 _ _ _ _ _ _) Try.underlying26 rfl (by kernel_rfl)) rfl ?_
      have hfg : G.2.1.fine = true := gnum_fine1 (e := 20) (lo := 0) (hi := 1099511627776) (by decide) (by rw [HU.out]; exact HF.out)
      have hfn2 : n2.2.fine = true := by rw [← HGG.out] at hfg; exact gtags_fine1 hfg
      have hfr : r.2.fine = true := by rw [← HN2.out] at hfn2; exact gnum_fine1 (by decide) hfn2
      have hfv : V.2.fine = true := by rw [← HR.out] at hfr; exact gnum_fine1 (by decide) hfr
      rw [HFIN.out, gend_ok HF.out, HD1.out hfv, HD2.out hfg, ← HRT.out hfr, ← HTM.out HF.out]
      refine ⟨_, _, rfl, row_chg rfl HG.out.k4 (by decide) HR2.out (chg6 _ _ _ _ _ _), row_chg rfl HG.out.k4 (by decide) HR4.out (chg6 _ _ _ _ _ _), ?_⟩
      exact (HG.out.x.far (chg6 _ _ _ _ _ _) (fun k hk => by rw [hk]; exact HG.out.l4) (fun k hk => by rw [hk]; exact HG.out.x.dic.nblk HG.out.k4 (by decide) (by decide))).two
end Go.Proofs.Ytclbmdblalgdjaa
/- What the laws of metrics as bytes lean on: two dictionaries and a Cur; no condition. -/
namespace Go.Proofs.Ytclbmdblalgdjaa
open Go.RowKit Go.Proofs.YtclbmdblalgdjaaW.PrintWords Go.Proofs.YtclbmdblalgdjaaW.PrintLast Go.Proofs.YtclbmdblalgdjaaW.PrintMore Go.Proofs.Ytclbmdblalgdjaa.PE
set_option linter.unusedVariables false
set_option linter.unusedSimpArgs false
def okM (A2 : Option Addr) (n2 c2 : Nat) (A4 : Option Addr) (n4 c4 : Nat) (k : Nat) : Prop := some k = (Value.slice A2 n2 c2).ownBlock ∨ some k = (Value.slice A4 n4 c4).ownBlock
theorem metF_of {m : MetS} {A2 A4 : Option Addr} {c2 c4 : Nat} {W : World} {b : Nat} {ok2 ok4 : Nat → Prop} (h2 : (k48).R 48 W b ok2 (.slice A2 m.f2.length c2) m.f2) (h4 : (k81).R 81 W b ok4 (.slice A4 m.f4.length c4) m.f4) (hi : metIn m = true) :
  MetF (okM A2 m.f2.length c2 A4 m.f4.length c4) m A2 c2 A4 c4 W ∧ ∀ k, okM A2 m.f2.length c2 A4 m.f4.length c4 k → b ≤ k ∧ k < W.heap.size := by
 obtain ⟨_, _, e2, l2, _⟩ := Kd.R_reads h2
 obtain ⟨_, _, e4, l4, _⟩ := Kd.R_reads h4
 injection e2 with _ _ e2
 injection e4 with _ _ e4
 subst e2 e4
 refine ⟨⟨Kd.R_F (Kd.R_mono (Kd.R_tight rfl h2) (fun k hk => .inl hk)), l2, Kd.R_F (Kd.R_mono (Kd.R_tight rfl h4) (fun k hk => .inr hk)), l4, hi⟩, ?_⟩
 rintro k (hk | hk)
 ·exact ⟨Kd.R_base h2 k hk.symm, Kd.R_lt h2 k hk.symm⟩
 ·exact ⟨Kd.R_base h4 k hk.symm, Kd.R_lt h4 k hk.symm⟩
structure RO (ok : Nat → Prop) (gc : Nat) (d1 d2 : Dic) (s : Cu) (w W : World) : Prop where
 cur : CurAt ok gc s W
 da : DicAt d1 W
 db : DicAt d2 W
 ap : ∀ k, d1.F k → ¬ d2.F k
 a1 : ∀ k, ok k → ¬ d1.F k
 a2 : ∀ k, ok k → ¬ d2.F k
 f1 : ∀ k, d1.F k → w.heap.size ≤ k
 f2 : ∀ k, d2.F k → w.heap.size ≤ k
 okr : ∀ k, ok k → w.heap.size ≤ k ∧ k < W.heap.size
 bel : Below w.heap.size w W
section
variable {ok : Nat → Prop} {gc : Nat} {d1 d2 : Dic} {s s' : Cu} {w W W' : World} {m : MetS} {ws' : List ByteArray}
theorem RO.below (h : RO ok gc d1 d2 s w W) (hb : Below W.heap.size W W') : RO ok gc d1 d2 s w W' :=
 ⟨h.cur.below hb, h.da.below hb, h.db.below hb, h.ap, h.a1, h.a2, h.f1, h.f2, fun k hk => ⟨(h.okr k hk).1, Nat.lt_of_lt_of_le (h.okr k hk).2 hb.size⟩, below_step h.bel hb⟩
end
theorem mis_true (m : MetS) (A2 : Option Addr) (c2 : Nat) (A4 : Option Addr) (c4 : Nat) (W : World) (hm : MetC m A2 c2 A4 c4 W) (hi : metIn m = true) (h4 : m.f4.length ≤ 1000000) : Calls Try.prog 26 #[.agg #[.string m.f0, .int .i64 m.f1, .slice A2 m.f2.length c2, .int .i64 m.f3, .slice A4 m.f4.length c4, .int .i64 m.f5]] W fun e W' => e = .returned (.bool (decide (metBad m = 0) && tIs m.f4)) ∧ Below W.heap.size W W' := by
 obtain ⟨k, hk⟩ := Ev.rounds (mis_ev m hi h4)
 exact metric_Is.calls k m.f0 m.f1 A2 c2 m.f2 m.f3 A4 c4 m.f4 m.f5 _ W hm.v hm.vc hm.t hm.tc hk
theorem mequal16 (m a : MetS) (A2 : Option Addr) (c2 : Nat) (A4 : Option Addr) (c4 : Nat) (B2 : Option Addr) (e2 : Nat) (B4 : Option Addr) (e4 : Nat) (W : World) (hm : MetC m A2 c2 A4 c4 W) (ha : MetC a B2 e2 B4 e4 W) (h2 : m.f2.length ≤ 140737488355328) (h4 : m.f4.length ≤ 140737488355328) (he : m = a) :
  Calls Try.prog 28 #[.agg #[.string m.f0, .int .i64 m.f1, .slice A2 m.f2.length c2, .int .i64 m.f3, .slice A4 m.f4.length c4, .int .i64 m.f5], .agg #[.string a.f0, .int .i64 a.f1, .slice B2 a.f2.length e2, .int .i64 a.f3, .slice B4 a.f4.length e4, .int .i64 a.f5]] W fun e W' => e = .returned (.bool true) ∧ Below W.heap.size W W' := by
 obtain ⟨t, e1, e2'⟩ := meq_ev m a h2 h4
 have ht : t = true := e2'.2 he
 obtain ⟨k, hk⟩ := Ev.rounds e1
 rw [ht] at hk
 exact metric_Equal.calls k m.f0 m.f1 A2 c2 m.f2 m.f3 A4 c4 m.f4 m.f5 a.f0 a.f1 B2 e2 a.f2 a.f3 B4 e4 a.f4 a.f5 true W hm.v hm.vc hm.t hm.tc ha.v ha.vc ha.t ha.tc hk
end Go.Proofs.Ytclbmdblalgdjaa
