/- Package rec: Put: what it tells and turns; no condition. -/
import Derived.Test.YtclbmdblalgdjaaZLRGetD
import Derived.Test.YtclbmdblalgdjaaZLRNormM
import Derived.Laws.EntriesVeiled
import Derived.Deep.CutBlock
import Derived.Deep.CutRange
import Derived.Test.YtclbmdblalgdjaaZLPEx11
import Derived.Test.YtclbmdblalgdjaaZLPEx4
namespace Go.Proofs.Ytclbmdblalgdjaa
open Go.RowKit Go.Proofs.YtclbmdblalgdjaaW.PrintWords Go.Proofs.YtclbmdblalgdjaaW.PrintLast Go.Proofs.YtclbmdblalgdjaaW.PrintMore Go.Proofs.Ytclbmdblalgdjaa.PE
set_option linter.unusedVariables false
set_option linter.unusedSimpArgs false
theorem R_apps_g {ops : Array Oper} {rest : List Oper} {o : Oper} {a : Act} {Q : Exit → Act → World → Prop} {W : World} {base : Nat} {s x : Operand} {t : TypeId} {v : Value} {xs ys : List Int} {A : Option Addr} {m c : Nat} (hgd : o.guard = none)
  (ho : o.op = .call { callee := .builtin .append, args := #[s, x], argTypes := #[t, t] }) (hs : a.eval s = v) (hx : a.eval x = .slice A m c)
  (ht : Try.prog.underlying t = some (.slice 5))
  (HO : (Kd.int .u8).R 5 W base (fun _ => True) v xs) (HR : (Kd.int .u8).C W A m ys) (hb : base ≤ W.heap.size) (hl : xs.length + m ≤ 140737488355328)
  (h : ∀ v1 w1, (Kd.int .u8).R 5 w1 base (fun _ => True) v1 (xs ++ ys) → W.grownBy w1 v.ownBlock → wpList Try.prog ops Q rest (a.put o.dst v1) w1) :
  wpList Try.prog ops Q (o :: rest) a W := by
 refine Kd.R_append_rows (Kd.int .u8) (Rr := (Kd.int .u8).K W) (w0 := W) base hgd s x t 5 (.int .u8 0) 1 ho ht iB rfl (by decide) (by omega) v xs ys A m c (fun _ => True) (fun _ => False) hs hx HO HR (fun x cs h => h) (fun _ hk => hk.elim) (fun _ _ => trivial) ((Below.refl _ _).mono hb) hb (by omega) ?_
 intro v1 w1 ho hb hg _
 exact h v1 w1 ho hg
structure MetF (okm : Nat → Prop) (m : MetS) (Av : Option Addr) (cv : Nat) (At : Option Addr) (ct : Nat) (W : World) : Prop where
 v : Kd.F k48 W okm Av m.f2.length m.f2
 vc : m.f2.length ≤ cv
 t : Kd.F k81 W okm At m.f4.length m.f4
 tc : m.f4.length ≤ ct
 wi : metIn m = true
section
variable {okm : Nat → Prop} {m : MetS} {Av At : Option Addr} {cv ct : Nat} {W W1 : World} {S : Nat → Prop}
theorem MetF.step (h : MetF okm m Av cv At ct W) (hc : Chg S W W1) (hs : ∀ k, S k → ¬ okm k) : MetF okm m Av cv At ct W1 :=
 ⟨Foot.step h.v (fun k hk hl => hc.block k hl (fun e => hs k e hk)), h.vc, Foot.step h.t (fun k hk hl => hc.block k hl (fun e => hs k e hk)), h.tc, h.wi⟩
theorem MetF.below (h : MetF okm m Av cv At ct W) (hb : Below W.heap.size W W1) : MetF okm m Av cv At ct W1 := h.step (Chg.of_below hb (fun _ => False)) (fun _ h => h.elim)
theorem MetF.metC (h : MetF okm m Av cv At ct W) : MetC m Av cv At ct W := PE.metC_of (Kd.F_now h.v) h.vc (Kd.F_now h.t) h.tc h.wi
end
structure PS (okm : Nat → Prop) (d : Dic) (b3 b7 b8 b9 : Nat) (m : MetS) (Av : Option Addr) (cv : Nat) (At : Option Addr) (ct : Nat) (v : Value) (ws : List ByteArray) (x : Value) (l : List Int) (w W : World) : Prop where
 dic : DicAt ⟨d.g, d.gm, v, ws⟩ W
 chg : Chg d.F w W
 nx : v.ownBlock = d.v.ownBlock ∨ ∃ k, v.ownBlock = some k ∧ w.heap.size ≤ k
 mf : MetF okm m Av cv At ct W
 k3 : W.heap[b3]? = some (.cells #[.string m.f0, .int .i64 m.f1, .slice Av m.f2.length cv, .int .i64 m.f3, .slice At m.f4.length ct, .int .i64 m.f5] 26 (0, 0))
 k7 : W.heap[b7]? = some (.cells #[x] 34 (0, 0))
 k8 : W.heap[b8]? = some (.cells #[.int .i64 0] 35 (0, 0))
 k9 : W.heap[b9]? = some (.cells #[.func (.func 39) #[] #[.pointer (some ⟨b8, 0, none⟩), .pointer (some ⟨b7, 0, none⟩)]] 85 (0, 0))
 r : (Kd.int .u8).R 5 W w.heap.size (fun _ => True) x l
 l7 : w.heap.size ≤ b7
 l8 : w.heap.size ≤ b8
 ap : ∀ k, okm k → ¬ d.F k
 lo : ∀ k, okm k → k < w.heap.size
theorem blk_ne2 {W : World} {a b t1 t2 : Nat} {c1 c2 : Array Value} (h1 : W.heap[a]? = some (.cells c1 t1 (0, 0))) (h2 : W.heap[b]? = some (.cells c2 t2 (0, 0))) (h : t1 ≠ t2) : a ≠ b := by
 rintro rfl
 rw [h1] at h2
 injection h2 with h2
 injection h2 with _ h2
 exact h h2
structure PutEnd (b7 b8 : Nat) (x : Value) (base : Nat) (l : List Int) (W W' : World) (x' : Value) : Prop where
 r : (Kd.int .u8).R 5 W' base (fun _ => True) x' l
 k7 : W'.heap[b7]? = some (.cells #[x'] 34 (0, 0))
 k8 : W'.heap[b8]? = some (.cells #[.int .i64 0] 35 (0, 0))
 chg : Chg (fun k => (k = b7 ∨ k = b8) ∨ some k = x.ownBlock) W W'
set_option maxHeartbeats 4000000 in
set_option maxRecDepth 100000 in
theorem putcl_calls (b7 b8 : Nat) (x : Value) (l ys : List Int) (A : Option Addr) (mm c base base2 : Nat) (W : World) (h7 : W.heap[b7]? = some (.cells #[x] 34 (0, 0))) (h8 : W.heap[b8]? = some (.cells #[.int .i64 0] 35 (0, 0))) (hR : (Kd.int .u8).R 5 W base (fun _ => True) x l) (hY : (Kd.int .u8).R 5 W base2 (fun _ => True) (.slice A mm c) ys) (hb : base ≤ W.heap.size) (hl : l.length + mm ≤ 140737488355328) :
  Calls Try.prog 39 #[.slice A mm c, .int .i64 0, .pointer (some ⟨b8, 0, none⟩), .pointer (some ⟨b7, 0, none⟩)] W fun e W' => e = .returned (.tuple #[]) ∧ ∃ x', PutEnd b7 b8 x base (l ++ ys) W W' x' := by
 have H7 := Aside0.mk h7
 have H8 := Aside0.mk h8
 have HR := Aside0.mk hR
 have HYY := Aside0.mk hY
 have HB := Aside0.mk hb
 have HL := Aside0.mk hl
 obtain ⟨Ax, nx, cx, ex⟩ : ∃ A n c, x = .slice A n c := by obtain ⟨A, c, h⟩ := Kd.R_slice hR; exact ⟨A, _, c, h⟩
 subst ex
 have hne : b7 ≠ b8 := blk_ne2 h7 h8 (by decide)
 have z8 : W.cell? ⟨b8, 0, none⟩ = some (.int .i64 0) := (blk_cell h8 0).trans rfl
 have f8 := blk_frozen h8 0
 have n7 := Aside0.mk (blk_far (p := ⟨b8, 0, none⟩) h7 hne (.int .i64 0))
 have n8 : Aside0 ((W.setCell ⟨b8, 0, none⟩ (.int .i64 0)).heap[b8]? = some (.cells #[.int .i64 0] 35 (0, 0))) := ⟨(blk_put h8 0 (.int .i64 0) rfl).trans rfl⟩
 have nc := Aside0.mk ((Chg.refl (fun k => k = b8) W).set1 0 (.int .i64 0))
 have hxb : some b8 ≠ (Value.slice Ax nx cx).ownBlock := Kd.R_ne hR h8 (by decide)
 have nr : Aside0 ((Kd.int .u8).R 5 (W.setCell ⟨b8, 0, none⟩ (.int .i64 0)) base (fun _ => True) (.slice Ax nx cx) l) := ⟨Kd.R_mono (Kd.R_step (Kd.R_tight rfl hR) (fun k hk hl => Below.heap_setCell W ⟨b8, 0, none⟩ _ k (fun e => hxb (by rw [← show k = b8 from e]; exact hk)))) (fun _ _ => trivial)⟩
 have hyb : some b8 ≠ (Value.slice A mm c).ownBlock := Kd.R_ne hY h8 (by decide)
 have nC : Aside0 ((Kd.int .u8).C (W.setCell ⟨b8, 0, none⟩ (.int .i64 0)) A mm ys) := ⟨by
  have h := Kd.R_reads' (Kd.R_step (Kd.R_tight rfl hY) (fun k hk hl => Below.heap_setCell W ⟨b8, 0, none⟩ (.int .i64 0) k (fun e => hyb (by rw [← show k = b8 from e]; exact hk))))
  rw [← h.1] at h
  exact h.2.2⟩
 have HNE := Aside0.mk hne
 generalize hw1 : W.setCell ⟨b8, 0, none⟩ (.int .i64 0) = w1 at n7 n8 nc nr nC
 have z7 : w1.cell? ⟨b7, 0, none⟩ = some (.slice Ax nx cx) := (blk_cell n7.out 0).trans rfl
 have HSZ := Aside0.mk (show base ≤ w1.heap.size from Nat.le_trans hb nc.out.size)
 clear h7 h8 hR hY hb hl hne hxb hyb
 go_enter Try.func39, Try.ntmps39
 go_wp2_with (first | ((with_reducible refine gate_builtin (b := .append) (xs := #[.tmp 9, .tmp 10]) rfl ?_); at_builtin; go_must (refine R_apps_g rfl rfl rfl rfl uB nr.out nC.out HSZ.out HL.out ?_); intro y w2 hy hg; (obtain ⟨Ay, ny, cy, hye⟩ : ∃ A n c, y = .slice A n c := by obtain ⟨A, c, h⟩ := Kd.R_slice hy; exact ⟨A, _, c, h⟩); subst hye; have HY := Aside0.mk hy; have HG := Aside0.mk hg; have q7 := Aside0.mk ((hg.block b7 (blk_lt n7.out) (Kd.R_ne nr.out n7.out (by decide))).trans n7.out); have q8 := Aside0.mk ((hg.block b8 (blk_lt n8.out) (Kd.R_ne nr.out n8.out (by decide))).trans n8.out); clear hy hg z7 z8 f8 hw1; have y7 : w2.cell? ⟨b7, 0, none⟩ = some (.slice Ax nx cx) := (blk_cell q7.out 0).trans rfl; have g7 := blk_frozen q7.out 0))
 go_end0
 refine ⟨rfl, _, ?_, (blk_put q7.out 0 _ rfl).trans rfl, blk_far (p := ⟨b7, 0, none⟩) q8.out (fun e => HNE.out e.symm) _, ?_⟩
 ·exact Kd.R_mono (Kd.R_step (Kd.R_tight rfl HY.out) (fun k hk hl => Below.heap_setCell w2 ⟨b7, 0, none⟩ _ k (fun e => (Kd.R_ne HY.out q7.out (by decide)) (by rw [← show k = b7 from e]; exact hk)))) (fun _ _ => trivial)
 ·refine (((nc.out.mono (fun k _ h => Or.inl (Or.inr h))).trans (Chg.of_grown HG.out (S := fun k => some k = (Value.slice Ax nx cx).ownBlock) (fun k hk => hk.symm)) (fun k h => .inl (.inr h))).trans ((Chg.refl (fun k => k = b7) w2).set1 0 _) (fun k h => .inl (.inl (.inl h))))
section
variable {okm : Nat → Prop} {d : Dic} {b3 b7 b8 b9 : Nat} {m : MetS} {Av At : Option Addr} {cv ct : Nat} {v x : Value} {ws : List ByteArray} {l ys : List Int} {w W W' : World}
theorem PS.below (h : PS okm d b3 b7 b8 b9 m Av cv At ct v ws x l w W) (hb : Below W.heap.size W W') : PS okm d b3 b7 b8 b9 m Av cv At ct v ws x l w W' :=
 ⟨h.dic.below hb, h.chg.below hb, h.nx, h.mf.below hb, blk_below h.k3 hb, blk_below h.k7 hb, blk_below h.k8 hb, blk_below h.k9 hb, Kd.R_below h.r hb, h.l7, h.l8, h.ap, h.lo⟩
theorem PS.drew (h : PS okm d b3 b7 b8 b9 m Av cv At ct v ws x l w W) : PS okm d b3 b7 b8 b9 m Av cv At ct v ws x l w W.drew := h.below (below_drew1 (Below.refl _ _))
theorem PS.alloc (h : PS okm d b3 b7 b8 b9 m Av cv At ct v ws x l w W) (o : Obj) : PS okm d b3 b7 b8 b9 m Av cv At ct v ws x l w (W.alloc o) := h.below (below_alloc (Below.refl _ _) o)
theorem dic_blk {dd : Dic} {b t : Nat} {cells : Array Value} (h2 : t ≠ 93) (h3 : t ≠ 9) (hd : DicAt dd W) (hg : Chg dd.F W W') (hb : W.heap[b]? = some (.cells cells t (0, 0))) : W'.heap[b]? = some (.cells cells t (0, 0)) :=
 (hg.block b (blk_lt hb) (hd.nblk hb h2 h3)).trans hb
def KeepB (W W' : World) : Prop := ∀ (b t : Nat) (cells : Array Value), t ∉ [34, 35, 5, 93, 9] → W.heap[b]? = some (.cells cells t (0, 0)) → W'.heap[b]? = some (.cells cells t (0, 0))
theorem PS.put2 (h : PS okm d b3 b7 b8 b9 m Av cv At ct v ws x l w W) {s : ByteArray} (hs : s.size ≤ 140737488350000) :
  Calls Try.prog 35 #[.pointer (some ⟨d.g, 0, none⟩), .string s] W fun e W' => ∃ A c v', e = .returned (.tuple #[.slice A (dput ws s).1.length c, .int .i64 (dput ws s).2.1]) ∧ (Kd.int .u8).R 5 W' w.heap.size (fun _ => True) (.slice A (dput ws s).1.length c) (dput ws s).1 ∧ PS okm d b3 b7 b8 b9 m Av cv At ct v' (dput ws s).2.2 x l w W' ∧ KeepB W W' := by
 refine (dicput_calls ⟨d.g, d.gm, v, ws⟩ s W h.dic hs).mono ?_
 rintro e W' ⟨y, rfl, hR, v', hd, hc, hn⟩
 obtain ⟨A, c, rfl, _⟩ := Kd.R_reads hR
 have hF2 : ∀ k, (⟨d.g, d.gm, v, ws⟩ : Dic).F k → d.F k ∨ w.heap.size ≤ k := DTurn.next h.nx
 refine ⟨A, c, v', rfl, Kd.R_lower hR h.chg.size, ⟨hd, h.chg.trans hc hF2, ?_, h.mf.step hc (fun k hk ho => (hF2 k hk).elim (h.ap k ho) (fun hl => by have := h.lo k ho; omega)), dic_blk (by decide) (by decide) h.dic hc h.k3, dic_blk (by decide) (by decide) h.dic hc h.k7, dic_blk (by decide) (by decide) h.dic hc h.k8, dic_blk (by decide) (by decide) h.dic hc h.k9, row_turn h.dic h.r hc, h.l7, h.l8, h.ap, h.lo⟩, fun b t cells ht hb => dic_blk (fun e => ht (by rw [e]; decide)) (fun e => ht (by rw [e]; decide)) h.dic hc hb⟩
 rcases hn with hn | ⟨k, hk, hl⟩
 ·rcases h.nx with ho | ⟨j, hj, hl⟩
  ·exact .inl (hn.trans ho)
  ·exact .inr ⟨j, hn.trans hj, hl⟩
 ·exact .inr ⟨k, hk, Nat.le_trans h.chg.size hl⟩
theorem PS.app2 (h : PS okm d b3 b7 b8 b9 m Av cv At ct v ws x l w W) {A : Option Addr} {mm c base2 : Nat} (hY : (Kd.int .u8).R 5 W base2 (fun _ => True) (.slice A mm c) ys) (hl : l.length + mm ≤ 140737488355328) :
  Calls Try.prog 39 #[.slice A mm c, .int .i64 0, .pointer (some ⟨b8, 0, none⟩), .pointer (some ⟨b7, 0, none⟩)] W fun e W' => e = .returned (.tuple #[]) ∧ ∃ x', PS okm d b3 b7 b8 b9 m Av cv At ct v ws x' (l ++ ys) w W' ∧ KeepB W W' := by
 refine (putcl_calls b7 b8 x l ys A mm c w.heap.size base2 W h.k7 h.k8 h.r hY h.chg.size hl).mono ?_
 rintro e W' ⟨rfl, x', hE⟩
 have hS : ∀ k, ((k = b7 ∨ k = b8) ∨ some k = x.ownBlock) → w.heap.size ≤ k := by
  rintro k ((e | e) | e)
  ·rw [e]; exact h.l7
  ·rw [e]; exact h.l8
  ·exact Kd.R_base h.r k e.symm
 have hN : ∀ {b t : Nat} {cells : Array Value}, W.heap[b]? = some (.cells cells t (0, 0)) → t ≠ 34 → t ≠ 35 → t ≠ 5 → ¬ ((b = b7 ∨ b = b8) ∨ some b = x.ownBlock) := by
  rintro b t cells hb t1 t2 t3 ((e | e) | e)
  ·exact blk_ne2 hb h.k7 t1 e
  ·exact blk_ne2 hb h.k8 t2 e
  ·exact Kd.R_ne h.r hb (fun e2 => t3 e2.symm) e
 refine ⟨rfl, x', ⟨h.dic.step hE.chg ?_, h.chg.trans hE.chg (fun k hk => .inr (hS k hk)), h.nx, h.mf.step hE.chg (fun k hk ho => by have := hS k hk; have := h.lo k ho; omega), (hE.chg.block b3 (blk_lt h.k3) (hN h.k3 (by decide) (by decide) (by decide))).trans h.k3, hE.k7, hE.k8, (hE.chg.block b9 (blk_lt h.k9) (hN h.k9 (by decide) (by decide) (by decide))).trans h.k9, hE.r, h.l7, h.l8, h.ap, h.lo⟩, fun b t cells ht hb => (hE.chg.block b (blk_lt hb) (hN hb (fun e => ht (by rw [e]; decide)) (fun e => ht (by rw [e]; decide)) (fun e => ht (by rw [e]; decide)))).trans hb⟩
 rintro k hF ((e | e) | e)
 ·exact h.dic.nblk h.k7 (by decide) (by decide) (e ▸ hF)
 ·exact h.dic.nblk h.k8 (by decide) (by decide) (e ▸ hF)
 ·obtain ⟨cells, hb⟩ := Kd.R_typed h.r k e.symm
  exact h.dic.nblk hb (by decide) (by decide) hF
theorem PS.app (h : PS okm d b3 b7 b8 b9 m Av cv At ct v ws x l w W) {A : Option Addr} {mm c base2 : Nat} (hY : (Kd.int .u8).R 5 W base2 (fun _ => True) (.slice A mm c) ys) (hl : l.length + mm ≤ 140737488355328) :
  Calls Try.prog 39 #[.slice A mm c, .int .i64 0, .pointer (some ⟨b8, 0, none⟩), .pointer (some ⟨b7, 0, none⟩)] W fun e W' => e = .returned (.tuple #[]) ∧ ∃ x', PS okm d b3 b7 b8 b9 m Av cv At ct v ws x' (l ++ ys) w W' :=
 (h.app2 hY hl).mono (fun e W' ⟨a1, x', a2, _⟩ => ⟨a1, x', a2⟩)
end
theorem goesW_ {P : Program} {ops : Array Oper} {Q : Exit → Act → World → Prop} {oi : Oper} {N : Option Tmp} {a : Act} {w : World} {K : Act → World → Prop} {f : FuncId} {fn : Func} {ops1 : Array Operand} {ts : Array TypeId} {x : Operand} {caps : Array Value} (hf : P.funcs[f]? = some fn) (hname : (fn.name == "runtime.NumGoroutine") = false) (hb : fn.body.isSome = true) (args : Array Value)
  (hw : Region.wanted oi (yielded ops a.tmps) = true) (hN : oi.dst = N) (hop : oi.op = .call { callee := .value x, args := ops1, argTypes := ts }) (hx : a.eval x = .func (.func f) #[] caps) (hargs : ops1.map a.eval ++ caps = args)
  (h : Calls P f args w fun e w' => ∃ v, e = .returned v ∧ K (a.put N v) w') : if Region.wanted oi (yielded ops a.tmps) = true then Oper.wp P oi a w K Q else K (a.put N undef) w := by
 refine call_ f args hw hN ?_ h
 have he := enters_ hf hname hb args w
 unfold execOp
 simp [hop, resolve, Deferred.ofValue, invoke, hx, hargs, he]
set_option maxHeartbeats 4000000 in
set_option maxRecDepth 100000 in
theorem PS.num {okm : Nat → Prop} {d : Dic} {b3 b7 b8 b9 : Nat} {m : MetS} {Av At : Option Addr} {cv ct : Nat} {v x : Value} {ws : List ByteArray} {l : List Int} {w W : World} (h : PS okm d b3 b7 b8 b9 m Av cv At ct v ws x l w W) (n : Int) (hn : 0 ≤ n ∧ n < 9223372036854775808) (hl : l.length + 10 ≤ 140737488355328) :
  Calls Try.prog 40 #[.int .i64 n, .pointer (some ⟨b9, 0, none⟩)] W fun e W' => e = .returned (.tuple #[]) ∧ ∃ x', PS okm d b3 b7 b8 b9 m Av cv At ct v ws x' (l ++ vput n.toNat) w W' := by
 obtain ⟨k, rfl⟩ := Int.eq_ofNat_of_zero_le hn.1
 rw [Int.toNat_natCast]
 obtain ⟨n, hnk⟩ : ∃ n : Int, n = (k : Int) := ⟨_, rfl⟩
 rw [← hnk]
 have H := Aside0.mk h
 have HK := Aside0.mk hnk
 have HL := Aside0.mk hl
 have e1 : IntKind.u64.wrap n = n := IntWalk.u64_in _ (by omega)
 have HPUT : Aside0 (Calls Try.prog 41 #[.int .u64 n] W.drew fun e w' => ∃ v, e = .returned v ∧ (Kd.int .u8).R 5 w' W.drew.heap.size (fun _ => True) v (vput k) ∧ Below W.drew.heap.size W.drew w') := ⟨by rw [hnk]; exact put_calls k (by omega) W.drew⟩
 have HVL := Aside0.mk (vput_len10 k (by omega))
 clear h hn hl hnk
 go_enter Try.func40, Try.ntmps40
 go_wp2
 refine start_ (n := 5) (S := fun w' => w'.cell? ⟨b9, 0, none⟩ = some (.func (.func 39) #[] #[.pointer (some ⟨b8, 0, none⟩), .pointer (some ⟨b7, 0, none⟩)])) (ds := []) #[false, false, false, false, false] (by kernel_rfl) rfl rfl ((blk_cell H.out.drew.k9 0).trans rfl) (fun hHeld => ?_)
 refine pure_ (i := 1) (N := some 4) (v := ?_) (a' := ?_) #[false, true, false, false, false] rfl rfl (by kernel_rfl) (fun _ _ _ h => h) (Or.inl ⟨by rfl, ?_⟩) ?_ ?_
 rotate_left
 ·intro w'
  go_simp
  with_reducible rfl
 rotate_left
 ·simp only [Act.put, List.setIfInBounds_toArray, List.set_cons_zero, List.set_cons_succ, i64_w, i32_w]
  rfl
 refine pure_ (i := 2) (N := some 5) (v := ?_) (a' := ?_) #[false, true, true, false, false] rfl rfl (by kernel_rfl) (fun _ _ _ h => h) (Or.inl ⟨by rfl, ?_⟩) ?_ ?_
 rotate_left
 ·intro w'
  go_simp
  with_reducible rfl
 rotate_left
 ·simp only [Act.put, List.setIfInBounds_toArray, List.set_cons_zero, List.set_cons_succ, i64_w, i32_w]
  rfl
 refine take_ (i := 0) (N := some 3) (v := ?_) (a' := ?_) #[true, true, true, false, false] rfl rfl (by kernel_rfl) (fun _ _ _ h => h) (Or.inl ⟨by rfl, ?_⟩) hHeld ?_ ?_
 rotate_left
 ·intro w' s0
  go_simp
  with_reducible rfl
 rotate_left
 ·simp only [Act.put, List.setIfInBounds_toArray, List.set_cons_zero, List.set_cons_succ, i64_w, i32_w]
  rfl
 refine one_ (i := 3) (N := some 6) #[true, true, true, true, false] rfl rfl (by kernel_rfl) (by decide) (fun K hK => ?_)
 refine goes_ Try.func41 (by kernel_rfl) rfl #[.int .u64 n] (by rfl) rfl rfl (by first | (simp only [List.map_toArray, List.map_cons, List.map_nil]; done) | (simp only [List.map_toArray, List.map_cons, List.map_nil]; rfl) | simp) ?_
 with_reducible refine (HPUT.out).mono ?_
 rintro e wA ⟨vv, rfl, hv, hb⟩
 have HA := Aside0.mk (H.out.drew.below hb)
 obtain ⟨Ay, cy, rfl, _⟩ := Kd.R_reads hv
 have HY := Aside0.mk hv
 clear hb hv
 refine ⟨_, rfl, ?_⟩
 refine hK.out _ _ ((blk_cell HA.out.k9 0).trans rfl) (fun hHeld => ?_)
 clear hK K
 refine norm_ (a' := ?_) ?_ ?_
 rotate_left
 ·show Act.put _ (some 6) _ = _
  simp only [Act.put, List.setIfInBounds_toArray, List.set_cons_zero, List.set_cons_succ, i64_w, i32_w]
  rfl
 refine one_ (i := 4) (N := some 7) #[true, true, true, true, true] rfl rfl (by kernel_rfl) (by decide) (fun K hK => ?_)
 refine goesW_ Try.func39 (by kernel_rfl) rfl #[.slice Ay (vput k).length cy, .int .i64 0, .pointer (some ⟨b8, 0, none⟩), .pointer (some ⟨b7, 0, none⟩)] (by rfl) rfl rfl (by rfl) (by simp only [List.map_toArray, List.map_cons, List.map_nil]; rfl) ?_
 refine (HA.out.app HY.out (by have := HVL.out; have := HL.out; omega)).mono ?_
 rintro e wB ⟨rfl, x', hp⟩
 have HB := Aside0.mk hp
 clear hp
 refine ⟨_, rfl, ?_⟩
 refine hK.out _ _ ((blk_cell HB.out.k9 0).trans rfl) (fun hHeld => ?_)
 clear hK K
 refine norm_ (a' := ?_) ?_ ?_
 rotate_left
 ·show Act.put _ (some 7) _ = _
  simp only [Act.put, List.setIfInBounds_toArray, List.set_cons_zero, List.set_cons_succ, i64_w, i32_w]
  rfl
 refine done_ (by kernel_rfl) ?_
 go_end0
 exact ⟨rfl, x', HB.out⟩
/-! The plain side. -/
theorem vputf (n : Nat) (h : n < 18446744073709551616) : varint_Put.f (n : Int) = some (vput n) := by
 unfold varint_Put.f
 rw [if_pos (by omega), Int.toNat_natCast]
theorem vputf2 {n : Int} (h : 0 ≤ n ∧ n < 18446744073709551616) : varint_Put.f n = some (vput n.toNat) := if_pos h
theorem putdec_f (x : DecS) (hi : decIn x = true) : rec_PutDec.f x.f0 x.f1 x.f2 = some (if decBad x.f0 x.f1 x.f2 = 0 then (pdec x, 0) else ([], decBad x.f0 x.f1 x.f2)) := by
 unfold decIn at hi
 simp only [Bool.and_eq_true, decide_eq_true_eq] at hi
 unfold rec_PutDec.f dec_Check.f
 rw [if_pos hi.1, Option.bind_some]
 by_cases h : decBad x.f0 x.f1 x.f2 = 0
 ·rw [if_pos h, if_pos h]
  have hs := decBad_small h
  have hz : zigN x.f2 ≤ 36 := by unfold zigN; split <;> omega
  have hw : IntKind.u64.wrap ((zigN x.f2 : Int) * 2) = ((2 * zigN x.f2 : Nat) : Int) := by rw [IntWalk.u64_in _ (by omega)]; omega
  unfold varint_Zig.f
  rw [if_pos hi.2, Option.bind_some, hw]
  have l2 := vput_len10 x.f1.toNat (by omega)
  cases hb : x.f0 with
  | true =>
   have l1 := vput_len10 (2 * zigN x.f2 + 1) (by omega)
   rw [if_pos rfl, or_one_u64 (by omega) (by omega), vputf _ (by omega), Option.bind_some, vputf2 hi.1, Option.bind_some, if_pos (by omega)]
   unfold pdec decN
   rw [hb, if_pos rfl]
  | false =>
   have l1 := vput_len10 (2 * zigN x.f2) (by omega)
   rw [if_neg (by decide), vputf _ (by omega), Option.bind_some, vputf2 hi.1, Option.bind_some, if_pos (by omega)]
   unfold pdec decN
   rw [hb, if_neg (by decide)]
   rfl
 ·rw [if_neg h, if_neg h]
theorem pdec_len {x : DecS} (hi : decIn x = true) (h : decBad x.f0 x.f1 x.f2 = 0) : (pdec x).length ≤ 20 := by
 unfold decIn at hi
 simp only [Bool.and_eq_true, decide_eq_true_eq] at hi
 have h1 := decN_lt h
 have l1 := vput_len10 (decN x) (by omega)
 have l2 := vput_len10 x.f1.toNat (by omega)
 unfold pdec
 rw [List.length_append]
 omega
theorem pdecs_take {vs : List DecS} {i : Nat} (h : i < vs.length) : pdecs (vs.take (i + 1)) = pdecs (vs.take i) ++ pdec vs[i] := by
 unfold pdecs
 rw [List.take_succ_eq_append_getElem h, List.flatMap_append]
 simp
theorem pdecs_len : ∀ (vs : List DecS), (∀ x ∈ vs, decIn x = true ∧ decBad x.f0 x.f1 x.f2 = 0) → (pdecs vs).length ≤ 20 * vs.length
 | [], _ => Nat.le_refl _
 | x :: l, h => by
  have h1 := pdec_len (h x List.mem_cons_self).1 (h x List.mem_cons_self).2
  have h2 := pdecs_len l (fun y hy => h y (List.mem_cons_of_mem _ hy))
  unfold pdecs at *
  rw [List.flatMap_cons, List.length_append, List.length_cons]
  omega
end Go.Proofs.Ytclbmdblalgdjaa
