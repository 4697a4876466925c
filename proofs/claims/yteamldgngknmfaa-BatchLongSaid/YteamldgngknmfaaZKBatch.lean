/- Package batch: Check; no condition. -/
import Derived.Test.YteamldgngknmfaaZKLawMetB
namespace Go.Proofs.Yteamldgngknmfaa
open Go.RowKit Go.Proofs.YteamldgngknmfaaW.PrintWords Go.Proofs.YteamldgngknmfaaW.PrintLast Go.Proofs.YteamldgngknmfaaW.PrintMore Go.Proofs.Yteamldgngknmfaa.PE
set_option linter.unusedVariables false
set_option linter.unusedSimpArgs false
attribute [local go_sem] ea_fn ea_depth Fence.wide_round Oper.semAt_some
def eaLeft (n : Nat) : Value → Nat
 | .int _ k => n - k.toNat
 | _ => 0
def batGo (of : MetS → Int) : List MetS → Int → Int × Int
 | [], _ => (0, 0)
 | m :: l, i => if of m = 0 then batGo of l (i + 1) else (i, of m)
def batBad (l : List MetS) : Int × Int := if 1000 < (l.length : Int) then (1000, 12) else batGo metBad l 0
set_option maxHeartbeats 4000000 in
set_option maxRecDepth 100000 in
theorem all_each_b {α : Type} (val : α → Value) (cod : α → Int) (okx : MetS → Nat → α → World → Prop) (hokl : ∀ m B B' x W, okx m B x W → B' ≤ B → okx m B' x W)
  (ms : List MetS) (A : Option Addr) (c : Nat) (w0 : World) (hC : kMet.C w0 A ms.length ms) (hin : ∀ m ∈ ms, PE.metIn m = true)
  (hof : ∀ m ∈ ms, ∀ Av cv At ct W, MetC m Av cv At ct W → Calls Try.prog 59 #[.agg #[.string m.f0, .int .i64 m.f1, .slice Av m.f2.length cv, .int .i64 m.f3, .slice At m.f4.length ct, .int .i64 m.f5]] W fun e W' => ∃ x, e = .returned (.tuple #[val x, .int .i64 (cod x)]) ∧ okx m W.heap.size x W' ∧ Below W.heap.size W W')
  (bl bo : Nat) (T : Nat → Prop) (hT : ∀ k, T k → w0.heap.size ≤ k) (hTl : ¬ T bl) (hTo : ¬ T bo) (n : Nat) (w : World) (hb : Below w0.heap.size w0 w)
  (hbl : w.heap[bl]? = some (.cells #[.slice A ms.length c] 42 (0, 0))) (hbo : w.heap[bo]? = some (.cells #[.func (.func 59) #[] #[]] 73 (0, 0))) :
  SeqEach n Try.prog 97 #[.pointer (some ⟨bl, 0, none⟩), .pointer (some ⟨bo, 0, none⟩)] (fun x : α => #[val x, .int .i64 (cod x)])
   (fun pre B x W => ∃ m, ms[pre.length]? = some m ∧ okx m B x W) T (fun xs => xs.length = ms.length ∨ ∃ x ∈ xs, cod x ≠ 0) ms.length w := by
 intro l J Jx W hW hJ hJx hY h0
 have HJ := Aside0.mk hJ
 have HJX := Aside0.mk hJx
 have HY := Aside0.mk hY
 have H0 := Aside0.mk h0
 have HB0 : Aside0 (Below w0.heap.size w0 W) := ⟨hb.trans (hW.mono hb.size)⟩
 have HBL : Aside0 (W.heap[bl]? = some (.cells #[.slice A ms.length c] 42 (0, 0))) := ⟨(hW.block _ (blk_lt hbl)).trans hbl⟩
 have HBO : Aside0 (W.heap[bo]? = some (.cells #[.func (.func 59) #[] #[]] 73 (0, 0))) := ⟨(hW.block _ (blk_lt hbo)).trans hbo⟩
 have HC := Aside0.mk hC
 have HIN := Aside0.mk hin
 have HOF := Aside0.mk hof
 have HOL := Aside0.mk hokl
 have HT : Aside0 ((∀ k, T k → w0.heap.size ≤ k) ∧ ¬ T bl ∧ ¬ T bo) := ⟨hT, hTl, hTo⟩
 clear hJ hJx hY h0 hb hW hbl hbo hC hin hof hokl hT hTl hTo
 obtain ⟨N, hN⟩ : ∃ N, ms.length = N := ⟨_, rfl⟩
 have HN := Aside0.mk hN
 rw [hN] at HBL
 have kl : W.cell? ⟨bl, 0, none⟩ = some (.slice A N c) := (blk_cell HBL.out 0).trans rfl
 clear hN
 refine callsIn_of_wp Try.func97 rfl trivial ?_ rfl
 simp only [Try.ntmps97, List.size_toArray, List.length_cons, List.length_nil, Nat.reduceAdd, Nat.reduceSub, Array.replicate_succ, Array.replicate_zero, List.push_toArray, List.append_toArray, List.nil_append, List.cons_append]
 gi_wp2
 gi_loopw [10] (fun i wr => ∃ (k : Int) (pre : List α), i = .int .i64 k ∧ Aside0 (k = (pre.length : Int)) ∧ Aside0 (pre.length ≤ N ∧ ∀ x ∈ pre, cod x = 0) ∧ Aside0 (J pre wr) ∧ Aside0 (Below w0.heap.size w0 wr) ∧ Aside0 (wr.heap[bl]? = some (.cells #[.slice A N c] 42 (0, 0))) ∧ Aside0 (wr.heap[bo]? = some (.cells #[.func (.func 59) #[] #[]] 73 (0, 0)))) (fun i wr => eaLeft N i)
 case atStart => exact ⟨0, [], rfl, ⟨rfl⟩, ⟨⟨Nat.zero_le _, fun x hx => by cases hx⟩⟩, H0, HB0, HBL, HBO⟩
 case round =>
  clear HBL HBO HB0 H0 kl
  obtain ⟨k, pre, rfl, HK, HP, H0, HB0, HBL, HBO⟩ := hrel
  have hk := HK.out
  by_cases hlt : pre.length < N
  ·have hi0 : 0 ≤ k := by omega
   have hi1 : k < (N : Int) := by omega
   have hd : decide (k < (N : Int)) = true := decide_eq_true hi1
   have hd0 : decide (0 ≤ k) = true := decide_eq_true hi0
   obtain ⟨ad, A2, c2, A4, c4, e0, x0, x1, x2, x3, x4, x5, l2, i2, l4, i4⟩ := at_T25 (Kd.C_below HC.out HB0.out) k hi0 (by rw [HN.out]; exact hi1)
   cases e0
   obtain ⟨m, hm⟩ : ∃ m, rd_T25 ms k = m := ⟨_, rfl⟩
   have hget : ms[pre.length]? = some m := by
    rw [← hm]
    unfold rd_T25
    rw [hk, Int.toNat_natCast, List.getD_eq_getElem?_getD, List.getElem?_eq_getElem (by rw [HN.out]; exact hlt)]
    rfl
   have hmem : m ∈ ms := List.mem_of_getElem? hget
   rw [hm] at x0 x1 x2 x3 x4 x5 l2 i2 l4 i4
   clear hm
   have HGET := Aside0.mk hget
   have HMC := Aside0.mk (PE.metC_of i2 l2 i4 l4 (HIN.out m hmem))
   have HCALL := Aside0.mk (fun W hW => HOF.out m hmem A2 c2 A4 c4 W (HMC.out.below hW))
   have kl : wr.cell? ⟨bl, 0, none⟩ = some (.slice (some ad) N c) := (blk_cell HBL.out 0).trans rfl
   have ko : (wr.alloc (.cells #[.string m.f0, .int .i64 m.f1, .slice A2 m.f2.length c2, .int .i64 m.f3, .slice A4 m.f4.length c4, .int .i64 m.f5] 25)).cell? ⟨bo, 0, none⟩ = some (.func (.func 59) #[] #[]) := (blk_cell (blk_alloc HBO.out _) 0).trans rfl
   have HLT := Aside0.mk hlt
   have HKK := Aside0.mk hk
   have hadd : wrap64 (k + 1) = k + 1 := by
    unfold wrap64
    have := HC.out.2.1
    have := HN.out
    omega
   clear i2 l2 i4 l4 hget hmem hlt hk
   gi_wp2_with fail
   refine (callsIn_wide.2 (HCALL.out _ (below_alloc (Below.refl _ _) _))).mono ?_
   rintro e w1 ⟨x, rfl, hox, hb1⟩
   have hbw : Below wr.heap.size wr w1 := below_step (below_alloc (Below.refl _ _) _) hb1
   obtain ⟨fn, tmps, assign, body, hy, hR⟩ := HY.out pre x wr w1 H0.out hbw ⟨m, HGET.out, HOL.out _ _ _ _ _ hox (by simp)⟩ (by rw [HN.out]; exact HLT.out)
   try dsimp only at hy
   have HRR := Aside0.mk hR
   have HBW := Aside0.mk hbw
   clear hR hox hbw hb1
   gi_wp2_with fail
   refine (ea_round HRR.out).mono ?_
   clear hy HRR
   have hb0 : Below w0.heap.size w0 w1 := HB0.out.trans (HBW.out.mono HB0.out.size)
   have hbl1 : w1.heap[bl]? = some (.cells #[.slice (some ad) N c] 42 (0, 0)) := (HBW.out.block _ (blk_lt HBL.out)).trans HBL.out
   have hbo1 : w1.heap[bo]? = some (.cells #[.func (.func 59) #[] #[]] 73 (0, 0)) := (HBW.out.block _ (blk_lt HBO.out)).trans HBO.out
   have HB1 := Aside0.mk hb0
   have HBL1 := Aside0.mk hbl1
   have HBO1 := Aside0.mk hbo1
   clear HCALL HBL HBO HB0 hb0 hbl1 hbo1 kl ko x0 x1 x2 x3 x4 x5 HMC
   rintro e W5 (⟨rfl, hJ5, hk5⟩ | ⟨rfl, hJ5⟩)
   ·have HJ5 := Aside0.mk hJ5
    have HB5 : Aside0 (Below w0.heap.size w0 W5) := ⟨HB1.out.trans (hk5.to_below (fun k hk => HT.out.1 k hk) HB1.out.size)⟩
    have HBL5 : Aside0 (W5.heap[bl]? = some (.cells #[.slice (some ad) N c] 42 (0, 0))) := ⟨(hk5.block _ (blk_lt HBL1.out) HT.out.2.1).trans HBL1.out⟩
    have HBO5 : Aside0 (W5.heap[bo]? = some (.cells #[.func (.func 59) #[] #[]] 73 (0, 0))) := ⟨(hk5.block _ (blk_lt HBO1.out) HT.out.2.2).trans HBO1.out⟩
    clear hJ5 hk5
    by_cases hc : cod x = 0
    ·have hcb : (cod x != 0) = false := bne_eq_false_iff_eq.mpr hc
     have HCX := Aside0.mk hc
     clear hc
     gi_wp2
     go_roundw
     case rel => exact ⟨k + 1, pre ++ [x], by rw [hadd], ⟨by rw [HKK.out]; simp⟩, ⟨by have := HLT.out; simp only [List.length_append, List.length_singleton]; omega, by
      intro y hy
      rcases List.mem_append.mp hy with hy | hy
      ·exact HP.out.2 y hy
      ·rw [List.mem_singleton.mp hy]; exact HCX.out⟩, HJ5, HB5, HBL5, HBO5⟩
     case measure => rw [hadd]; show N - (k + 1).toNat < N - k.toNat; omega
    ·have hcb : (cod x != 0) = true := bne_iff_ne.mpr hc
     have HCX := Aside0.mk hc
     clear hc
     gi_wp2
     refine bodyPost_ret (results_none rfl _ _ _) rfl ?_
     exact ⟨⟨_, rfl⟩, .inl ⟨pre ++ [x], .inr ⟨x, by simp, HCX.out⟩, HJ5.out⟩⟩
   ·gi_wp2
    refine bodyPost_ret (results_none rfl _ _ _) rfl ?_
    exact ⟨⟨_, rfl⟩, .inr ⟨_, hJ5⟩⟩
  ·have hd : decide (k < (N : Int)) = false := decide_eq_false (by omega)
   have hpn : pre.length = N := Nat.le_antisymm HP.out.1 (Nat.not_lt.mp hlt)
   have HPN := Aside0.mk hpn
   clear hlt hk hpn
   gi_wp2
   go_end0
   exact ⟨⟨_, rfl⟩, .inl ⟨pre, .inl (by rw [HN.out]; exact HPN.out), H0.out⟩⟩
theorem allc_b (A : Option Addr) (n c g : Nat) (w : World) : Calls Try.prog 83 #[.slice A n c, .func (.func g) #[] #[]] w fun e w' => e = .returned (.func (.func 97) #[] #[.pointer (some ⟨w.heap.size, 0, none⟩), .pointer (some ⟨w.heap.size + 1, 0, none⟩)]) ∧ w' = (w.alloc (.cells #[.slice A n c] 42)).alloc (.cells #[.func (.func g) #[] #[]] 73) := by
 go_enter Try.func83, Try.ntmps83
 go_wp2
 go_ret
 exact ⟨rfl, rfl⟩
theorem info_bool : (Try.prog.info? 4).map (fun i => (i.zero, i.size, i.bytes)) = some (some (.bool false), 1, 1) := by kernel_rfl
abbrev kBool : Kd Bool := Kd.scalar Value.bool (fun _ => rfl)
structure EachB (ms : List MetS) (w : World) (pre : List Int) (W : World) : Prop where
 bel : Below w.heap.size w W
 sz : w.heap.size + 6 ≤ W.heap.size
 r4 : W.heap[w.heap.size]? = some (.cells #[.slice none 0 0] 70 (0, 0))
 r5 : W.heap[w.heap.size + 1]? = some (.cells #[.int .i64 0] 3 (0, 0))
 r6 : W.heap[w.heap.size + 1 + 1]? = some (.cells #[.int .i64 0] 28 (0, 0))
 out : ∃ v, W.heap[w.heap.size + 1 + 1 + 1]? = some (.cells #[v] 70 (0, 0)) ∧ kBool.R 4 W (w.heap.size + 6) (fun _ => True) v (pre.map fun _ => true)
 len : pre.length ≤ ms.length
 eq : pre = (ms.take pre.length).map metBad
 ok : ∀ x ∈ pre, x = 0
structure EachBx (ms : List MetS) (w : World) (W : World) : Prop where
 bel : Below w.heap.size w W
 r4 : W.heap[w.heap.size]? = some (.cells #[.slice none 0 0] 70 (0, 0))
 r5 : W.heap[w.heap.size + 1]? = some (.cells #[.int .i64 (batGo metBad ms 0).1] 3 (0, 0))
 r6 : W.heap[w.heap.size + 1 + 1]? = some (.cells #[.int .i64 (batGo metBad ms 0).2] 28 (0, 0))
theorem EachB.grow {ms : List MetS} {w : World} {pre : List Int} {A A' : World} (h : EachB ms w pre A) (hb : Below A.heap.size A A') : EachB ms w pre A' where
 bel := below_step h.bel hb
 sz := Nat.le_trans h.sz hb.size
 r4 := (hb.block _ (blk_lt h.r4)).trans h.r4
 r5 := (hb.block _ (blk_lt h.r5)).trans h.r5
 r6 := (hb.block _ (blk_lt h.r6)).trans h.r6
 out := by
  obtain ⟨v, h1, h2⟩ := h.out
  exact ⟨v, (hb.block _ (blk_lt h1)).trans h1, Kd.R_below h2 hb⟩
 len := h.len
 eq := h.eq
 ok := h.ok
theorem EachBx.grow {ms : List MetS} {w : World} {A A' : World} (h : EachBx ms w A) (hb : Below A.heap.size A A') : EachBx ms w A' where
 bel := below_step h.bel hb
 r4 := (hb.block _ (blk_lt h.r4)).trans h.r4
 r5 := (hb.block _ (blk_lt h.r5)).trans h.r5
 r6 := (hb.block _ (blk_lt h.r6)).trans h.r6
theorem blk_faro {w : World} {g : Nat} {t : TypeId} {cs : Array Value} (h : w.heap[g]? = some (.cells cs t (0, 0))) {g' i : Nat} (hp : g ≠ g') (u : Value) : (w.setCell ⟨g', i, none⟩ u).heap[g]? = some (.cells cs t (0, 0)) := blk_far h hp u
theorem blk_putOther {W : World} {k r : Nat} {cs : Array Value} {t : TypeId} {o o' : Obj} (h : W.heap[k]? = some (.cells cs t (0, 0))) (ho : W.heap[r]? = some o) (hc : o.isCells = false) : (W.putObj r o').heap[k]? = some (.cells cs t (0, 0)) := by
 refine (World.putObj_heap_other ?_).trans h
 rintro rfl
 rw [ho] at h
 cases h
 cases hc
theorem below_putObj {B : Nat} {w W : World} (h : Below B w W) {r : Nat} (hr : B ≤ r) (o : Obj) : Below B w (W.putObj r o) :=
 ⟨h.os, h.tape, h.output, by rw [World.putObj_size]; exact h.size, fun k hk => (World.putObj_heap_other (by omega)).trans (h.block k hk)⟩
theorem R_putOther {α : Type} {d : Kd α} {e base : Nat} {ok : Nat → Prop} {W : World} {v : Value} {xs : List α} (h : d.R e W base ok v xs) {r : Nat} {o o' : Obj} (ho : W.heap[r]? = some o) (hc : o.isCells = false) : d.R e (W.putObj r o') base ok v xs := by
 refine Kd.R_mono (Kd.R_move (Kd.R_bound h) (fun k hk => ?_)) (fun k hk => hk.1)
 obtain ⟨_, _, _, q, _, cells, hcell⟩ := hk
 refine World.putObj_heap_other ?_
 rintro rfl
 rw [ho] at hcell
 cases hcell
 cases hc
theorem EachB.put {ms : List MetS} {w : World} {pre : List Int} {A : World} (h : EachB ms w pre A) {r : Nat} {o o' : Obj} (hr : w.heap.size ≤ r) (ho : A.heap[r]? = some o) (hc : o.isCells = false) : EachB ms w pre (A.putObj r o') where
 bel := below_putObj h.bel hr _
 sz := by rw [World.putObj_size]; exact h.sz
 r4 := blk_putOther h.r4 ho hc
 r5 := blk_putOther h.r5 ho hc
 r6 := blk_putOther h.r6 ho hc
 out := by
  obtain ⟨v, h1, h2⟩ := h.out
  exact ⟨v, blk_putOther h1 ho hc, R_putOther h2 ho hc⟩
 len := h.len
 eq := h.eq
 ok := h.ok
theorem EachBx.put {ms : List MetS} {w : World} {A : World} (h : EachBx ms w A) {r : Nat} {o o' : Obj} (hr : w.heap.size ≤ r) (ho : A.heap[r]? = some o) (hc : o.isCells = false) : EachBx ms w (A.putObj r o') where
 bel := below_putObj h.bel hr _
 r4 := blk_putOther h.r4 ho hc
 r5 := blk_putOther h.r5 ho hc
 r6 := blk_putOther h.r6 ho hc
theorem batGo_ok (of : MetS → Int) : ∀ (l : List MetS) (i : Int), (∀ m ∈ l, of m = 0) → batGo of l i = (0, 0)
 | [], _, _ => rfl
 | m :: l, i, h => by
  unfold batGo
  rw [if_pos (h m (by simp))]
  exact batGo_ok of l _ (fun x hx => h x (by simp [hx]))
theorem batGo_at (of : MetS → Int) : ∀ (l : List MetS) (i : Int) (k : Nat) (m : MetS), l[k]? = some m → (∀ x ∈ l.take k, of x = 0) → of m ≠ 0 → batGo of l i = (i + k, of m)
 | [], _, _, _, h, _, _ => by simp at h
 | m0 :: l, i, 0, m, h, _, hm => by
  simp at h
  subst h
  unfold batGo
  rw [if_neg hm]
  simp
 | m0 :: l, i, k + 1, m, h, hl, hm => by
  unfold batGo
  rw [if_pos (hl m0 (by simp))]
  rw [batGo_at of l (i + 1) k m (by simpa using h) (fun x hx => hl x (by simp [hx])) hm]
  congr 1
  omega
theorem each_results {a : Act} {W : World} {b4 b5 b6 : Nat} {v4 v5 v6 : Value} (h4 : a.eval (.tmp 4) = .pointer (some ⟨b4, 0, none⟩)) (h5 : a.eval (.tmp 5) = .pointer (some ⟨b5, 0, none⟩)) (h6 : a.eval (.tmp 6) = .pointer (some ⟨b6, 0, none⟩))
  (q4 : W.heap[b4]? = some (.cells #[v4] 70 (0, 0))) (q5 : W.heap[b5]? = some (.cells #[v5] 3 (0, 0))) (q6 : W.heap[b6]? = some (.cells #[v6] 28 (0, 0))) :
  Sem.run Try.prog (results Try.f58 a.tmps) W = .ok (.tuple #[v4, v5, v6]) W := by
 have c4 : W.cell? ⟨b4, 0, none⟩ = some v4 := (blk_cell q4 0).trans rfl
 have c5 : W.cell? ⟨b5, 0, none⟩ = some v5 := (blk_cell q5 0).trans rfl
 have c6 : W.cell? ⟨b6, 0, none⟩ = some v6 := (blk_cell q6 0).trans rfl
 have k4 : a.tmps[4]?.getD undef = .pointer (some ⟨b4, 0, none⟩) := by rw [← Array.getD_eq_getD_getElem?]; exact h4
 have k5 : a.tmps[5]?.getD undef = .pointer (some ⟨b5, 0, none⟩) := by rw [← Array.getD_eq_getD_getElem?]; exact h5
 have k6 : a.tmps[6]?.getD undef = .pointer (some ⟨b6, 0, none⟩) := by rw [← Array.getD_eq_getD_getElem?]; exact h6
 simp [results, Try.results58, go_sem, k4, k5, k6, c4, c5, c6]
set_option maxHeartbeats 4000000 in
set_option maxRecDepth 100000 in
theorem checkfn_calls (m : MetS) (Av : Option Addr) (cv : Nat) (At : Option Addr) (ct : Nat) (w : World) (hm : MetC m Av cv At ct w) :
  Calls Try.prog 59 #[.agg #[.string m.f0, .int .i64 m.f1, .slice Av m.f2.length cv, .int .i64 m.f3, .slice At m.f4.length ct, .int .i64 m.f5]] w fun e w' => e = .returned (.tuple #[.bool true, .int .i64 (metBad m)]) ∧ Below w.heap.size w w' := by
 have HK := Aside0.mk (fun W hW => mcheck_calls m Av cv At ct W (hm.below hW))
 have HB := Aside0.mk (below_alloc (Below.refl w.heap.size w) (.cells #[.string m.f0, .int .i64 m.f1, .slice Av m.f2.length cv, .int .i64 m.f3, .slice At m.f4.length ct, .int .i64 m.f5] 25 (0, 0)))
 clear hm
 go_enter Try.func59, Try.ntmps59
 go_wp2_with fail
 refine (HK.out _ HB.out).mono ?_
 rintro e w1 ⟨rfl, hb⟩
 go_wp2
 go_ret2
 exact ⟨rfl, below_step HB.out hb⟩
set_option maxHeartbeats 4000000 in
set_option maxRecDepth 100000 in
theorem eachb_calls (ms : List MetS) (A : Option Addr) (c : Nat) (w : World) (hC : kMet.C w A ms.length ms) (hin : ∀ m ∈ ms, PE.metIn m = true) :
  Calls Try.prog 58 #[.slice A ms.length c, .func (.func 59) #[] #[]] w fun e w' => ∃ v, e = .returned (.tuple #[v, .int .i64 (batBad ms).1, .int .i64 (batBad ms).2]) ∧ Below w.heap.size w w' := by
 have HC := Aside0.mk hC
 have HIN := Aside0.mk hin
 have HNM := hC.2.1
 clear hC hin
 by_cases hbig : 1000 < (ms.length : Int)
 ·have hd : decide ((ms.length : Int) > 1000) = true := decide_eq_true hbig
  have hd1 : decide (1000 < (ms.length : Int)) = true := decide_eq_true hbig
  have hd2 : decide (1000 < ms.length) = true := decide_eq_true (by omega)
  have HE : Aside0 (batBad ms = (1000, 12)) := ⟨if_pos hbig⟩
  clear hbig
  go_enter Try.func58, Try.ntmps58
  go_wp2
  have q4 : (((w.alloc (.cells #[.slice none 0 0] 70)).alloc (.cells #[.int .i64 1000] 3)).alloc (.cells #[.int .i64 12] 28)).heap[w.heap.size]? = some (.cells #[.slice none 0 0] 70 (0, 0)) := blk_alloc (blk_alloc (blk_new w _) _) _
  have q5 : (((w.alloc (.cells #[.slice none 0 0] 70)).alloc (.cells #[.int .i64 1000] 3)).alloc (.cells #[.int .i64 12] 28)).heap[w.heap.size + 1]? = some (.cells #[.int .i64 1000] 3 (0, 0)) := by
   have := blk_alloc (blk_new (w.alloc (.cells #[.slice none 0 0] 70)) (.cells #[.int .i64 1000] 3)) (.cells #[.int .i64 12] 28)
   rwa [World.size_alloc] at this
  have q6 : (((w.alloc (.cells #[.slice none 0 0] 70)).alloc (.cells #[.int .i64 1000] 3)).alloc (.cells #[.int .i64 12] 28)).heap[w.heap.size + 1 + 1]? = some (.cells #[.int .i64 12] 28 (0, 0)) := by
   have := blk_new ((w.alloc (.cells #[.slice none 0 0] 70)).alloc (.cells #[.int .i64 1000] 3)) (.cells #[.int .i64 12] 28)
   rwa [World.size_alloc, World.size_alloc] at this
  refine bodyPost_ret (each_results (v4 := .slice none 0 0) (v5 := .int .i64 1000) (v6 := .int .i64 12) rfl rfl rfl q4 q5 q6) rfl ?_
  rw [HE.out]
  exact ⟨_, rfl, below_alloc (below_alloc (below_alloc (Below.refl _ _) _) _) _⟩
 ·have hd : decide ((ms.length : Int) > 1000) = false := decide_eq_false hbig
  have hd1 : decide (1000 < (ms.length : Int)) = false := decide_eq_false hbig
  have hd2 : decide (1000 < ms.length) = false := decide_eq_false (by omega)
  have HE : Aside0 (batBad ms = batGo metBad ms 0) := ⟨if_neg hbig⟩
  have HBIG := Aside0.mk hbig
  clear hbig
  obtain ⟨N, hN⟩ : ∃ N, ms.length = N := ⟨_, rfl⟩
  rw [hN] at hd hd1 hd2 HNM
  have HN := Aside0.mk hN
  have HNMX := Aside0.mk HNM
  rw [hN]
  clear hN HNM
  refine (callsIn_wide (n := 0)).1 ?_
  refine callsIn_of_wp_marks Try.func58 rfl trivial ?_ rfl
  simp only [Try.ntmps58, List.size_toArray, List.length_cons, List.length_nil, Nat.reduceAdd, Nat.reduceSub, Array.replicate_succ, Array.replicate_zero, List.push_toArray, List.append_toArray, List.nil_append, List.cons_append]
  gi_wp2_with fail
  refine (callsIn_wide.2 (allc_b _ _ _ _ _)).mono ?_
  rintro e w1 ⟨rfl, rfl⟩
  gi_wp2_with fail
  obtain ⟨W0, hW0⟩ : ∃ W0, ((((((w.alloc (.cells #[.slice none 0 0] 70)).alloc (.cells #[.int .i64 0] 3)).alloc (.cells #[.int .i64 0] 28)).alloc (.cells #[.slice none 0 0] 70)).alloc (.cells #[.slice A N c] 42)).alloc (.cells #[.func (.func 59) #[] #[]] 73)) = W0 := ⟨_, rfl⟩
  rw [hW0]
  have hbl : Below w.heap.size w W0 := by rw [← hW0]; exact below_alloc (below_alloc (below_alloc (below_alloc (below_alloc (below_alloc (Below.refl _ _) _) _) _) _) _) _
  have hs : W0.heap.size = w.heap.size + 6 := by rw [← hW0]; simp only [World.size_alloc]
  have q4 : W0.heap[w.heap.size]? = some (.cells #[.slice none 0 0] 70 (0, 0)) := by rw [← hW0]; exact blk_alloc (blk_alloc (blk_alloc (blk_alloc (blk_alloc (blk_new w _) _) _) _) _) _
  have q5 : W0.heap[w.heap.size + 1]? = some (.cells #[.int .i64 0] 3 (0, 0)) := by
   rw [← hW0]
   have := blk_new (w.alloc (.cells #[.slice none 0 0] 70)) (.cells #[.int .i64 0] 3)
   simp only [World.size_alloc] at this
   exact blk_alloc (blk_alloc (blk_alloc (blk_alloc this _) _) _) _
  have q6 : W0.heap[w.heap.size + 1 + 1]? = some (.cells #[.int .i64 0] 28 (0, 0)) := by
   rw [← hW0]
   have := blk_new ((w.alloc (.cells #[.slice none 0 0] 70)).alloc (.cells #[.int .i64 0] 3)) (.cells #[.int .i64 0] 28)
   simp only [World.size_alloc] at this
   exact blk_alloc (blk_alloc (blk_alloc this _) _) _
  have q7 : W0.heap[w.heap.size + 1 + 1 + 1]? = some (.cells #[.slice none 0 0] 70 (0, 0)) := by
   rw [← hW0]
   have := blk_new (((w.alloc (.cells #[.slice none 0 0] 70)).alloc (.cells #[.int .i64 0] 3)).alloc (.cells #[.int .i64 0] 28)) (.cells #[.slice none 0 0] 70)
   simp only [World.size_alloc] at this
   exact blk_alloc (blk_alloc this _) _
  have q8 : W0.heap[w.heap.size + 1 + 1 + 1 + 1]? = some (.cells #[.slice A ms.length c] 42 (0, 0)) := by
   rw [← hW0, HN.out]
   have := blk_new ((((w.alloc (.cells #[.slice none 0 0] 70)).alloc (.cells #[.int .i64 0] 3)).alloc (.cells #[.int .i64 0] 28)).alloc (.cells #[.slice none 0 0] 70)) (.cells #[.slice A N c] 42)
   simp only [World.size_alloc] at this
   exact blk_alloc this _
  have q9 : W0.heap[w.heap.size + 1 + 1 + 1 + 1 + 1]? = some (.cells #[.func (.func 59) #[] #[]] 73 (0, 0)) := by
   rw [← hW0]
   have := blk_new (((((w.alloc (.cells #[.slice none 0 0] 70)).alloc (.cells #[.int .i64 0] 3)).alloc (.cells #[.int .i64 0] 28)).alloc (.cells #[.slice none 0 0] 70)).alloc (.cells #[.slice A N c] 42)) (.cells #[.func (.func 59) #[] #[]] 73)
   simp only [World.size_alloc] at this
   exact this
  have HI0 : Aside0 (EachB ms w [] W0) := ⟨⟨hbl, by omega, q4, q5, q6, ⟨_, q7, Kd.R_nil _ _ _ _ _⟩, Nat.zero_le _, rfl, fun x hx => by cases hx⟩⟩
  have HS := Aside0.mk hs
  have HQ8 := Aside0.mk q8
  have HQ9 := Aside0.mk q9
  have HBL := Aside0.mk hbl
  clear hW0 hbl hs q4 q5 q6 q7 q8 q9
  refine range_each (α := Int) (gf := 97) (lb := #[.pointer (some ⟨w.heap.size + 1 + 1 + 1 + 1, 0, none⟩), .pointer (some ⟨w.heap.size + 1 + 1 + 1 + 1 + 1, 0, none⟩)]) rfl (enters_of Try.func97 (by kernel_rfl) rfl)
   (T := fun k => k = w.heap.size + 1 + 1 + 1 ∨ W0.heap.size ≤ k) (fun k hk => .inr hk) (fun pre B x W W' h _ => h)
   (all_each_b (fun _ => .bool true) (fun c => c) (fun m B x W => x = metBad m) (fun _ _ _ _ _ h _ => h) ms A c w HC.out HIN.out ?of (w.heap.size + 1 + 1 + 1 + 1) (w.heap.size + 1 + 1 + 1 + 1 + 1)
    (fun k => k = w.heap.size + 1 + 1 + 1 ∨ W0.heap.size ≤ k) (fun k hk => by have := HS.out; omega) (by have := HS.out; omega) (by have := HS.out; omega) 0 W0 HBL.out HQ8.out HQ9.out)
   (fun _ => rfl) (fun pre B W => EachB ms w pre W) (fun s B A A' h hb => h.grow hb) (fun s B B' A h _ => h) (fun s B A r o o' h hr ho hc => h.put (by have := HS.out; omega) ho hc)
   (fun c s W => c = .ret ∧ EachBx ms w W) (fun c s A A' h hb => ⟨h.1, h.2.grow hb⟩) (fun c s A r o o' h hr ho hc => ⟨h.1, h.2.put (by have := HS.out; omega) ho hc⟩) HI0.out
   (fun x => { tmps := #[.slice A N c, .func (.func 59) #[] #[], undef, undef, .pointer (some ⟨w.heap.size, 0, none⟩), .pointer (some ⟨w.heap.size + 1, 0, none⟩), .pointer (some ⟨w.heap.size + 1 + 1, 0, none⟩), .pointer (some ⟨w.heap.size + 1 + 1 + 1, 0, none⟩), .bool true, .int .i64 x, .slice A N c, .int .i64 N, .bool false, .slice A N c, .func (.func 59) #[] #[], .func (.func 97) #[] #[.pointer (some ⟨w.heap.size + 1 + 1 + 1 + 1, 0, none⟩), .pointer (some ⟨w.heap.size + 1 + 1 + 1 + 1 + 1, 0, none⟩)], .bool true, .int .i64 x, undef, undef, undef, undef, undef, undef, undef, undef, undef, undef], defers := [] }) ?assign ?body ?done ?stop
  case of =>
   intro m hm Av cv At ct W hmc
   exact (checkfn_calls m Av cv At ct W hmc).mono (by rintro e W' ⟨rfl, hb⟩; exact ⟨_, rfl, rfl, hb⟩)
  case assign =>
   intro l x W K hK
   gi_wp2
   exact hK
  case body =>
   rintro l pre B x W hi ⟨m, hm, rfl⟩ hB hpn
   obtain ⟨v, h7, hr⟩ := hi.out
   obtain ⟨A2, c2, hv2, hcc2, hC2⟩ := Kd.R_reads hr
   rw [List.length_map] at hv2 hcc2 hC2
   subst hv2
   have k7 : W.cell? ⟨w.heap.size + 1 + 1 + 1, 0, none⟩ = some (.slice A2 pre.length c2) := (blk_cell h7 0).trans rfl
   have f4 := blk_frozen hi.r4 0
   have f5 := blk_frozen hi.r5 0
   have f6 := blk_frozen hi.r6 0
   have f7 := blk_frozen h7 0
   have k4 : W.cell? ⟨w.heap.size, 0, none⟩ = some (.slice none 0 0) := (blk_cell hi.r4 0).trans rfl
   have k5 : W.cell? ⟨w.heap.size + 1, 0, none⟩ = some (.int .i64 0) := (blk_cell hi.r5 0).trans rfl
   have k6 : W.cell? ⟨w.heap.size + 1 + 1, 0, none⟩ = some (.int .i64 0) := (blk_cell hi.r6 0).trans rfl
   have HI := Aside0.mk hi
   have HM := Aside0.mk hm
   have H7 := Aside0.mk h7
   have HR := Aside0.mk hr
   have HPN := Aside0.mk hpn
   have HB0 : Aside0 (W0.heap.size ≤ W.heap.size) := ⟨by rw [HS.out]; exact hi.sz⟩
   obtain ⟨x, hx⟩ : ∃ x, metBad m = x := ⟨_, rfl⟩
   rw [hx]
   have HX := Aside0.mk hx
   clear hi hm h7 hr hx hcc2 hC2 hB hpn
   by_cases hx0 : x = 0
   ·have hxb : (x != 0) = false := bne_eq_false_iff_eq.mpr hx0
    have HX0 := Aside0.mk hx0
    clear hx0
    have HLB : Aside0 (((pre.map fun _ => true).length + 1) * 1 ≤ 140737488355328) := ⟨by have := HPN.out; have := HBIG.out; simp only [List.length_map]; omega⟩
    have HBS : Aside0 (w.heap.size + 6 ≤ W.heap.size) := ⟨by have := HB0.out; have := HS.out; omega⟩
    gi_wp2_with (gi_at_builtin; refine ea_append kBool (w.heap.size + 6) rfl (.tmp 23) (.tmp 25) 70 4 (.bool false) 1 rfl (by kernel_rfl) info_bool rfl (by decide) (by decide) (.slice A2 pre.length c2) (pre.map fun _ => true) true [.bool true] (fun _ => True) (fun _ => False) rfl rfl rfl (fun k hk => hk.elim) (fun _ _ => trivial) HR.out HBS.out HLB.out ?_; intro v1 w2 hr1 hg1 hat1; obtain ⟨A3, c3, hv3, hcc3, hC3⟩ := Kd.R_reads hr1; obtain ⟨L3, hL3⟩ : ∃ L3, ((pre.map fun _ => true) ++ [true]).length = L3 := ⟨_, rfl⟩; rw [hL3] at hv3; subst hv3; have HR1 := Aside0.mk hr1; have HG1 := Aside0.mk hg1; have HAT := Aside0.mk hat1; have hbo2 := (hg1.block _ (blk_lt H7.out) (Kd.R_ne HR.out H7.out (by decide))).trans H7.out; have HBO2 := Aside0.mk hbo2; have kb2 : w2.cell? ⟨w.heap.size + 1 + 1 + 1, 0, none⟩ = some (.slice A2 pre.length c2) := (blk_cell hbo2 0).trans rfl; have fb2 := blk_frozen hbo2 0; clear hr1 hg1 hat1 hcc3 hC3 hL3 hbo2)
    have hvb : ∀ k, (Value.slice A2 pre.length c2).ownBlock = some k → w.heap.size + 6 ≤ k := fun k hk => Kd.R_base HR.out k hk
    have hct : Chg (fun k => k = w.heap.size + 1 + 1 + 1 ∨ W0.heap.size ≤ k) W (w2.setCell ⟨w.heap.size + 1 + 1 + 1, 0, none⟩ (.slice A3 L3 c3)) :=
     ea_setCell (ea_grown HG1.out (fun k hk => .inr (by rw [HS.out]; exact hvb k hk))) (.inl (.inl rfl)) _
    have hkb : Below w.heap.size w (w2.setCell ⟨w.heap.size + 1 + 1 + 1, 0, none⟩ (.slice A3 L3 c3)) := HI.out.bel.trans (hct.to_below (fun k hk => by have := HS.out; omega) HI.out.bel.size)
    have hold : ∀ k, k < w.heap.size + 6 → k ≠ w.heap.size + 1 + 1 + 1 → (w2.setCell ⟨w.heap.size + 1 + 1 + 1, 0, none⟩ (.slice A3 L3 c3)).heap[k]? = W.heap[k]? := fun k hk hne => hct.block k (by have := HBS.out; omega) (by have := HS.out; omega)
    refine ⟨?_, ⟨hkb, ?_, ?_, ?_, ?_, ⟨.slice A3 L3 c3, ?_, ?_⟩, ?_, ?_, ?_⟩, hct⟩
    ·refine (KeepsOthers.of_grownBy HG1.out (fun j o e ho => ?_)).trans (KeepsOthers.setCell _ _ _)
     obtain ⟨inner, hown⟩ := Kd.R_own HR.out
     obtain ⟨cells, hc⟩ := own_typed hown j e
     rw [hc] at ho
     cases ho
     rfl
    ·exact Nat.le_trans HBS.out hct.size
    ·exact (hold _ (by omega) (by omega)).trans HI.out.r4
    ·exact (hold _ (by omega) (by omega)).trans HI.out.r5
    ·exact (hold _ (by omega) (by omega)).trans HI.out.r6
    ·exact (blk_put HBO2.out 0 _ rfl).trans rfl
    ·rw [List.map_append]
     exact Kd.R_set HR1.out HBO2.out (by decide) 0 _
    ·have := HPN.out
     simp only [List.length_append, List.length_singleton]
     omega
    ·rw [List.length_append, List.length_singleton, List.take_add_one, HM.out, List.map_append, ← HI.out.eq]
     simp [HX.out]
    ·intro y hy
     rcases List.mem_append.mp hy with hy | hy
     ·exact HI.out.ok y hy
     ·rw [List.mem_singleton.mp hy]; exact HX0.out
   ·have hxb : (x != 0) = true := bne_iff_ne.mpr hx0
    have HX0 := Aside0.mk hx0
    clear hx0
    have hb1 : Chg (fun k => k = w.heap.size ∨ k = w.heap.size + 1 ∨ k = w.heap.size + 1 + 1) W (((W.setCell ⟨w.heap.size, 0, none⟩ (.slice none 0 0)).setCell ⟨w.heap.size + 1, 0, none⟩ (.int .i64 pre.length)).setCell ⟨w.heap.size + 1 + 1, 0, none⟩ (.int .i64 x)).drew :=
     Chg.drew (ea_setCell (ea_setCell (ea_setCell (Chg.refl _ _) (.inl (.inl rfl)) _) (.inl (.inr (.inl rfl))) _) (.inl (.inr (.inr rfl))) _)
    have hgo : batGo metBad ms 0 = ((pre.length : Int), x) := by
     rw [batGo_at metBad ms 0 pre.length m HM.out (fun y hy => ?_) (by rw [HX.out]; exact HX0.out), HX.out]
     ·congr 1; omega
     ·exact HI.out.ok _ (by rw [HI.out.eq]; exact List.mem_map_of_mem hy)
    have hfin : KeepsOthers W (((W.setCell ⟨w.heap.size, 0, none⟩ (.slice none 0 0)).setCell ⟨w.heap.size + 1, 0, none⟩ (.int .i64 pre.length)).setCell ⟨w.heap.size + 1 + 1, 0, none⟩ (.int .i64 x)).drew ∧ (EachBx ms w (((W.setCell ⟨w.heap.size, 0, none⟩ (.slice none 0 0)).setCell ⟨w.heap.size + 1, 0, none⟩ (.int .i64 pre.length)).setCell ⟨w.heap.size + 1 + 1, 0, none⟩ (.int .i64 x)).drew) := by
     refine ⟨((KeepsOthers.setCell _ _ _).trans (KeepsOthers.setCell _ _ _)).trans ((KeepsOthers.setCell _ _ _).trans (KeepsOthers.drew _)), HI.out.bel.trans (hb1.to_below (fun k hk => by omega) HI.out.bel.size), ?_, ?_, ?_⟩
     ·refine blk_drew (blk_faro (blk_faro ((blk_put HI.out.r4 0 _ rfl).trans rfl) ?_ _) ?_ _) <;> omega
     ·rw [hgo]
      refine blk_drew (blk_faro ((blk_put (blk_faro HI.out.r5 ?_ _) 0 _ rfl).trans rfl) ?_ _) <;> omega
     ·rw [hgo]
      refine blk_drew ((blk_put (blk_faro (blk_faro HI.out.r6 ?_ _) ?_ _) 0 _ rfl).trans rfl) <;> omega
    have HF := Aside0.mk hfin
    clear hfin hgo hb1
    gi_wp2
    gi_region
    all_goals gi_wp2
    all_goals exact ⟨HF.out.1, rfl, HF.out.2⟩
  case done =>
   rintro D xs W hD hS hi hDef
   obtain ⟨v, h7, hr⟩ := hi.out
   obtain ⟨A2, c2, hv2, hcc2, hC2⟩ := Kd.R_reads hr
   rw [List.length_map] at hv2 hcc2 hC2
   subst hv2
   have hlen : xs.length = ms.length := by
    rcases hS with h | ⟨x, hx, hn⟩
    ·exact h
    ·exact absurd (hi.ok x hx) hn
   have hgo : batGo metBad ms 0 = (0, 0) := batGo_ok _ _ _ (fun m hm => hi.ok _ (by rw [hi.eq, hlen, List.take_length]; exact List.mem_map_of_mem hm))
   have HGO := Aside0.mk hgo
   have k7 : W.cell? ⟨w.heap.size + 1 + 1 + 1, 0, none⟩ = some (.slice A2 xs.length c2) := (blk_cell h7 0).trans rfl
   have f4 := blk_frozen hi.r4 0
   have f5 := blk_frozen hi.r5 0
   have f6 := blk_frozen hi.r6 0
   have k4 : W.cell? ⟨w.heap.size, 0, none⟩ = some (.slice none 0 0) := (blk_cell hi.r4 0).trans rfl
   have k5 : W.cell? ⟨w.heap.size + 1, 0, none⟩ = some (.int .i64 0) := (blk_cell hi.r5 0).trans rfl
   have k6 : W.cell? ⟨w.heap.size + 1 + 1, 0, none⟩ = some (.int .i64 0) := (blk_cell hi.r6 0).trans rfl
   have HI := Aside0.mk hi
   have HDF := Aside0.mk hDef
   have HDD := Aside0.mk hD
   clear hi h7 hr hcc2 hC2 hS hlen hgo hDef hD
   have hb1 : Chg (fun k => k = w.heap.size ∨ k = w.heap.size + 1 ∨ k = w.heap.size + 1 + 1) W (((W.setCell ⟨w.heap.size, 0, none⟩ (.slice A2 xs.length c2)).setCell ⟨w.heap.size + 1, 0, none⟩ (.int .i64 0)).setCell ⟨w.heap.size + 1 + 1, 0, none⟩ (.int .i64 0)) :=
    ea_setCell (ea_setCell (ea_setCell (Chg.refl _ _) (.inl (.inl rfl)) _) (.inl (.inr (.inl rfl))) _) (.inl (.inr (.inr rfl))) _
   gi_wp2
   have hDef2 : (((W.setCell ⟨w.heap.size, 0, none⟩ (.slice A2 xs.length c2)).setCell ⟨w.heap.size + 1, 0, none⟩ (.int .i64 0)).setCell ⟨w.heap.size + 1 + 1, 0, none⟩ (.int .i64 0)).heap[D]? = some (.deferred (some [])) := (hb1.block D (blk_lt HDF.out) (by have := HDD.out; have := HS.out; omega)).trans HDF.out
   refine ⟨by simp, .inl ⟨_, _, rfl, run_takeDeferred hDef2, ?_⟩⟩
   refine ⟨.tuple #[.slice A2 xs.length c2, .int .i64 0, .int .i64 0], each_results (a := { tmps := _, defers := [] }) rfl rfl rfl ?_ ?_ ?_, _, by rw [HE.out, HGO.out], below_putObj (HI.out.bel.trans (hb1.to_below (fun k hk => by omega) HI.out.bel.size)) (by have := HDD.out; have := HS.out; omega) _⟩
   ·refine blk_putOther (blk_faro (blk_faro ((blk_put HI.out.r4 0 _ rfl).trans rfl) ?_ _) ?_ _) hDef2 rfl <;> omega
   ·refine blk_putOther (blk_faro ((blk_put (blk_faro HI.out.r5 ?_ _) 0 _ rfl).trans rfl) ?_ _) hDef2 rfl <;> omega
   ·refine blk_putOther ((blk_put (blk_faro (blk_faro HI.out.r6 ?_ _) ?_ _) 0 _ rfl).trans rfl) hDef2 rfl <;> omega
  case stop =>
   rintro D c pre W hD ⟨rfl, hi⟩ hDef
   gi_wp2
   refine ⟨by simp, .inl ⟨_, _, rfl, run_takeDeferred hDef, ?_⟩⟩
   refine ⟨.tuple #[.slice none 0 0, .int .i64 (batGo metBad ms 0).1, .int .i64 (batGo metBad ms 0).2], each_results (a := { tmps := _, defers := [] }) rfl rfl rfl (blk_putOther hi.r4 hDef rfl) (blk_putOther hi.r5 hDef rfl) (blk_putOther hi.r6 hDef rfl), _, by rw [HE.out], below_putObj hi.bel (by have := HS.out; omega) _⟩
set_option maxHeartbeats 4000000 in
set_option maxRecDepth 100000 in
theorem batcheck_calls (ms : List MetS) (A : Option Addr) (c : Nat) (w : World) (hC : kMet.C w A ms.length ms) (hin : ∀ m ∈ ms, PE.metIn m = true) :
  Calls Try.prog 30 #[.slice A ms.length c] w fun e w' => e = .returned (.tuple #[.int .i64 (batBad ms).1, .int .i64 (batBad ms).2]) ∧ Below w.heap.size w w' := by
 have HK := Aside0.mk (eachb_calls ms A c w hC hin)
 clear hC hin
 generalize (batBad ms).1 = x at HK ⊢
 generalize (batBad ms).2 = y at HK ⊢
 go_enter Try.func30, Try.ntmps30
 go_wp2_with fail
 refine HK.out.mono ?_
 rintro e w1 ⟨v, rfl, hb⟩
 have HB := Aside0.mk hb
 clear hb
 go_wp2
 go_ret2
 exact ⟨rfl, HB.out⟩
end Go.Proofs.Yteamldgngknmfaa
