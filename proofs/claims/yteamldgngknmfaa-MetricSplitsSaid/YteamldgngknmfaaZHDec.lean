/- Package dec: Check, and Normal of what is in range; no condition. -/
import Derived.Test.YteamldgngknmfaaZHDecPl
namespace Go.Proofs.Yteamldgngknmfaa
open Go.RowKit Go.Proofs.YteamldgngknmfaaW.PrintWords Go.Proofs.YteamldgngknmfaaW.PrintLast Go.Proofs.YteamldgngknmfaaW.PrintMore
set_option linter.unusedVariables false
set_option linter.unusedSimpArgs false
def decBad (g : Bool) (c e : Int) : Int :=
 if c ≠ 0 ∧ (e < -18 ∨ 18 < e) then 10 else if c = 0 then (if g = false ∧ e = 0 then 0 else 21) else if c % 10 = 0 ∧ e < 18 then 21 else 0
set_option maxHeartbeats 2000000 in
set_option maxRecDepth 100000 in
theorem decnormal_zero (g : Bool) (e : Int) (w : World) : Calls Try.prog 50 #[.agg #[.bool g, .int .u64 0, .int .i64 e]] w fun x w' => x = .returned (.tuple #[.agg #[.bool false, .int .u64 0, .int .i64 0], .int .i64 0]) ∧ Below w.heap.size w w' := by
 go_enter Try.func50, Try.ntmps50
 go_wp2
 exact bodyPost_ret (v := .tuple #[.agg #[.bool false, .int .u64 0, .int .i64 0], .int .i64 0]) (by simp [results, Try.results50, go_sem]) rfl ⟨rfl, by with_reducible repeat (first | exact Below.refl _ _ | apply below_alloc | apply pw_below_drewN | apply below_drew1 | refine Below.setCell ?_ (by simp) _)⟩
set_option maxHeartbeats 4000000 in
set_option maxRecDepth 100000 in
theorem decnormal_calls (g : Bool) (c e : Int) (w : World) (hc : 1 ≤ c ∧ c < 18446744073709551616) (he : -18 ≤ e ∧ e ≤ 18) : Calls Try.prog 50 #[.agg #[.bool g, .int .u64 c, .int .i64 e]] w fun x w' => ∃ c' e', x = .returned (.tuple #[.agg #[.bool g, .int .u64 c', .int .i64 e'], .int .i64 0]) ∧ ((c % 10 = 0 ∧ e < 18 ∧ e' ≠ e) ∨ (¬ (c % 10 = 0 ∧ e < 18) ∧ c' = c ∧ e' = e)) ∧ Below w.heap.size w w' := by
 have H0 := Aside0.mk hc
 have H1 := Aside0.mk he
 have b0 : (c == 0) = false := beq_eq_false_iff_ne.mpr (by omega)
 clear hc he
 go_enter Try.func50, Try.ntmps50
 go_wp2
 go_loopg [] 38 (fun kq w' => ∃ x y : Int, Aside0 (w'.heap[w.heap.size]? = some (.cells #[.bool g, .int .u64 x, .int .i64 y] 40 (0, 0))) ∧ Aside0 (w'.heap[w.heap.size + 1]? = some (.cells #[.bool false, .int .u64 0, .int .i64 0] 40 (0, 0))) ∧ Aside0 (1 ≤ x ∧ x < 18446744073709551616 ∧ -18 ≤ y ∧ y ≤ 18 ∧ (19 - y).toNat ≤ kq) ∧ Aside0 ((x = c ∧ y = e) ∨ (c % 10 = 0 ∧ e < 18 ∧ e < y)) ∧ Aside0 (Below w.heap.size w w'))
 case atStart => exact ⟨c, e, ⟨blk_alloc (blk_new w _) _⟩, ⟨by have h := blk_new (w.alloc (.cells #[.bool g, .int .u64 c, .int .i64 e] 40 (0, 0))) (.cells #[.bool false, .int .u64 0, .int .i64 0] 40 (0, 0)); simpa using h⟩, ⟨by have := H0.out; have := H1.out; omega⟩, ⟨.inl ⟨rfl, rfl⟩⟩, ⟨below_alloc (below_alloc (Below.refl _ _) _) _⟩⟩
 case round =>
  obtain ⟨x, y, HX, HY, HI, HD, HB⟩ := hrel
  have hcz0 : wr.cell? ⟨w.heap.size, 0, none⟩ = some (.bool g) := (blk_cell HX.out 0).trans rfl
  have hcz1 : wr.cell? ⟨w.heap.size, 1, none⟩ = some (.int .u64 x) := (blk_cell HX.out 1).trans rfl
  have hcz2 : wr.cell? ⟨w.heap.size, 2, none⟩ = some (.int .i64 y) := (blk_cell HX.out 2).trans rfl
  have hfz1 := blk_frozen HX.out 1
  have hfz2 := blk_frozen HX.out 2
  have hIx := HI.out
  have hrem : Int.tmod x 10 = x % 10 := Int.tmod_eq_emod_of_nonneg (by omega)
  by_cases c1 : x % 10 = 0
  ·have b1 : (Int.tmod x 10 == 0) = true := beq_iff_eq.mpr (hrem.trans c1)
   by_cases c2 : y < 18
   ·have b2 : decide (y < 18) = true := decide_eq_true c2
    have hdv : IntKind.u64.wrap (Int.tdiv x 10) = x / 10 := by
     rw [Int.tdiv_eq_ediv_of_nonneg (by omega)]
     exact IntWalk.u64_in _ (by omega)
    have hw : wrap64 (y + 1) = y + 1 := IntWalk.wrap64_in (y + 1) (by omega)
    have HX2 := Aside0.mk (show 1 ≤ x / 10 ∧ x / 10 < 18446744073709551616 ∧ -18 ≤ y + 1 ∧ y + 1 ≤ 18 ∧ (19 - (y + 1)).toNat ≤ gk - 1 ∧ gk - 1 < gk by omega)
    have HD2 := Aside0.mk (show c % 10 = 0 ∧ e < 18 ∧ e < y + 1 by
     rcases HD.out with ⟨rfl, rfl⟩ | h
     ·exact ⟨c1, c2, by omega⟩
     ·exact ⟨h.1, h.2.1, by omega⟩)
    have hdv' := Aside0.mk hdv
    have hw' := Aside0.mk hw
    clear hIx hrem c1 c2 hdv hw
    go_wp2
    go_roundg (gk - 1)
    case measure => exact HX2.out.2.2.2.2.2
    case rel =>
     rw [hdv'.out, hw'.out]
     refine ⟨x / 10, y + 1, ⟨?_⟩, ⟨?_⟩, ⟨by have := HX2.out; omega⟩, ⟨.inr HD2.out⟩, ⟨by with_reducible repeat (first | exact HB.out | apply below_alloc | apply pw_below_drewN | apply below_drew1 | refine Below.setCell ?_ (by simp) _)⟩⟩
     ·exact blk_put (cs := #[.bool g, .int .u64 (x / 10), .int .i64 y]) (blk_put (cs := #[.bool g, .int .u64 x, .int .i64 y]) HX.out 1 _ rfl) 2 _ rfl
     ·exact (Below.heap_setCell _ _ _ _ (by simp)).trans ((Below.heap_setCell _ _ _ _ (by simp)).trans HY.out)
   ·have b2 : decide (y < 18) = false := decide_eq_false c2
    have HR := Aside0.mk (show (c % 10 = 0 ∧ e < 18 ∧ y ≠ e) ∨ (¬ (c % 10 = 0 ∧ e < 18) ∧ x = c ∧ y = e) by
     rcases HD.out with ⟨rfl, rfl⟩ | h
     ·exact .inr ⟨by omega, rfl, rfl⟩
     ·exact .inl ⟨h.1, h.2.1, by omega⟩)
    clear hIx hrem c1 c2
    have hcy0 : wr.cell? ⟨w.heap.size + 1, 0, none⟩ = some (.bool false) := (blk_cell HY.out 0).trans rfl
    have hcy1 : wr.cell? ⟨w.heap.size + 1, 1, none⟩ = some (.int .u64 0) := (blk_cell HY.out 1).trans rfl
    have hcy2 : wr.cell? ⟨w.heap.size + 1, 2, none⟩ = some (.int .i64 0) := (blk_cell HY.out 2).trans rfl
    have hfy0 := blk_frozen HY.out 0
    have hfy1 := blk_frozen HY.out 1
    have hfy2 := blk_frozen HY.out 2
    have b18 : decide (18 < y) = false := decide_eq_false (by have := HI.out; omega)
    have bm18 : decide (y < -18) = false := decide_eq_false (by have := HI.out; omega)
    go_wp2
    go_loopg [] 0 (fun kq w2 => w2 = wr)
    case atStart => exact rfl
    case round =>
     obtain rfl := hrel
     go_wp2
     have e0 := World.cell?_setCell_same (v := .bool g) (h := hcy0)
     have e1 := World.cell?_setCell_same (v := .int .u64 x) (h := (World.cell?_setCell_other (w := wr) (a := ⟨w.heap.size + 1, 0, none⟩) (b := ⟨w.heap.size + 1, 1, none⟩) (v := .bool g) (by simp)).trans hcy1)
     have e2 := World.cell?_setCell_same (v := .int .i64 y) (h := (World.cell?_setCell_other (w := wr.setCell ⟨w.heap.size + 1, 0, none⟩ (.bool g)) (a := ⟨w.heap.size + 1, 1, none⟩) (b := ⟨w.heap.size + 1, 2, none⟩) (v := .int .u64 x) (by simp)).trans ((World.cell?_setCell_other (w := wr) (a := ⟨w.heap.size + 1, 0, none⟩) (b := ⟨w.heap.size + 1, 2, none⟩) (v := .bool g) (by simp)).trans hcy2))
     exact bodyPost_ret (v := .tuple #[.agg #[.bool g, .int .u64 x, .int .i64 y], .int .i64 0]) (by simp [results, Try.results50, go_sem, e0, e1, e2]) rfl ⟨x, y, rfl, HR.out, by with_reducible repeat (first | exact HB.out | apply below_alloc | apply pw_below_drewN | apply below_drew1 | refine Below.setCell ?_ (by simp) _)⟩
  ·have b1 : (Int.tmod x 10 == 0) = false := beq_eq_false_iff_ne.mpr (by rw [hrem]; exact c1)
   have HR := Aside0.mk (show (c % 10 = 0 ∧ e < 18 ∧ y ≠ e) ∨ (¬ (c % 10 = 0 ∧ e < 18) ∧ x = c ∧ y = e) by
    rcases HD.out with ⟨rfl, rfl⟩ | h
    ·exact .inr ⟨by omega, rfl, rfl⟩
    ·exact .inl ⟨h.1, h.2.1, by omega⟩)
   clear hIx hrem c1
   have hcy0 : wr.cell? ⟨w.heap.size + 1, 0, none⟩ = some (.bool false) := (blk_cell HY.out 0).trans rfl
   have hcy1 : wr.cell? ⟨w.heap.size + 1, 1, none⟩ = some (.int .u64 0) := (blk_cell HY.out 1).trans rfl
   have hcy2 : wr.cell? ⟨w.heap.size + 1, 2, none⟩ = some (.int .i64 0) := (blk_cell HY.out 2).trans rfl
   have hfy0 := blk_frozen HY.out 0
   have hfy1 := blk_frozen HY.out 1
   have hfy2 := blk_frozen HY.out 2
   have b18 : decide (18 < y) = false := decide_eq_false (by have := HI.out; omega)
   have bm18 : decide (y < -18) = false := decide_eq_false (by have := HI.out; omega)
   go_wp2
   go_loopg [] 0 (fun kq w2 => w2 = wr)
   case atStart => exact rfl
   case round =>
    obtain rfl := hrel
    go_wp2
    have e0 := World.cell?_setCell_same (v := .bool g) (h := hcy0)
    have e1 := World.cell?_setCell_same (v := .int .u64 x) (h := (World.cell?_setCell_other (w := wr) (a := ⟨w.heap.size + 1, 0, none⟩) (b := ⟨w.heap.size + 1, 1, none⟩) (v := .bool g) (by simp)).trans hcy1)
    have e2 := World.cell?_setCell_same (v := .int .i64 y) (h := (World.cell?_setCell_other (w := wr.setCell ⟨w.heap.size + 1, 0, none⟩ (.bool g)) (a := ⟨w.heap.size + 1, 1, none⟩) (b := ⟨w.heap.size + 1, 2, none⟩) (v := .int .u64 x) (by simp)).trans ((World.cell?_setCell_other (w := wr) (a := ⟨w.heap.size + 1, 0, none⟩) (b := ⟨w.heap.size + 1, 2, none⟩) (v := .bool g) (by simp)).trans hcy2))
    exact bodyPost_ret (v := .tuple #[.agg #[.bool g, .int .u64 x, .int .i64 y], .int .i64 0]) (by simp [results, Try.results50, go_sem, e0, e1, e2]) rfl ⟨x, y, rfl, HR.out, by with_reducible repeat (first | exact HB.out | apply below_alloc | apply pw_below_drewN | apply below_drew1 | refine Below.setCell ?_ (by simp) _)⟩
theorem eqDec (d : Nat) (w : World) (x0 y0 : Bool) (x1 y1 : Int) (x2 y2 : Int) :
  (Op.equalIn (d + 2) 40 (.agg #[.bool x0, .int .u64 x1, .int .i64 x2]) (.agg #[.bool y0, .int .u64 y1, .int .i64 y2])).run Try.prog w = .ok (x0 == y0 && (x1 == y1 && (x2 == y2))) w := by
 refine eqA_of Try.underlying40 (by kernel_rfl) ?_
 refine eqf_cons (by rfl) (by go_simp; rfl) (by go_simp; rfl) (by go_simp) ?_
 refine eqf_cons (by rfl) (by go_simp; rfl) (by go_simp; rfl) (by go_simp) ?_
 exact eqf_last (by rfl) (by go_simp; rfl) (by go_simp; rfl) (by go_simp)
section
attribute [local go_sem high] eqDec
set_option maxHeartbeats 4000000 in
set_option maxRecDepth 100000 in
theorem deccheck_calls (g : Bool) (c e : Int) (w : World) (hc : 0 ≤ c ∧ c < 18446744073709551616) : Calls Try.prog 66 #[.agg #[.bool g, .int .u64 c, .int .i64 e]] w fun x w' => x = .returned (.int .i64 (decBad g c e)) ∧ Below w.heap.size w w' := by
 by_cases c0 : c = 0
 ·subst c0
  clear hc
  by_cases e0 : e = 0
  ·subst e0
   cases g with
   | false =>
    have hd : decBad false 0 0 = 0 := by decide
    rw [hd]
    clear hd
    go_enter Try.func66, Try.ntmps66
    go_wp2_with (first | (go_at_call 50; refine (decnormal_zero false 0 _).mono ?_; rintro x w1 ⟨rfl, hb⟩; have BX := Aside0.mk (blk_below (blk_new w (.cells #[.bool false, .int .u64 0, .int .i64 0] 40 (0, 0))) hb); have hq0 : ∀ o, (w1.alloc o).cell? ⟨w.heap.size, 0, none⟩ = some (.bool false) := fun o => (blk_cell (blk_alloc BX.out o) 0).trans rfl; have hq1 : ∀ o, (w1.alloc o).cell? ⟨w.heap.size, 1, none⟩ = some (.int .u64 0) := fun o => (blk_cell (blk_alloc BX.out o) 1).trans rfl; have hq2 : ∀ o, (w1.alloc o).cell? ⟨w.heap.size, 2, none⟩ = some (.int .i64 0) := fun o => (blk_cell (blk_alloc BX.out o) 2).trans rfl; have HB := Aside0.mk ((below_alloc (Below.refl _ w) (.cells #[.bool false, .int .u64 0, .int .i64 0] 40 (0, 0))).trans (hb.mono (by simp))); clear hb))
    go_ret
    exact ⟨rfl, below_alloc HB.out _⟩
   | true =>
    have hd : decBad true 0 0 = 21 := by decide
    rw [hd]
    clear hd
    go_enter Try.func66, Try.ntmps66
    go_wp2_with (first | (go_at_call 50; refine (decnormal_zero true 0 _).mono ?_; rintro x w1 ⟨rfl, hb⟩; have BX := Aside0.mk (blk_below (blk_new w (.cells #[.bool true, .int .u64 0, .int .i64 0] 40 (0, 0))) hb); have hq0 : ∀ o, (w1.alloc o).cell? ⟨w.heap.size, 0, none⟩ = some (.bool true) := fun o => (blk_cell (blk_alloc BX.out o) 0).trans rfl; have hq1 : ∀ o, (w1.alloc o).cell? ⟨w.heap.size, 1, none⟩ = some (.int .u64 0) := fun o => (blk_cell (blk_alloc BX.out o) 1).trans rfl; have hq2 : ∀ o, (w1.alloc o).cell? ⟨w.heap.size, 2, none⟩ = some (.int .i64 0) := fun o => (blk_cell (blk_alloc BX.out o) 2).trans rfl; have HB := Aside0.mk ((below_alloc (Below.refl _ w) (.cells #[.bool true, .int .u64 0, .int .i64 0] 40 (0, 0))).trans (hb.mono (by simp))); clear hb))
    go_ret
    exact ⟨rfl, below_alloc HB.out _⟩
  ·have hd : decBad g 0 e = 21 := by
    unfold decBad
    rw [if_neg (by omega), if_pos rfl, if_neg (fun h => e0 h.2)]
   rw [hd]
   have e1 : (e == 0) = false := beq_eq_false_iff_ne.mpr e0
   have e2 : ((0 : Int) == e) = false := beq_eq_false_iff_ne.mpr (fun h => e0 h.symm)
   clear hd e0
   go_enter Try.func66, Try.ntmps66
   go_wp2_with (first | (go_at_call 50; refine (decnormal_zero g e _).mono ?_; rintro x w1 ⟨rfl, hb⟩; have BX := Aside0.mk (blk_below (blk_new w (.cells #[.bool g, .int .u64 0, .int .i64 e] 40 (0, 0))) hb); have hq0 : ∀ o, (w1.alloc o).cell? ⟨w.heap.size, 0, none⟩ = some (.bool g) := fun o => (blk_cell (blk_alloc BX.out o) 0).trans rfl; have hq1 : ∀ o, (w1.alloc o).cell? ⟨w.heap.size, 1, none⟩ = some (.int .u64 0) := fun o => (blk_cell (blk_alloc BX.out o) 1).trans rfl; have hq2 : ∀ o, (w1.alloc o).cell? ⟨w.heap.size, 2, none⟩ = some (.int .i64 e) := fun o => (blk_cell (blk_alloc BX.out o) 2).trans rfl; have HB := Aside0.mk ((below_alloc (Below.refl _ w) (.cells #[.bool g, .int .u64 0, .int .i64 e] 40 (0, 0))).trans (hb.mono (by simp))); clear hb))
   go_ret
   exact ⟨rfl, below_alloc HB.out _⟩
 have b0 : (c == 0) = false := beq_eq_false_iff_ne.mpr c0
 have b1 : (c != 0) = true := bne_iff_ne.mpr c0
 by_cases e1 : e < -18
 ·have hd : decBad g c e = 10 := by unfold decBad; rw [if_pos ⟨c0, .inl e1⟩]
  rw [hd]
  have e1b : decide (e < -18) = true := decide_eq_true e1
  clear hd hc c0 e1
  go_enter Try.func66, Try.ntmps66
  go_wp2
  go_ret
  exact ⟨rfl, below_alloc (Below.refl _ _) _⟩
 have e1b : decide (e < -18) = false := decide_eq_false e1
 by_cases e2 : 18 < e
 ·have hd : decBad g c e = 10 := by unfold decBad; rw [if_pos ⟨c0, .inr e2⟩]
  rw [hd]
  have e2b : decide (18 < e) = true := decide_eq_true e2
  clear hd hc c0 e1 e2
  go_enter Try.func66, Try.ntmps66
  go_wp2
  go_ret
  exact ⟨rfl, below_alloc (Below.refl _ _) _⟩
 have e2b : decide (18 < e) = false := decide_eq_false e2
 have HN := Aside0.mk (fun w : World => decnormal_calls g c e w (by omega) (by omega))
 have HD := Aside0.mk (show decBad g c e = if c % 10 = 0 ∧ e < 18 then 21 else 0 by unfold decBad; rw [if_neg (by omega), if_neg c0])
 clear hc c0 e1 e2
 go_enter Try.func66, Try.ntmps66
 go_wp2_with fail
 refine (HN.out _).mono ?_
 rintro x w1 ⟨c', e', rfl, hcs, hb⟩
 have BX := Aside0.mk (blk_below (blk_new w (.cells #[.bool g, .int .u64 c, .int .i64 e] 40 (0, 0))) hb)
 have hq0 : ∀ o, (w1.alloc o).cell? ⟨w.heap.size, 0, none⟩ = some (.bool g) := fun o => (blk_cell (blk_alloc BX.out o) 0).trans rfl
 have hq1 : ∀ o, (w1.alloc o).cell? ⟨w.heap.size, 1, none⟩ = some (.int .u64 c) := fun o => (blk_cell (blk_alloc BX.out o) 1).trans rfl
 have hq2 : ∀ o, (w1.alloc o).cell? ⟨w.heap.size, 2, none⟩ = some (.int .i64 e) := fun o => (blk_cell (blk_alloc BX.out o) 2).trans rfl
 have HB := Aside0.mk ((below_alloc (Below.refl _ w) (.cells #[.bool g, .int .u64 c, .int .i64 e] 40 (0, 0))).trans (hb.mono (by simp)))
 clear hb
 rcases hcs with ⟨h1, h2, h3⟩ | ⟨h1, rfl, rfl⟩
 ·have HE := Aside0.mk (HD.out.trans (if_pos ⟨h1, h2⟩))
  have h4 : (e' == e) = false := beq_eq_false_iff_ne.mpr h3
  clear h1 h2 h3
  go_wp2
  all_goals
   go_ret
   exact ⟨by rw [HE.out]; rfl, below_alloc HB.out _⟩
 ·have HE := Aside0.mk (HD.out.trans (if_neg h1))
  clear h1
  go_wp2
  all_goals
   go_ret
   exact ⟨by rw [HE.out]; rfl, below_alloc HB.out _⟩
end
end Go.Proofs.Yteamldgngknmfaa
