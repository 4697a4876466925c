-- Printed by the kit's print.py over contracts of this session's own.
import Derived.Test.YthflkmgcifccjaaDoorZQInjTN
import Derived.Test.YthflkmgcifccjaaDoorZQInjP
import Derived.Test.YthflkmgcifccjaaDoorZQPEx0
import Derived.Test.YthflkmgcifccjaaDoorZQPEx2
import Derived.Test.YthflkmgcifccjaaDoorZQPEx3
import Derived.Test.YthflkmgcifccjaaDoorZQPEx4
import Derived.Test.YthflkmgcifccjaaDoorZQPEx5
namespace Go.Proofs.YthflkmgcifccjaaDoor.PE
open Go.RowKit Go.Proofs.YthflkmgcifccjaaDoorW.PrintWords Go.Proofs.YthflkmgcifccjaaDoorW.PrintLast Go.Proofs.YthflkmgcifccjaaDoorW.PrintMore
attribute [local go_sem] max2_int min2_int max_two min_two max_three min_three max_four min_four   -- for this text's walks alone
set_option linter.unusedVariables false
set_option linter.unusedSimpArgs false
attribute [local go_sem high] eqA34
/-! ### forebaylaw06_TagOnce: function 8 -/
mutual
def forebaylaw06_TagOnce.j0 : Nat → List (S34) → List Int → Int → Bool → Option (Bool)
 | 0, _, _, _, _ => none
 | k + 1, x0, x1, x2, x36 => if x36 = true then ((forebaylaw06_awake.f k).bind fun t251 => (some t251)) else ((some (([] : List (S34)) : List (S34))).bind fun y252 => (if y252.length + x0.length < 4398046511104 then (forebaylaw06_TagOnce.l0 k x0 x1 x2 (y252 ++ x0) 0) else (none)))
def forebaylaw06_TagOnce.j2 : Nat → List (S34) → Int → List (S34) → Option (Bool)
 | 0, _, _, _ => none
 | k + 1, x0, x2, x7 => if 0 ≤ x2 then (if x2 ≤ (x0.length : Int) then ((some (x0.take (x2 : Int).toNat : List (S34))).bind fun y264 => (if x7.length + y264.length < 4398046511104 then ((some (x7 ++ y264 : List (S34))).bind fun y268 => ((some (([] : List (S34)) : List (S34))).bind fun y271 => (if y271.length + y268.length < 4398046511104 then ((some (y271 ++ y268 : List (S34))).bind fun y274 => ((tag_Normal.f x0).bind fun t277 => ((tag_Normal.f y274).bind fun t280 => ((forebaylaw06_same.f k t280 t277).bind fun t283 => (if t283 = true then ((forebaylaw06_same.f k y274 y268).bind fun t284 => (if t284 = true then ((tag_Is.f k t277).bind fun t285 => (if t285 = true then ((tag_Normal.f t277).bind fun t286 => ((forebaylaw06_same.f k t286 t277).bind fun t289 => (forebaylaw06_TagOnce.j3 k x0 t277 (!t289)))) else (forebaylaw06_TagOnce.j3 k x0 t277 true))) else (forebaylaw06_TagOnce.j3 k x0 t277 true))) else (forebaylaw06_TagOnce.j3 k x0 t277 true)))))) else (none)))) else (none))) else (none)) else (none)
def forebaylaw06_TagOnce.j3 : Nat → List (S34) → List (S34) → Bool → Option (Bool)
 | 0, _, _, _ => none
 | k + 1, x0, x12, x126 => if x126 = true then (none) else (forebaylaw06_TagOnce.l1 k x0 x12 0)
def forebaylaw06_TagOnce.l1 : Nat → List (S34) → List (S34) → Int → Option (Bool)
 | 0, _, _, _ => none
 | k + 1, x0, x12, x13 => if x13 < (x0.length : Int) then (forebaylaw06_TagOnce.l2 k x0 x12 x13 0 0) else (forebaylaw06_TagOnce.l3 k x0 x12 0)
def forebaylaw06_TagOnce.l2 : Nat → List (S34) → List (S34) → Int → Int → Int → Option (Bool)
 | 0, _, _, _, _, _ => none
 | k + 1, x0, x12, x13, x14, x15 => if x15 < (x12.length : Int) then (if 0 ≤ x15 then (if 0 ≤ x13 then (if x13 < (x0.length : Int) then (if ((((rd_T34 x12 x15).f0).toList) == (((rd_T34 x0 x13).f0).toList) && ((((rd_T34 x12 x15).f1).toList) == (((rd_T34 x0 x13).f1).toList))) = true then (forebaylaw06_TagOnce.l2 k x0 x12 x13 (wrap64 (x14 + 1)) (wrap64 (x15 + 1))) else (forebaylaw06_TagOnce.l2 k x0 x12 x13 x14 (wrap64 (x15 + 1)))) else (none)) else (none)) else (none)) else (if x14 = 1 then (forebaylaw06_TagOnce.l1 k x0 x12 (wrap64 (x13 + 1))) else (none))
def forebaylaw06_TagOnce.l3 : Nat → List (S34) → List (S34) → Int → Option (Bool)
 | 0, _, _, _ => none
 | k + 1, x0, x12, x16 => if x16 < (x12.length : Int) then (forebaylaw06_TagOnce.l4 k x0 x12 x16 false 0) else ((forebaylaw06_awake.f k).bind fun t292 => (some t292))
def forebaylaw06_TagOnce.l4 : Nat → List (S34) → List (S34) → Int → Bool → Int → Option (Bool)
 | 0, _, _, _, _, _ => none
 | k + 1, x0, x12, x16, x17, x18 => if x18 < (x0.length : Int) then (if x17 = true then (forebaylaw06_TagOnce.l4 k x0 x12 x16 true (wrap64 (x18 + 1))) else (if 0 ≤ x18 then (if 0 ≤ x16 then (if x16 < (x12.length : Int) then (forebaylaw06_TagOnce.l4 k x0 x12 x16 ((((rd_T34 x0 x18).f0).toList) == (((rd_T34 x12 x16).f0).toList) && ((((rd_T34 x0 x18).f1).toList) == (((rd_T34 x12 x16).f1).toList))) (wrap64 (x18 + 1))) else (none)) else (none)) else (none))) else (if x17 = true then (forebaylaw06_TagOnce.l3 k x0 x12 (wrap64 (x16 + 1))) else (none))
def forebaylaw06_TagOnce.l0 : Nat → List (S34) → List Int → Int → List (S34) → Int → Option (Bool)
 | 0, _, _, _, _, _ => none
 | k + 1, x0, x1, x2, x7, x8 => if (wrap64 (x8 + 1)) < (x1.length : Int) then (if (x0.length : Int) > 0 then (if 0 ≤ x8 then (if x8 < (x1.length : Int) then (if (x0.length : Int) = 0 then (none) else (if 0 ≤ (wrap64 (x8 + 1)) then (if 0 ≤ (Int.tmod (wrap64 ((Int.tmod (rd x1 (wrap64 (x8 + 1))) (x0.length : Int)) + (x0.length : Int))) (x0.length : Int)) then (if (Int.tmod (wrap64 ((Int.tmod (rd x1 (wrap64 (x8 + 1))) (x0.length : Int)) + (x0.length : Int))) (x0.length : Int)) < (x7.length : Int) then (if 0 ≤ (Int.tmod (wrap64 ((Int.tmod (rd x1 x8) (x0.length : Int)) + (x0.length : Int))) (x0.length : Int)) then (if (Int.tmod (wrap64 ((Int.tmod (rd x1 x8) (x0.length : Int)) + (x0.length : Int))) (x0.length : Int)) < (x7.length : Int) then (forebaylaw06_TagOnce.l0 k x0 x1 x2 ((x7.set ((Int.tmod (wrap64 ((Int.tmod (rd x1 x8) (x0.length : Int)) + (x0.length : Int))) (x0.length : Int)) : Int).toNat (⟨(rd_T34 x7 (Int.tmod (wrap64 ((Int.tmod (rd x1 (wrap64 (x8 + 1))) (x0.length : Int)) + (x0.length : Int))) (x0.length : Int))).f0, (rd_T34 x7 (Int.tmod (wrap64 ((Int.tmod (rd x1 (wrap64 (x8 + 1))) (x0.length : Int)) + (x0.length : Int))) (x0.length : Int))).f1⟩ : S34)).set ((Int.tmod (wrap64 ((Int.tmod (rd x1 (wrap64 (x8 + 1))) (x0.length : Int)) + (x0.length : Int))) (x0.length : Int)) : Int).toNat (⟨(rd_T34 x7 (Int.tmod (wrap64 ((Int.tmod (rd x1 x8) (x0.length : Int)) + (x0.length : Int))) (x0.length : Int))).f0, (rd_T34 x7 (Int.tmod (wrap64 ((Int.tmod (rd x1 x8) (x0.length : Int)) + (x0.length : Int))) (x0.length : Int))).f1⟩ : S34)) (wrap64 (x8 + 2))) else (none)) else (none)) else (none)) else (none)) else (none))) else (none)) else (none)) else (forebaylaw06_TagOnce.j2 k x0 x2 x7)) else (forebaylaw06_TagOnce.j2 k x0 x2 x7)
end
def forebaylaw06_TagOnce.f (k : Nat) (l0 : List (S34)) (l1 : List Int) (a2 : Int) : Option (Bool) := (forebaylaw06_Few.f k l0).bind fun t250 => (if t250 = true then (if (l1.length : Int) > 60 then (forebaylaw06_TagOnce.j0 k l0 l1 a2 true) else (if a2 < 0 then (forebaylaw06_TagOnce.j0 k l0 l1 a2 true) else (forebaylaw06_TagOnce.j0 k l0 l1 a2 (decide (a2 > (l0.length : Int)))))) else (forebaylaw06_TagOnce.j0 k l0 l1 a2 true))
def forebaylaw06_TagOnce.T9 : Bool × List (List Nat × List Nat) := (true, [([], []), ([], []), ([], []), ([], []), ([], []), ([], []), ([4, 5], [4, 5]), ([6], [6]), ([], []), ([], []), ([8, 9], [8, 9]), ([10], [10]), ([0, 1, 0, 1, 4, 5, 6, 7, 11], [0, 1]), ([12, 7, 0, 1, 4, 5, 6, 7, 11], [7, 12]), ([2, 3, 0, 1, 2, 3, 4, 5, 6, 7, 8, 9, 10, 11, 12, 13], [2, 3]), ([14, 11, 13, 0, 1, 2, 3, 4, 5, 6, 7, 8, 9, 10, 11, 12, 13], [11, 14])])
def forebaylaw06_TagOnce.B9 : List Nat := [0, 0, 0, 0, 0, 0, 48, 112, 0, 0, 768, 1792, 4083, 8179, 16383, 32767]
theorem forebaylaw06_TagOnce.tab9 : rtab .any (opsOf Tryd.f8 9) = forebaylaw06_TagOnce.T9 := by kernel_rfl
theorem forebaylaw06_TagOnce.bits9 : waitsOk forebaylaw06_TagOnce.T9.2 forebaylaw06_TagOnce.B9 = true := by kernel_rfl
def forebaylaw06_TagOnce.T22 : Bool × List (List Nat × List Nat) := (true, [([], []), ([], []), ([0, 1], [0, 1]), ([2], [2]), ([], []), ([], []), ([4, 5], [4, 5]), ([6], [6]), ([3, 7], [3, 7])])
def forebaylaw06_TagOnce.B22 : List Nat := [0, 0, 3, 7, 0, 0, 48, 112, 255]
theorem forebaylaw06_TagOnce.tab22 : rtab .any (opsOf Tryd.f8 22) = forebaylaw06_TagOnce.T22 := by kernel_rfl
theorem forebaylaw06_TagOnce.bits22 : waitsOk forebaylaw06_TagOnce.T22.2 forebaylaw06_TagOnce.B22 = true := by kernel_rfl
def forebaylaw06_TagOnce.T33 : Bool × List (List Nat × List Nat) := (true, [([], []), ([0], [0]), ([1], [1]), ([1], [1]), ([2, 3, 1], [1, 2, 3]), ([4, 1], [1, 4]), ([1], [1]), ([1], [1]), ([6, 7, 1], [1, 6, 7]), ([8, 1], [1, 8]), ([5, 9, 1], [1, 5, 9]), ([1, 10], [1, 10]), ([11, 1, 0, 1, 2, 3, 4, 5, 6, 7, 8, 9, 10, 11], [0, 11])])
def forebaylaw06_TagOnce.B33 : List Nat := [0, 1, 3, 3, 15, 31, 3, 3, 195, 451, 1023, 2047, 4095]
theorem forebaylaw06_TagOnce.tab33 : rtab .any (opsOf Tryd.f8 33) = forebaylaw06_TagOnce.T33 := by kernel_rfl
theorem forebaylaw06_TagOnce.bits33 : waitsOk forebaylaw06_TagOnce.T33.2 forebaylaw06_TagOnce.B33 = true := by kernel_rfl
set_option maxHeartbeats 8000000 in
set_option maxRecDepth 100000 in
theorem forebaylaw06_TagOnce.calls (k : Nat) (A0 : Option Addr) (c0 : Nat) (l0 : List (S34)) (A1 : Option Addr) (c1 : Nat) (l1 : List Int) (a2 : Int) (r : Bool) (w : World) (hr0 : Kd.C k34 w A0 l0.length l0) (hc0 : l0.length ≤ c0) (hr1 : Kd.C (Kd.int .i64) w A1 l1.length l1) (hc1 : l1.length ≤ c1) (h : forebaylaw06_TagOnce.f k l0 l1 a2 = some r) (hMx : MaxAt w) :
  Calls Tryd.prog 8 #[.slice A0 l0.length c0, .slice A1 l1.length c1, .int .i64 a2] w fun e w' => e = .returned (.bool r) ∧ Below w.heap.size w w' := by
 have hu34 := Tryd.underlying34
 have HR0 := Aside0.mk hr0
 have HC0 := Aside0.mk hc0
 clear hr0 hc0
 have HR1 := Aside0.mk hr1
 have HC1 := Aside0.mk hc1
 clear hr1 hc1
 have HB := Aside0.mk (Below.refl w.heap.size w)
 have HMX := Aside0.mk hMx
 clear hMx
 have H : ((forebaylaw06_Few.f k l0).bind fun t250 => (if t250 = true then (if (l1.length : Int) > 60 then (forebaylaw06_TagOnce.j0 k l0 l1 a2 true) else (if a2 < 0 then (forebaylaw06_TagOnce.j0 k l0 l1 a2 true) else (forebaylaw06_TagOnce.j0 k l0 l1 a2 (decide (a2 > (l0.length : Int)))))) else (forebaylaw06_TagOnce.j0 k l0 l1 a2 true))) = some r := h
 clear h
 have HC4 := Aside0.mk H
 clear H
 go_enter Tryd.func8, Tryd.ntmps8
 go_upto_region 1 with (fail)
 go_cut [36] (fun v36 wc => ∃ (kq : Nat) (x36_3 : Bool), v36 = .bool x36_3 ∧ Aside0 (forebaylaw06_TagOnce.j0 kq l0 l1 a2 x36_3 = some r) ∧ Aside0 (kq ≤ k) ∧ Aside0 (Below w.heap.size w wc))
 case first =>
  have H := HC4.out
  clear HC4
  replace H := Option.bind_eq_some_iff.mp H
  obtain ⟨t250, A50, H⟩ := H
  replace H : (if t250 = true then (if (l1.length : Int) > 60 then (forebaylaw06_TagOnce.j0 k l0 l1 a2 true) else (if a2 < 0 then (forebaylaw06_TagOnce.j0 k l0 l1 a2 true) else (forebaylaw06_TagOnce.j0 k l0 l1 a2 (decide (a2 > (l0.length : Int)))))) else (forebaylaw06_TagOnce.j0 k l0 l1 a2 true)) = some r := H
  have A5 := Aside0.mk A50
  clear A50
  by_cases c6 : t250 = true
  ·subst c6
   have H1 : (if (l1.length : Int) > 60 then (forebaylaw06_TagOnce.j0 k l0 l1 a2 true) else (if a2 < 0 then (forebaylaw06_TagOnce.j0 k l0 l1 a2 true) else (forebaylaw06_TagOnce.j0 k l0 l1 a2 (decide (a2 > (l0.length : Int)))))) = some r := by rw [if_pos rfl] at H; exact H
   clear H
   have H := H1
   clear H1
   by_cases c7 : (l1.length : Int) > 60
   ·rw [if_pos c7] at H
    have c7b0 : decide (60 < (l1.length : Int)) = true := decide_eq_true c7
    have c7b1 : decide (60 < l1.length) = true := decide_eq_true (by omega)
    clear c7
    (first | rw [c7b0] | (simp only [i64_w, i32_w]; rw [c7b0]) | skip)
    have H' := Aside0.mk H
    clear H
    go_wp2_with (first | ((with_reducible refine gate_callee (f := 14) rfl ?_); refine goesL_ (some 20) rfl rfl Tryd.func14 (by kernel_rfl) rfl #[.slice A0 l0.length c0] rfl (by (try simp only [List.map_toArray, List.map_cons, List.map_nil]); first | done | rfl | (simp only [List.length_drop, List.length_take]; rfl)) ?_; (with_reducible refine (forebaylaw06_Few.calls k _ _ l0 true _ ?side1 ?side2 A5.out).mono ?_); (case side1 => repeat (first | exact (Kd.C_below HR0.out HB.out) | (with_reducible refine Kd.C_alloc ?_ _) | (with_reducible refine Kd.C_drewN ?_ _) | (with_reducible refine Kd.C_drew ?_))); (case side2 => exact HC0.out); rintro e w' ⟨rfl, ⟨nd, rfl⟩⟩; refine ⟨_, rfl, ?_⟩))
    go_meet
    case rel => exact ⟨_, (true), (by first | rfl | (simp; done) | (simp [*]; done)), H', ⟨by first | omega | exact Nat.le_refl _⟩, ⟨by repeat (first | (with_reducible first | exact HB.out | apply below_alloc | apply pw_below_drewN | apply below_drew1) | exact HB.out)⟩⟩
   ·rw [if_neg c7] at H
    have c7b0 : decide (60 < (l1.length : Int)) = false := decide_eq_false c7
    have c7b1 : decide (60 < l1.length) = false := decide_eq_false (by omega)
    clear c7
    (first | rw [c7b0] | (simp only [i64_w, i32_w]; rw [c7b0]) | skip)
    by_cases c8 : a2 < 0
    ·rw [if_pos c8] at H
     have c8b0 : decide (a2 < 0) = true := decide_eq_true c8
     clear c8
     have H' := Aside0.mk H
     clear H
     go_wp2_with (first | ((with_reducible refine gate_callee (f := 14) rfl ?_); refine goesL_ (some 20) rfl rfl Tryd.func14 (by kernel_rfl) rfl #[.slice A0 l0.length c0] rfl (by (try simp only [List.map_toArray, List.map_cons, List.map_nil]); first | done | rfl | (simp only [List.length_drop, List.length_take]; rfl)) ?_; (with_reducible refine (forebaylaw06_Few.calls k _ _ l0 true _ ?side1 ?side2 A5.out).mono ?_); (case side1 => repeat (first | exact (Kd.C_below HR0.out HB.out) | (with_reducible refine Kd.C_alloc ?_ _) | (with_reducible refine Kd.C_drewN ?_ _) | (with_reducible refine Kd.C_drew ?_))); (case side2 => exact HC0.out); rintro e w' ⟨rfl, ⟨nd, rfl⟩⟩; refine ⟨_, rfl, ?_⟩))
     go_meet
     case rel => exact ⟨_, (true), (by first | rfl | (simp; done) | (simp [*]; done)), H', ⟨by first | omega | exact Nat.le_refl _⟩, ⟨by repeat (first | (with_reducible first | exact HB.out | apply below_alloc | apply pw_below_drewN | apply below_drew1) | exact HB.out)⟩⟩
    ·rw [if_neg c8] at H
     have c8b0 : decide (a2 < 0) = false := decide_eq_false c8
     clear c8
     have H' := Aside0.mk H
     clear H
     go_wp2_with (first | ((with_reducible refine gate_callee (f := 14) rfl ?_); refine goesL_ (some 20) rfl rfl Tryd.func14 (by kernel_rfl) rfl #[.slice A0 l0.length c0] rfl (by (try simp only [List.map_toArray, List.map_cons, List.map_nil]); first | done | rfl | (simp only [List.length_drop, List.length_take]; rfl)) ?_; (with_reducible refine (forebaylaw06_Few.calls k _ _ l0 true _ ?side1 ?side2 A5.out).mono ?_); (case side1 => repeat (first | exact (Kd.C_below HR0.out HB.out) | (with_reducible refine Kd.C_alloc ?_ _) | (with_reducible refine Kd.C_drewN ?_ _) | (with_reducible refine Kd.C_drew ?_))); (case side2 => exact HC0.out); rintro e w' ⟨rfl, ⟨nd, rfl⟩⟩; refine ⟨_, rfl, ?_⟩))
     go_meet
     case rel => exact ⟨_, (decide (a2 > (l0.length : Int))), (by first | rfl | (simp; done) | (simp [*]; done)), H', ⟨by first | omega | exact Nat.le_refl _⟩, ⟨by repeat (first | (with_reducible first | exact HB.out | apply below_alloc | apply pw_below_drewN | apply below_drew1) | exact HB.out)⟩⟩
  ·replace c6 := Bool.eq_false_iff.mpr c6
   subst c6
   have H1 : (forebaylaw06_TagOnce.j0 k l0 l1 a2 true) = some r := by rw [if_neg (show ¬ (false = true) by decide)] at H; exact H
   clear H
   have H := H1
   clear H1
   have H' := Aside0.mk H
   clear H
   go_wp2_with (first | ((with_reducible refine gate_callee (f := 14) rfl ?_); refine goesL_ (some 20) rfl rfl Tryd.func14 (by kernel_rfl) rfl #[.slice A0 l0.length c0] rfl (by (try simp only [List.map_toArray, List.map_cons, List.map_nil]); first | done | rfl | (simp only [List.length_drop, List.length_take]; rfl)) ?_; (with_reducible refine (forebaylaw06_Few.calls k _ _ l0 false _ ?side1 ?side2 A5.out).mono ?_); (case side1 => repeat (first | exact (Kd.C_below HR0.out HB.out) | (with_reducible refine Kd.C_alloc ?_ _) | (with_reducible refine Kd.C_drewN ?_ _) | (with_reducible refine Kd.C_drew ?_))); (case side2 => exact HC0.out); rintro e w' ⟨rfl, ⟨nd, rfl⟩⟩; refine ⟨_, rfl, ?_⟩))
   go_meet
   case rel => exact ⟨_, (true), (by first | rfl | (simp; done) | (simp [*]; done)), H', ⟨by first | omega | exact Nat.le_refl _⟩, ⟨by repeat (first | (with_reducible first | exact HB.out | apply below_alloc | apply pw_below_drewN | apply below_drew1) | exact HB.out)⟩⟩
 case rest =>
  clear HC4
  try clear c1
  try clear p2
  try clear c6
  try clear c7
  try clear c7b0
  try clear c7b1
  try clear c8
  try clear c8b0
  obtain ⟨kq, x36_3, rfl, HA, HJ3, HB⟩ := hcut
  cases kq with
  | zero => exact absurd HA.out (by simp [forebaylaw06_TagOnce.j0])
  | succ kj3 =>
   have H := HA.out
   clear HA
   simp only [forebaylaw06_TagOnce.j0] at H
   by_cases c9 : x36_3 = true
   ·subst c9
    have H1 : ((forebaylaw06_awake.f kj3).bind fun t251 => (some t251)) = some r := by rw [if_pos rfl] at H; exact H
    clear H
    have H := H1
    clear H1
    replace H := Option.bind_eq_some_iff.mp H
    obtain ⟨t251, A100, H⟩ := H
    replace H : (some t251) = some r := H
    have A10 := Aside0.mk A100
    clear A100
    obtain rfl := Option.some.inj H
    go_wp2_with (first | ((with_reducible refine gate_callee (f := 10) rfl ?_); refine goesL_ (some 37) rfl rfl Tryd.func10 (by kernel_rfl) rfl #[] rfl (by (try simp only [List.map_toArray, List.map_cons, List.map_nil]); first | done | rfl | (simp only [List.length_drop, List.length_take]; rfl)) ?_; (with_reducible refine (forebaylaw06_awake.calls kj3  t251 _ A10.out (MaxAt.below HMX.out (by repeat (first | (with_reducible first | exact HB.out | apply below_alloc | apply pw_below_drewN | apply below_drew1) | exact HB.out)))).mono ?_); rintro e w11 ⟨rfl, hb⟩; refine ⟨_, rfl, ?_⟩; have n0_ := Aside0.mk (below_step (by repeat (first | (with_reducible first | exact HB.out | apply below_alloc | apply pw_below_drewN | apply below_drew1) | exact HB.out)) hb); clear HB; have HB := n0_; clear n0_; (try clear hb); (try clear hb2); (try clear hk); (try clear hi)))
    go_ret
    exact ⟨by first | rfl | (simp [errW_none, errW_some] <;> rfl) | (simp [*, errW_none, errW_some] <;> rfl), by repeat (first | (with_reducible first | exact HB.out | apply below_alloc | apply pw_below_drewN | apply below_drew1) | exact HB.out)⟩
   ·replace c9 := Bool.eq_false_iff.mpr c9
    subst c9
    have H1 : ((some (([] : List (S34)) : List (S34))).bind fun y252 => (if y252.length + l0.length < 4398046511104 then (forebaylaw06_TagOnce.l0 kj3 l0 l1 a2 (y252 ++ l0) 0) else (none))) = some r := by rw [if_neg (show ¬ (false = true) by decide)] at H; exact H
    clear H
    have H := H1
    clear H1
    obtain ⟨y252, hy252⟩ : ∃ y_ : List (S34), y_ = (([] : List (S34))) := ⟨_, rfl⟩
    replace H : (if y252.length + l0.length < 4398046511104 then (forebaylaw06_TagOnce.l0 kj3 l0 l1 a2 (y252 ++ l0) 0) else (none)) = some r := by first | (rw [hy252]; with_reducible exact H) | (have H2_ := (Option.bind_some _ _).symm.trans H; rw [hy252]; with_reducible exact H2_) | (have H2_ := (Option.bind_some _ _).symm.trans H; with_reducible exact H2_) | with_reducible exact H | (rw [hy252]; exact H) | exact H
    have Ny252 := Aside0.mk hy252
    clear hy252
    by_cases c12 : y252.length + l0.length < 4398046511104
    ·rw [if_pos c12] at H
     have LMc12 := Aside0.mk c12
     clear c12
     obtain ⟨y255, hy255⟩ : ∃ y_ : List (S34), y_ = (y252 ++ l0) := ⟨_, rfl⟩
     replace H : (forebaylaw06_TagOnce.l0 kj3 l0 l1 a2 y255 0) = some r := by first | (rw [hy255]; with_reducible exact H) | (have H2_ := (Option.bind_some _ _).symm.trans H; rw [hy255]; with_reducible exact H2_) | (have H2_ := (Option.bind_some _ _).symm.trans H; with_reducible exact H2_) | with_reducible exact H | (rw [hy255]; exact H) | exact H
     have Ny255 := Aside0.mk hy255
     clear hy255
     have HC13 := Aside0.mk H
     clear H
     go_upto_block 0 with (first | ((with_reducible refine gate_dst (N := 38) rfl ?_); (try (refine gate_guard (by rfl) ?_; dsimp only)); refine Kd.R_lit k34 _ 34 ?hg (N := 38) ?hd (xs := ([] : List (S34))) (inner := []) (ok := fun _ => True) (okp := fun _ => True) ?hr ?hp (fun _ hk => hk) trivial (Below.refl _ _) (Nat.le_refl _) (by simp) ?_; (case hd => rfl); (case hg => rfl); (case hr => first | (go_simp; done) | (go_simp; rfl)); (case hp => exact (Reps.none _ _)); intro v253 w14 ho15 hb hg_ hnew_; clear hg_ hnew_; (first | rw [← Ny252.out] at ho15 | (simp only [Int.reduceToNat] at ho15; rw [← Ny252.out] at ho15)); have n0_ := Aside0.mk (Kd.R_lower ho15 (below_size (by repeat (first | (with_reducible first | exact HB.out | apply below_alloc | apply pw_below_drewN | apply below_drew1) | exact HB.out)))); have n1_ := Aside0.mk (below_step (by repeat (first | (with_reducible first | exact HB.out | apply below_alloc | apply pw_below_drewN | apply below_drew1) | exact HB.out)) hb); clear HB; have HO254 := n0_; have HB := n1_; clear n0_ n1_; clear hb ho15) | ((with_reducible refine gate_builtin (b := .append) (xs := #[.tmp 38, .tmp 39]) rfl ?_); (try (refine gate_guard (by rfl) ?_; dsimp only)); at_builtin; refine Kd.R_append_rows k34 (w0 := w) w.heap.size rfl (.tmp 38) (.tmp 39) 23 34 (.agg #[(.string ⟨#[]⟩), (.string ⟨#[]⟩)]) 32 rfl Tryd.underlying23 info34 rfl (by decide) (by omega) v253 y252 l0 _ _ _ (fun _ => True) (fun _ => False) rfl rfl ?aO ?aR (fun _ _ h => h) (fun _ h => h.elim) ?aF ?aB ?aS ?aL ?_; (case aR => repeat (first | exact (Kd.C_below HR0.out HB.out) | (with_reducible refine Kd.C_alloc ?_ _) | (with_reducible refine Kd.C_drewN ?_ _) | (with_reducible refine Kd.C_drew ?_))); (case aB => exact (by repeat (first | (with_reducible first | exact HB.out | apply below_alloc | apply pw_below_drewN | apply below_drew1) | exact HB.out))); (case aF => exact (fun _ _ => trivial)); (case aO => exact (by (with_reducible repeat (first | apply Kd.R_alloc | apply Kd.R_drewN | apply Kd.R_drew)); exact HO254.out)); (case aS => exact (below_size (by repeat (first | (with_reducible first | exact HB.out | apply below_alloc | apply pw_below_drewN | apply below_drew1) | exact HB.out)))); (case aL => have := LMc12.out; omega); intro v256 w16 ho hb hg hat; rw [← Ny255.out] at ho; have n0_ := Aside0.mk (hb); have n1_ := Aside0.mk (ho); clear HB; clear HO254; have HB := n0_; have HO257 := n1_; clear n0_ n1_; clear ho hb hg hat))
     (try simp only [Act.put, List.setIfInBounds_toArray, List.set_cons_zero, List.set_cons_succ])
     go_cut [] (fun wc => ∃ (kq : Nat) (x7_12 : List (S34)), Aside0 (forebaylaw06_TagOnce.j2 kq l0 a2 x7_12 = some r) ∧ Aside0 (kq ≤ kj3) ∧ Aside0 (Kd.R k34 34 wc w.heap.size (fun _ => True) v256 x7_12) ∧ Aside0 (Below w.heap.size w wc))
     case first =>
      have H := HC13.out
      clear HC13
      have H' := Aside0.mk H
      clear H
      go_wp2
      go_loopg [8] kj3 (fun kq v8 w' => ∃ (x7_2 : List (S34)) (x8_2 : Int), v8 = .int .i64 x8_2 ∧ Aside0 (forebaylaw06_TagOnce.l0 kq l0 l1 a2 x7_2 x8_2 = some r) ∧ Aside0 (kq ≤ kj3) ∧ Aside0 (Kd.R k34 34 w' w.heap.size (fun _ => True) v256 x7_2) ∧ Aside0 (Below w.heap.size w w'))
      case atStart => exact ⟨(y255), (0), (by first | rfl | (simp; done) | (simp [*]; done)), H', ⟨Nat.le_refl _⟩, ⟨by (with_reducible repeat (first | apply Kd.R_alloc | apply Kd.R_drewN | apply Kd.R_drew)); exact HO257.out⟩, ⟨by repeat (first | (with_reducible first | exact HB.out | apply below_alloc | apply pw_below_drewN | apply below_drew1) | exact HB.out)⟩⟩
      case round =>
       clear H'
       try clear c1
       try clear p2
       try clear c6
       try clear c7
       try clear c7b0
       try clear c7b1
       try clear c8
       try clear c8b0
       try clear c9
       try clear c10
       try clear c12
       try clear c14
       try clear p2
       obtain ⟨x7_2, x8_2, rfl, HA, HK2, HO_7, HB⟩ := hrel
       cases gk with
       | zero => exact absurd HA.out (by simp [forebaylaw06_TagOnce.l0])
       | succ k2 =>
        have H := HA.out
        clear HA
        simp only [forebaylaw06_TagOnce.l0] at H
        by_cases c17 : (wrap64 (x8_2 + 1)) < (l1.length : Int)
        ·rw [if_pos c17] at H
         have c17b0 : decide ((wrap64 (x8_2 + 1)) < (l1.length : Int)) = true := decide_eq_true c17
         clear c17
         (first | rw [c17b0] | (simp only [i64_w, i32_w]; rw [c17b0]) | skip)
         by_cases c18 : (l0.length : Int) > 0
         ·rw [if_pos c18] at H
          have c18b0 : decide (0 < (l0.length : Int)) = true := decide_eq_true c18
          have c18b1 : decide (0 < l0.length) = true := decide_eq_true (by omega)
          clear c18
          by_cases c19 : 0 ≤ x8_2
          ·rw [if_pos c19] at H
           have c19b0 : decide (0 ≤ x8_2) = true := decide_eq_true c19
           clear c19
           by_cases c20 : x8_2 < (l1.length : Int)
           ·rw [if_pos c20] at H
            have c20b0 : decide (x8_2 < (l1.length : Int)) = true := decide_eq_true c20
            clear c20
            by_cases c21 : (l0.length : Int) = 0
            ·rw [if_pos c21] at H
             exact absurd H (by simp)
            ·rw [if_neg c21] at H
             have c21b0 : ((l0.length : Int) == 0) = false := beq_eq_false_iff_ne.mpr c21
             have c21b1 : ((l0.length : Int) != 0) = true := bne_iff_ne.mpr c21
             have c21b2 : ¬ (l0 = []) := fun h_ => c21 (by rw [h_]; rfl)
             obtain ⟨ji22, hji22⟩ : ∃ j_ : Int, (wrap64 (x8_2 + 1)) = j_ := ⟨_, rfl⟩
             replace H : (if 0 ≤ (ji22) then (if 0 ≤ (Int.tmod (wrap64 ((Int.tmod (rd l1 (ji22)) (l0.length : Int)) + (l0.length : Int))) (l0.length : Int)) then (if (Int.tmod (wrap64 ((Int.tmod (rd l1 (ji22)) (l0.length : Int)) + (l0.length : Int))) (l0.length : Int)) < (x7_2.length : Int) then (if 0 ≤ (Int.tmod (wrap64 ((Int.tmod (rd l1 x8_2) (l0.length : Int)) + (l0.length : Int))) (l0.length : Int)) then (if (Int.tmod (wrap64 ((Int.tmod (rd l1 x8_2) (l0.length : Int)) + (l0.length : Int))) (l0.length : Int)) < (x7_2.length : Int) then (forebaylaw06_TagOnce.l0 k2 l0 l1 a2 ((x7_2.set ((Int.tmod (wrap64 ((Int.tmod (rd l1 x8_2) (l0.length : Int)) + (l0.length : Int))) (l0.length : Int)) : Int).toNat (⟨(rd_T34 x7_2 (Int.tmod (wrap64 ((Int.tmod (rd l1 (ji22)) (l0.length : Int)) + (l0.length : Int))) (l0.length : Int))).f0, (rd_T34 x7_2 (Int.tmod (wrap64 ((Int.tmod (rd l1 (ji22)) (l0.length : Int)) + (l0.length : Int))) (l0.length : Int))).f1⟩ : S34)).set ((Int.tmod (wrap64 ((Int.tmod (rd l1 (ji22)) (l0.length : Int)) + (l0.length : Int))) (l0.length : Int)) : Int).toNat (⟨(rd_T34 x7_2 (Int.tmod (wrap64 ((Int.tmod (rd l1 x8_2) (l0.length : Int)) + (l0.length : Int))) (l0.length : Int))).f0, (rd_T34 x7_2 (Int.tmod (wrap64 ((Int.tmod (rd l1 x8_2) (l0.length : Int)) + (l0.length : Int))) (l0.length : Int))).f1⟩ : S34)) (wrap64 (x8_2 + 2))) else (none)) else (none)) else (none)) else (none)) else (none)) = some r := by first | (rw [hji22] at H; exact H) | (simp only [hji22] at H ⊢; exact H)
             (try rw [hji22] at c17b0)
             have hji22w : (IntKind.i64.wrap (x8_2 + 1)) = ji22 := (i64_w _).trans hji22
             by_cases c23 : 0 ≤ (ji22)
             ·rw [if_pos c23] at H
              have c23b0 : decide (0 ≤ (ji22)) = true := decide_eq_true c23
              clear c23
              obtain ⟨ji24, hji24⟩ : ∃ j_ : Int, (Int.tmod (wrap64 ((Int.tmod (rd l1 (ji22)) (l0.length : Int)) + (l0.length : Int))) (l0.length : Int)) = j_ := ⟨_, rfl⟩
              replace H : (if 0 ≤ (ji24) then (if (ji24) < (x7_2.length : Int) then (if 0 ≤ (Int.tmod (wrap64 ((Int.tmod (rd l1 x8_2) (l0.length : Int)) + (l0.length : Int))) (l0.length : Int)) then (if (Int.tmod (wrap64 ((Int.tmod (rd l1 x8_2) (l0.length : Int)) + (l0.length : Int))) (l0.length : Int)) < (x7_2.length : Int) then (forebaylaw06_TagOnce.l0 k2 l0 l1 a2 ((x7_2.set ((Int.tmod (wrap64 ((Int.tmod (rd l1 x8_2) (l0.length : Int)) + (l0.length : Int))) (l0.length : Int)) : Int).toNat (⟨(rd_T34 x7_2 (ji24)).f0, (rd_T34 x7_2 (ji24)).f1⟩ : S34)).set ((ji24) : Int).toNat (⟨(rd_T34 x7_2 (Int.tmod (wrap64 ((Int.tmod (rd l1 x8_2) (l0.length : Int)) + (l0.length : Int))) (l0.length : Int))).f0, (rd_T34 x7_2 (Int.tmod (wrap64 ((Int.tmod (rd l1 x8_2) (l0.length : Int)) + (l0.length : Int))) (l0.length : Int))).f1⟩ : S34)) (wrap64 (x8_2 + 2))) else (none)) else (none)) else (none)) else (none)) = some r := by first | (rw [hji24] at H; exact H) | (simp only [hji24] at H ⊢; exact H)
              by_cases c25 : 0 ≤ (ji24)
              ·rw [if_pos c25] at H
               have c25b0 : decide (0 ≤ (ji24)) = true := decide_eq_true c25
               clear c25
               by_cases c26 : (ji24) < (x7_2.length : Int)
               ·rw [if_pos c26] at H
                have c26b0 : decide ((ji24) < (x7_2.length : Int)) = true := decide_eq_true c26
                clear c26
                obtain ⟨ji27, hji27⟩ : ∃ j_ : Int, (Int.tmod (wrap64 ((Int.tmod (rd l1 x8_2) (l0.length : Int)) + (l0.length : Int))) (l0.length : Int)) = j_ := ⟨_, rfl⟩
                replace H : (if 0 ≤ (ji27) then (if (ji27) < (x7_2.length : Int) then (forebaylaw06_TagOnce.l0 k2 l0 l1 a2 ((x7_2.set ((ji27) : Int).toNat (⟨(rd_T34 x7_2 (ji24)).f0, (rd_T34 x7_2 (ji24)).f1⟩ : S34)).set ((ji24) : Int).toNat (⟨(rd_T34 x7_2 (ji27)).f0, (rd_T34 x7_2 (ji27)).f1⟩ : S34)) (wrap64 (x8_2 + 2))) else (none)) else (none)) = some r := by first | (rw [hji27] at H; exact H) | (simp only [hji27] at H ⊢; exact H)
                by_cases c28 : 0 ≤ (ji27)
                ·rw [if_pos c28] at H
                 have c28b0 : decide (0 ≤ (ji27)) = true := decide_eq_true c28
                 clear c28
                 by_cases c29 : (ji27) < (x7_2.length : Int)
                 ·rw [if_pos c29] at H
                  have c29b0 : decide ((ji27) < (x7_2.length : Int)) = true := decide_eq_true c29
                  clear c29
                  obtain ⟨y262, hy262⟩ : ∃ y_ : List (S34), y_ = (x7_2.set ((ji27) : Int).toNat (⟨(rd_T34 x7_2 (ji24)).f0, (rd_T34 x7_2 (ji24)).f1⟩ : S34)) := ⟨_, rfl⟩
                  replace H : (forebaylaw06_TagOnce.l0 k2 l0 l1 a2 (y262.set ((ji24) : Int).toNat (⟨(rd_T34 x7_2 (ji27)).f0, (rd_T34 x7_2 (ji27)).f1⟩ : S34)) (wrap64 (x8_2 + 2))) = some r := by first | (rw [hy262]; with_reducible exact H) | (have H2_ := (Option.bind_some _ _).symm.trans H; rw [hy262]; with_reducible exact H2_) | (have H2_ := (Option.bind_some _ _).symm.trans H; with_reducible exact H2_) | with_reducible exact H | (rw [hy262]; exact H) | exact H
                  have Ny262 := Aside0.mk hy262
                  clear hy262
                  obtain ⟨y263, hy263⟩ : ∃ y_ : List (S34), y_ = (y262.set ((ji24) : Int).toNat (⟨(rd_T34 x7_2 (ji27)).f0, (rd_T34 x7_2 (ji27)).f1⟩ : S34)) := ⟨_, rfl⟩
                  replace H : (forebaylaw06_TagOnce.l0 k2 l0 l1 a2 y263 (wrap64 (x8_2 + 2))) = some r := by first | (rw [hy263]; with_reducible exact H) | (have H2_ := (Option.bind_some _ _).symm.trans H; rw [hy263]; with_reducible exact H2_) | (have H2_ := (Option.bind_some _ _).symm.trans H; with_reducible exact H2_) | with_reducible exact H | (rw [hy263]; exact H) | exact H
                  have Ny263 := Aside0.mk hy263
                  clear hy263
                  have H' := Aside0.mk H
                  clear H
                  have p258 : 0 ≤ (x8_2 : Int) := of_decide_eq_true (by first | (with_reducible assumption) | assumption)
                  have q258 : x8_2 < (l1.length : Int) := of_decide_eq_true (by first | (with_reducible assumption) | assumption)
                  obtain ⟨ad258, e258, hx258_0⟩ := Kd.at_int HR1.out x8_2 p258 q258
                  cases e258
                  replace hx258_0 := (HB.out.cell (World.block_lt_of_cell? w _ hx258_0)).trans hx258_0
                  replace p258 := eq_true p258
                  replace q258 := eq_true q258
                  have p259 : 0 ≤ ((ji22) : Int) := of_decide_eq_true (by first | (with_reducible assumption) | assumption)
                  have q259 : (ji22) < (l1.length : Int) := of_decide_eq_true (by first | (with_reducible assumption) | assumption)
                  obtain ⟨ad259, e259, hx259_0⟩ := Kd.at_int HR1.out (ji22) p259 q259
                  obtain rfl : ad258 = ad259 := (by injection e259)
                  replace hx259_0 := (HB.out.cell (World.block_lt_of_cell? w _ hx259_0)).trans hx259_0
                  replace p259 := eq_true p259
                  replace q259 := eq_true q259
                  try go_wp2
                  have n0_ := Aside0.mk (Kd.R_drew HO_7.out)
                  have n1_ := Aside0.mk (below_drew1 HB.out)
                  clear HO_7
                  clear HB
                  have HO_7 := n0_
                  have HB := n1_
                  clear n0_ n1_
                  obtain ⟨Ao33, co33, eo33⟩ := Kd.R_slice HO_7.out
                  (first | subst eo33 | (injection eo33 with f1_ f2_ f3_; have f4_ := f1_.symm; have f5_ := f3_.symm; clear f1_ f2_ f3_; subst f4_; subst f5_))
                  have p260 : 0 ≤ ((ji24) : Int) := of_decide_eq_true (by first | (with_reducible assumption) | assumption)
                  have q260 : (ji24) < (x7_2.length : Int) := of_decide_eq_true (by first | (with_reducible assumption) | assumption)
                  obtain ⟨ad260, e260, hx260_0, hx260_1⟩ := at_T34 (Kd.R_reads' HO_7.out).2.2 (ji24) p260 q260
                  cases e260
                  replace p260 := eq_true p260
                  replace q260 := eq_true q260
                  have p261 : 0 ≤ ((ji27) : Int) := of_decide_eq_true (by first | (with_reducible assumption) | assumption)
                  have q261 : (ji27) < (x7_2.length : Int) := of_decide_eq_true (by first | (with_reducible assumption) | assumption)
                  obtain ⟨ad261, e261, hx261_0, hx261_1⟩ := at_T34 (Kd.R_reads' HO_7.out).2.2 (ji27) p261 q261
                  obtain rfl : ad260 = ad261 := (by injection e261)
                  replace p261 := eq_true p261
                  replace q261 := eq_true q261
                  have p30 : 0 ≤ ((ji27) : Int) := of_decide_eq_true (by first | (with_reducible assumption) | assumption)
                  have q30 : ((ji27) : Int) < ((x7_2.length : Int) : Int) := of_decide_eq_true (by first | (with_reducible assumption) | assumption)
                  obtain ⟨go30, co30, eo30, gb30, gl30, cl30, HG30⟩ := Kd.R_form HO_7.out (by omega)
                  (first | cases eo30 | (injection eo30 with ea_ en_ ec_; (first | subst ea_ | (injection ea_ with ea_; subst ea_)); subst ec_; clear en_))
                  have GB30 := Aside0.mk gb30
                  have GG30 := Aside0.mk HG30
                  clear gb30 gl30 HG30
                  (first | simp only [add_plain] at hx260_0 | skip)
                  (first | simp only [add_plain] at hx260_1 | skip)
                  (first | simp only [add_plain] at hx261_0 | skip)
                  (first | simp only [add_plain] at hx261_1 | skip)
                  obtain ⟨ce30, hcl30, hM30, hcc30, hfr30⟩ := Kd.R_elem HO_7.out z34 ((ji27) : Int) p30 q30
                  obtain rfl := k34_openM hM30
                  have hx30_0 : World.cell? _ ⟨go30, ((ji27) : Int).toNat * 2, none⟩ = some (.string ((rd_T34 x7_2 (ji27)).f0)) := hcc30 0 _ rfl
                  have hx30_1 : World.cell? _ ⟨go30, ((ji27) : Int).toNat * 2 + 1, none⟩ = some (.string ((rd_T34 x7_2 (ji27)).f1)) := hcc30 1 _ rfl
                  have hf30_0 : World.frozen? _ ⟨go30, ((ji27) : Int).toNat * 2, none⟩ = false := hfr30 0
                  have hf30_1 : World.frozen? _ ⟨go30, ((ji27) : Int).toNat * 2 + 1, none⟩ = false := hfr30 1
                  clear hcl30 hcc30 hfr30 hM30
                  replace p30 := eq_true p30
                  replace q30 := eq_true q30
                  obtain ⟨ce34, hcl34, hM34, hcc34, hfr34⟩ := Kd.R_elem HO_7.out z34 ((ji27) : Int) (of_decide_eq_true (by first | (with_reducible assumption) | assumption)) (by have h_ : ((ji27) : Int) < ((x7_2.length : Int) : Int) := of_decide_eq_true (by first | (with_reducible assumption) | assumption); first | exact h_ | (have e_ := (Kd.R_reads' HO_7.out).1; omega) | simpa using h_)
                  obtain rfl := k34_openM hM34
                  have HP34 := (Kd.R_seg HO_7.out ((ji27) : Int) (of_decide_eq_true (by first | (with_reducible assumption) | assumption)) (by have h_ : ((ji27) : Int) < ((x7_2.length : Int) : Int) := of_decide_eq_true (by first | (with_reducible assumption) | assumption); first | exact h_ | (have e_ := (Kd.R_reads' HO_7.out).1; omega) | simpa using h_) (seg := [.string ((rd_T34 x7_2 (ji24)).f0), .string ((rd_T34 x7_2 (ji24)).f1)]) (j := 0) hcl34 hcc34 (show 2 ≤ 2 from by decide) (x' := (⟨(rd_T34 x7_2 (ji24)).f0, (rd_T34 x7_2 (ji24)).f1⟩ : S34)) (k34_mkM _ _ _ (⟨(rd_T34 x7_2 (ji24)).f0, (rd_T34 x7_2 (ji24)).f1⟩ : S34) ) (fun _ hk => hk)).1
                  rw [← Ny262.out] at HP34
                  have HQ34 := Aside0.mk HP34
                  clear hcl34 hcc34 hfr34 hM34 HP34
                  have p31 : 0 ≤ ((ji24) : Int) := of_decide_eq_true (by first | (with_reducible assumption) | assumption)
                  have q31 : ((ji24) : Int) < ((x7_2.length : Int) : Int) := of_decide_eq_true (by first | (with_reducible assumption) | assumption)
                  obtain ⟨ce31, hcl31, hM31, hcc31, hfr31⟩ := Kd.R_elem HQ34.out z34 ((ji24) : Int) p31 q31
                  obtain rfl := k34_openM hM31
                  have hx31_0 : World.cell? _ ⟨go30, ((ji24) : Int).toNat * 2, none⟩ = some (.string ((rd_T34 y262 (ji24)).f0)) := hcc31 0 _ rfl
                  have hx31_1 : World.cell? _ ⟨go30, ((ji24) : Int).toNat * 2 + 1, none⟩ = some (.string ((rd_T34 y262 (ji24)).f1)) := hcc31 1 _ rfl
                  have hf31_0 : World.frozen? _ ⟨go30, ((ji24) : Int).toNat * 2, none⟩ = false := hfr31 0
                  have hf31_1 : World.frozen? _ ⟨go30, ((ji24) : Int).toNat * 2 + 1, none⟩ = false := hfr31 1
                  clear hcl31 hcc31 hfr31 hM31
                  replace p31 := eq_true p31
                  replace q31 := eq_true q31
                  obtain ⟨ce35, hcl35, hM35, hcc35, hfr35⟩ := Kd.R_elem HQ34.out z34 ((ji24) : Int) (of_decide_eq_true (by first | (with_reducible assumption) | assumption)) (by have h_ : ((ji24) : Int) < ((x7_2.length : Int) : Int) := of_decide_eq_true (by first | (with_reducible assumption) | assumption); first | exact h_ | (have e_ := (Kd.R_reads' HO_7.out).1; omega) | simpa using h_)
                  obtain rfl := k34_openM hM35
                  have HP35 := (Kd.R_seg HQ34.out ((ji24) : Int) (of_decide_eq_true (by first | (with_reducible assumption) | assumption)) (by have h_ : ((ji24) : Int) < ((x7_2.length : Int) : Int) := of_decide_eq_true (by first | (with_reducible assumption) | assumption); first | exact h_ | (have e_ := (Kd.R_reads' HO_7.out).1; omega) | simpa using h_) (seg := [.string ((rd_T34 x7_2 (ji27)).f0), .string ((rd_T34 x7_2 (ji27)).f1)]) (j := 0) hcl35 hcc35 (show 2 ≤ 2 from by decide) (x' := (⟨(rd_T34 x7_2 (ji27)).f0, (rd_T34 x7_2 (ji27)).f1⟩ : S34)) (k34_mkM _ _ _ (⟨(rd_T34 x7_2 (ji27)).f0, (rd_T34 x7_2 (ji27)).f1⟩ : S34) ) (fun _ hk => hk)).1
                  rw [← Ny263.out] at HP35
                  have HQ35 := Aside0.mk HP35
                  clear hcl35 hcc35 hfr35 hM35 HP35
                  refine start_ (n := 16) (S := fun w' => w'.cell? ⟨go30, ((ji24)).toNat * 2, none⟩ = some (.string ((rd_T34 x7_2 (ji24)).f0)) ∧ w'.cell? ⟨go30, ((ji24)).toNat * 2 + 1, none⟩ = some (.string ((rd_T34 x7_2 (ji24)).f1)) ∧ w'.cell? ⟨go30, ((ji27)).toNat * 2, none⟩ = some (.string ((rd_T34 x7_2 (ji27)).f0)) ∧ w'.cell? ⟨go30, ((ji27)).toNat * 2 + 1, none⟩ = some (.string ((rd_T34 x7_2 (ji27)).f1))) (ds := [13, 15]) #[false, false, false, false, false, false, false, false, false, false, false, false, false, false, false, false] (by kernel_rfl) rfl rfl ⟨hx260_0, hx260_1, hx261_0, hx261_1⟩ (fun hHeld => ?_); refine with_tabW forebaylaw06_TagOnce.tab9 forebaylaw06_TagOnce.bits9 (fun HT_ HW_ => ?_)
                  generalize wr.drew = w32 at HO_7 HB GG30 HQ34 HQ35 hf30_0 hf30_1 hf31_0 hf31_1 hx260_0 hx260_1 hx261_0 hx261_1 hx30_0 hx30_1 hx31_0 hx31_1 hHeld ⊢
                  have hz0_ : (w32.setCell ⟨go30, ((ji27)).toNat * 2, none⟩ (.string (rd_T34 x7_2 (ji24)).f0)).cell? ⟨go30, ((ji24)).toNat * 2, none⟩ = some (.string (rd_T34 y262 (ji24)).f0) := (cell_oth (w := w32.setCell ⟨go30, ((ji27)).toNat * 2, none⟩ (.string (rd_T34 x7_2 (ji24)).f0)) (a := ⟨go30, ((ji27)).toNat * 2 + 1, none⟩) (v := (.string (rd_T34 x7_2 (ji24)).f1)) (b := ⟨go30, ((ji24)).toNat * 2, none⟩) (fun e => by have e1_ := congrArg Addr.off e; dsimp only at e1_; omega)).symm.trans hx31_0
                  have hz1_ : (w32.setCell ⟨go30, ((ji27)).toNat * 2 + 1, none⟩ (.string (rd_T34 x7_2 (ji24)).f1)).cell? ⟨go30, ((ji24)).toNat * 2 + 1, none⟩ = some (.string (rd_T34 y262 (ji24)).f1) := (cell_two (p := ⟨go30, ((ji27)).toNat * 2, none⟩) (x := (.string (rd_T34 x7_2 (ji24)).f0)) (fun e => by have e1_ := congrArg Addr.off e; dsimp only at e1_; omega) hx260_1).trans hx31_1
                  have hz4_ : ((w32.setCell ⟨go30, ((ji27)).toNat * 2, none⟩ (.string (rd_T34 x7_2 (ji24)).f0)).setCell ⟨go30, ((ji27)).toNat * 2 + 1, none⟩ (.string (rd_T34 x7_2 (ji24)).f1)).cell? ⟨go30, ((ji24)).toNat * 2 + 1, none⟩ = some (.string (rd_T34 y262 (ji24)).f1) := hx31_1
                  have hz2_ : w32.frozen? ⟨go30, ((ji24)).toNat * 2, none⟩ = false := by have h_ := hf31_0; simpa [World.frozen?_setCells] using h_
                  have hz3_ : w32.frozen? ⟨go30, ((ji24)).toNat * 2 + 1, none⟩ = false := by have h_ := hf31_1; simpa [World.frozen?_setCells] using h_
                  refine pure_ (i := 0) (N := some 80) (v := ?_) (a' := ?_) #[true, false, false, false, false, false, false, false, false, false, false, false, false, false, false, false] rfl rfl (any_of HT_.out (by kernel_rfl)) (fun _ _ _ h => h) (Or.inl ⟨by rfl, ?_⟩) ?_ ?_
                  rotate_left
                  ·intro w'
                   go_simp
                   with_reducible rfl
                  rotate_left
                  ·simp only [Act.put, List.setIfInBounds_toArray, List.set_cons_zero, List.set_cons_succ, i64_w, i32_w]
                   rfl
                  refine pure_ (i := 1) (N := some 81) (v := ?_) (a' := ?_) #[true, true, false, false, false, false, false, false, false, false, false, false, false, false, false, false] rfl rfl (any_of HT_.out (by kernel_rfl)) (fun _ _ _ h => h) (Or.inl ⟨by rfl, ?_⟩) ?_ ?_
                  rotate_left
                  ·intro w'
                   go_simp
                   with_reducible rfl
                  rotate_left
                  ·simp only [Act.put, List.setIfInBounds_toArray, List.set_cons_zero, List.set_cons_succ, i64_w, i32_w]
                   rfl
                  refine pure_ (i := 2) (N := some 82) (v := ?_) (a' := ?_) #[true, true, true, false, false, false, false, false, false, false, false, false, false, false, false, false] rfl rfl (any_of HT_.out (by kernel_rfl)) (fun _ _ _ h => h) (Or.inl ⟨by rfl, ?_⟩) ?_ ?_
                  rotate_left
                  ·intro w'
                   go_simp
                   with_reducible rfl
                  rotate_left
                  ·simp only [Act.put, List.setIfInBounds_toArray, List.set_cons_zero, List.set_cons_succ, i64_w, i32_w]
                   rfl
                  refine pure_ (i := 3) (N := some 83) (v := ?_) (a' := ?_) #[true, true, true, true, false, false, false, false, false, false, false, false, false, false, false, false] rfl rfl (any_of HT_.out (by kernel_rfl)) (fun _ _ _ h => h) (Or.inl ⟨by rfl, ?_⟩) ?_ ?_
                  rotate_left
                  ·intro w'
                   go_simp
                   with_reducible rfl
                  rotate_left
                  ·simp only [Act.put, List.setIfInBounds_toArray, List.set_cons_zero, List.set_cons_succ, i64_w, i32_w]
                   rfl
                  refine pure_ (i := 4) (N := some 84) (v := ?_) (a' := ?_) #[true, true, true, true, true, false, false, false, false, false, false, false, false, false, false, false] rfl rfl (any_of HT_.out (by kernel_rfl)) (fun _ _ _ h => h) (Or.inl ⟨by rfl, ?_⟩) ?_ ?_
                  rotate_left
                  ·intro w'
                   go_simp
                   with_reducible rfl
                  rotate_left
                  ·simp only [Act.put, List.setIfInBounds_toArray, List.set_cons_zero, List.set_cons_succ, i64_w, i32_w]
                   rfl
                  refine pure_ (i := 5) (N := some 85) (v := ?_) (a' := ?_) #[true, true, true, true, true, true, false, false, false, false, false, false, false, false, false, false] rfl rfl (any_of HT_.out (by kernel_rfl)) (fun _ _ _ h => h) (Or.inl ⟨by rfl, ?_⟩) ?_ ?_
                  rotate_left
                  ·intro w'
                   go_simp
                   with_reducible rfl
                  rotate_left
                  ·simp only [Act.put, List.setIfInBounds_toArray, List.set_cons_zero, List.set_cons_succ, i64_w, i32_w]
                   rfl
                  refine pure_ (i := 6) (N := some 86) (v := ?_) (a' := ?_) #[true, true, true, true, true, true, true, false, false, false, false, false, false, false, false, false] rfl rfl (any_of HT_.out (by kernel_rfl)) (fun _ _ _ h => h) (Or.inl ⟨by rfl, ?_⟩) ?_ ?_
                  rotate_left
                  ·intro w'
                   go_simp
                   with_reducible rfl
                  rotate_left
                  ·simp only [Act.put, List.setIfInBounds_toArray, List.set_cons_zero, List.set_cons_succ, i64_w, i32_w]
                   rfl
                  refine pure_ (i := 8) (N := some 88) (v := ?_) (a' := ?_) #[true, true, true, true, true, true, true, false, true, false, false, false, false, false, false, false] rfl rfl (any_of HT_.out (by kernel_rfl)) (fun _ _ _ h => h) (Or.inl ⟨by rfl, ?_⟩) ?_ ?_
                  rotate_left
                  ·intro w'
                   go_simp
                   with_reducible rfl
                  rotate_left
                  ·simp only [Act.put, List.setIfInBounds_toArray, List.set_cons_zero, List.set_cons_succ, i64_w, i32_w]
                   rfl
                  refine pure_ (i := 9) (N := some 89) (v := ?_) (a' := ?_) #[true, true, true, true, true, true, true, false, true, true, false, false, false, false, false, false] rfl rfl (any_of HT_.out (by kernel_rfl)) (fun _ _ _ h => h) (Or.inl ⟨by rfl, ?_⟩) ?_ ?_
                  rotate_left
                  ·intro w'
                   go_simp
                   with_reducible rfl
                  rotate_left
                  ·simp only [Act.put, List.setIfInBounds_toArray, List.set_cons_zero, List.set_cons_succ, i64_w, i32_w]
                   rfl
                  refine pure_ (i := 10) (N := some 90) (v := ?_) (a' := ?_) #[true, true, true, true, true, true, true, false, true, true, true, false, false, false, false, false] rfl rfl (any_of HT_.out (by kernel_rfl)) (fun _ _ _ h => h) (Or.inl ⟨by rfl, ?_⟩) ?_ ?_
                  rotate_left
                  ·intro w'
                   go_simp
                   with_reducible rfl
                  rotate_left
                  ·simp only [Act.put, List.setIfInBounds_toArray, List.set_cons_zero, List.set_cons_succ, i64_w, i32_w]
                   rfl
                  refine take_ (i := 7) (N := some 87) (v := ?_) (a' := ?_) #[true, true, true, true, true, true, true, true, true, true, true, false, false, false, false, false] rfl rfl (take_ofW HT_.out HW_.out (by kernel_rfl)) (fun _ _ _ h => h) (Or.inl ⟨by rfl, ?_⟩) hHeld ?_ ?_
                  rotate_left
                  ·rintro w' ⟨s0, s1, s2, s3⟩
                   go_simp
                   with_reducible rfl
                  rotate_left
                  ·simp only [Act.put, List.setIfInBounds_toArray, List.set_cons_zero, List.set_cons_succ, i64_w, i32_w]
                   rfl
                  refine take_ (i := 11) (N := some 91) (v := ?_) (a' := ?_) #[true, true, true, true, true, true, true, true, true, true, true, true, false, false, false, false] rfl rfl (take_ofW HT_.out HW_.out (by kernel_rfl)) (fun _ _ _ h => h) (Or.inl ⟨by rfl, ?_⟩) hHeld ?_ ?_
                  rotate_left
                  ·rintro w' ⟨s0, s1, s2, s3⟩
                   go_simp
                   with_reducible rfl
                  rotate_left
                  ·simp only [Act.put, List.setIfInBounds_toArray, List.set_cons_zero, List.set_cons_succ, i64_w, i32_w]
                   rfl
                  refine pure_ (i := 12) (N := some 92) (v := ?_) (a' := ?_) #[true, true, true, true, true, true, true, true, true, true, true, true, true, false, false, false] rfl rfl (any_of HT_.out (by kernel_rfl)) (fun _ _ _ h => h) (Or.inl ⟨by rfl, ?_⟩) ?_ ?_
                  rotate_left
                  ·intro w'
                   go_simp
                   with_reducible rfl
                  rotate_left
                  ·simp only [Act.put, List.setIfInBounds_toArray, List.set_cons_zero, List.set_cons_succ, i64_w, i32_w]
                   rfl
                  refine last_ (i := 13) (N := none) #[true, true, true, true, true, true, true, true, true, true, true, true, true, true, false, false] rfl rfl (one_of HT_.out (by kernel_rfl)) (by decide) (fun K hK => ?_)
                  refine skip_ (w1 := ?_) (by rfl) rfl ?_ ?_
                  rotate_left
                  ·go_simp
                   rfl
                  refine hK.out _ _ ?_
                  clear hK K
                  refine pure_ (i := 14) (N := some 93) (v := ?_) (a' := ?_) #[true, true, true, true, true, true, true, true, true, true, true, true, true, true, true, false] rfl rfl (any_of HT_.out (by kernel_rfl)) (fun _ _ _ h => h) (Or.inl ⟨by rfl, ?_⟩) ?_ ?_
                  rotate_left
                  ·intro w'
                   go_simp
                   with_reducible rfl
                  rotate_left
                  ·simp only [Act.put, List.setIfInBounds_toArray, List.set_cons_zero, List.set_cons_succ, i64_w, i32_w]
                   rfl
                  refine last_ (i := 15) (N := none) #[true, true, true, true, true, true, true, true, true, true, true, true, true, true, true, true] rfl rfl (one_of HT_.out (by kernel_rfl)) (by decide) (fun K hK => ?_)
                  refine skip_ (w1 := ?_) (by rfl) rfl ?_ ?_
                  rotate_left
                  ·go_simp
                   rfl
                  refine hK.out _ _ ?_
                  clear hK K
                  refine done_ (done_of HT_.out (by kernel_rfl)) ?_
                  try go_wp2
                  go_roundg k2
                  case measure => have := HJ3.out; have := HK2.out; omega
                  case rel => exact ⟨(y263), (wrap64 (x8_2 + 2)), (by first | rfl | (simp; done) | (simp [*]; done)), H', ⟨by have := HJ3.out; have := HK2.out; omega⟩, ⟨by (with_reducible repeat (first | apply Kd.R_alloc | apply Kd.R_drewN | apply Kd.R_drew)); exact HQ35.out⟩, ⟨by repeat (first | (with_reducible first | exact HB.out | apply below_alloc | apply pw_below_drewN | apply below_drew1 | refine below_set ?_ GB30.out | refine below_set ?_ GB30.out | refine below_set ?_ GB30.out | refine below_set ?_ GB30.out) | exact HB.out)⟩⟩
                 ·rw [if_neg c29] at H
                  exact absurd H (by simp)
                ·rw [if_neg c28] at H
                 exact absurd H (by simp)
               ·rw [if_neg c26] at H
                exact absurd H (by simp)
              ·rw [if_neg c25] at H
               exact absurd H (by simp)
             ·rw [if_neg c23] at H
              exact absurd H (by simp)
           ·rw [if_neg c20] at H
            exact absurd H (by simp)
          ·rw [if_neg c19] at H
           exact absurd H (by simp)
         ·rw [if_neg c18] at H
          have c18b0 : decide (0 < (l0.length : Int)) = false := decide_eq_false c18
          have c18b1 : decide (0 < l0.length) = false := decide_eq_false (by omega)
          clear c18
          have H' := Aside0.mk H
          clear H
          go_wp2
          go_meet
          case rel => exact ⟨_, (x7_2), H', ⟨by have := HJ3.out; have := HK2.out; first | omega | exact Nat.le_refl _⟩, ⟨by (with_reducible repeat (first | apply Kd.R_alloc | apply Kd.R_drewN | apply Kd.R_drew)); exact HO_7.out⟩, ⟨by repeat (first | (with_reducible first | exact HB.out | apply below_alloc | apply pw_below_drewN | apply below_drew1) | exact HB.out)⟩⟩
        ·rw [if_neg c17] at H
         have c17b0 : decide ((wrap64 (x8_2 + 1)) < (l1.length : Int)) = false := decide_eq_false c17
         clear c17
         (first | rw [c17b0] | (simp only [i64_w, i32_w]; rw [c17b0]) | skip)
         have H' := Aside0.mk H
         clear H
         go_wp2
         go_meet
         case rel => exact ⟨_, (x7_2), H', ⟨by have := HJ3.out; have := HK2.out; first | omega | exact Nat.le_refl _⟩, ⟨by (with_reducible repeat (first | apply Kd.R_alloc | apply Kd.R_drewN | apply Kd.R_drew)); exact HO_7.out⟩, ⟨by repeat (first | (with_reducible first | exact HB.out | apply below_alloc | apply pw_below_drewN | apply below_drew1) | exact HB.out)⟩⟩
     case rest =>
      clear HC13
      try clear c1
      try clear c2
      try clear p2
      try clear q2
      try clear hx2
      try clear c3
      try clear p3
      try clear q3
      try clear hx3
      try clear hf3
      try clear c6
      try clear p6
      try clear c7
      try clear c7b0
      try clear c7b1
      try clear c8
      try clear c8b0
      try clear c9
      try clear c10
      try clear c12
      try clear c14
      try clear c17
      try clear c17b0
      try clear c18
      try clear c18b0
      try clear c18b1
      try clear c19
      try clear c19b0
      try clear c20
      try clear c20b0
      try clear c21
      try clear c21b0
      try clear c21b1
      try clear c21b2
      try clear c23
      try clear c23b0
      try clear c25
      try clear c25b0
      try clear p25
      try clear q25
      try clear hx25
      try clear c26
      try clear c26b0
      try clear p26
      try clear q26
      try clear hx26
      try clear c28
      try clear c28b0
      try clear c29
      try clear c29b0
      try clear c30
      try clear p30
      try clear q30
      try clear hx30
      try clear hf30
      try clear c31
      try clear p31
      try clear q31
      try clear hx31
      try clear hf31
      try clear c34
      try clear c35
      try clear hx258_0
      try clear hx259_0
      try clear hx260_0
      try clear hx260_1
      try clear hx261_0
      try clear hx261_1
      try clear hx30_0
      try clear hx30_1
      try clear hx31_0
      try clear hx31_1
      try clear p2
      try clear p258
      try clear p259
      try clear p260
      try clear p261
      try clear p30
      try clear p31
      try clear q258
      try clear q259
      try clear q260
      try clear q261
      try clear q30
      try clear q31
      obtain ⟨kq, x7_12, HA, HJ12, HO_7, HB⟩ := hcut
      cases kq with
      | zero => exact absurd HA.out (by simp [forebaylaw06_TagOnce.j2])
      | succ kj12 =>
       have H := HA.out
       clear HA
       simp only [forebaylaw06_TagOnce.j2] at H
       by_cases c36 : 0 ≤ a2
       ·rw [if_pos c36] at H
        have c36b0 := eq_true c36
        have c36b1 : decide (0 ≤ a2) = true := decide_eq_true c36
        clear c36
        by_cases c37 : a2 ≤ (l0.length : Int)
        ·rw [if_pos c37] at H
         have c37b0 := eq_true c37
         have c37b1 : decide (a2 ≤ (l0.length : Int)) = true := decide_eq_true c37
         clear c37
         obtain ⟨y264, hy264⟩ : ∃ y_ : List (S34), y_ = (l0.take (a2 : Int).toNat) := ⟨_, rfl⟩
         replace H : (if x7_12.length + y264.length < 4398046511104 then ((some (x7_12 ++ y264 : List (S34))).bind fun y268 => ((some (([] : List (S34)) : List (S34))).bind fun y271 => (if y271.length + y268.length < 4398046511104 then ((some (y271 ++ y268 : List (S34))).bind fun y274 => ((tag_Normal.f l0).bind fun t277 => ((tag_Normal.f y274).bind fun t280 => ((forebaylaw06_same.f kj12 t280 t277).bind fun t283 => (if t283 = true then ((forebaylaw06_same.f kj12 y274 y268).bind fun t284 => (if t284 = true then ((tag_Is.f kj12 t277).bind fun t285 => (if t285 = true then ((tag_Normal.f t277).bind fun t286 => ((forebaylaw06_same.f kj12 t286 t277).bind fun t289 => (forebaylaw06_TagOnce.j3 kj12 l0 t277 (!t289)))) else (forebaylaw06_TagOnce.j3 kj12 l0 t277 true))) else (forebaylaw06_TagOnce.j3 kj12 l0 t277 true))) else (forebaylaw06_TagOnce.j3 kj12 l0 t277 true)))))) else (none)))) else (none)) = some r := by first | (rw [hy264]; with_reducible exact H) | (have H2_ := (Option.bind_some _ _).symm.trans H; rw [hy264]; with_reducible exact H2_) | (have H2_ := (Option.bind_some _ _).symm.trans H; with_reducible exact H2_) | with_reducible exact H | (rw [hy264]; exact H) | exact H
         have Ny264 := Aside0.mk hy264
         clear hy264
         by_cases c38 : x7_12.length + y264.length < 4398046511104
         ·rw [if_pos c38] at H
          have LMc38 := Aside0.mk c38
          clear c38
          obtain ⟨y268, hy268⟩ : ∃ y_ : List (S34), y_ = (x7_12 ++ y264) := ⟨_, rfl⟩
          replace H : ((some (([] : List (S34)) : List (S34))).bind fun y271 => (if y271.length + y268.length < 4398046511104 then ((some (y271 ++ y268 : List (S34))).bind fun y274 => ((tag_Normal.f l0).bind fun t277 => ((tag_Normal.f y274).bind fun t280 => ((forebaylaw06_same.f kj12 t280 t277).bind fun t283 => (if t283 = true then ((forebaylaw06_same.f kj12 y274 y268).bind fun t284 => (if t284 = true then ((tag_Is.f kj12 t277).bind fun t285 => (if t285 = true then ((tag_Normal.f t277).bind fun t286 => ((forebaylaw06_same.f kj12 t286 t277).bind fun t289 => (forebaylaw06_TagOnce.j3 kj12 l0 t277 (!t289)))) else (forebaylaw06_TagOnce.j3 kj12 l0 t277 true))) else (forebaylaw06_TagOnce.j3 kj12 l0 t277 true))) else (forebaylaw06_TagOnce.j3 kj12 l0 t277 true)))))) else (none))) = some r := by first | (rw [hy268]; with_reducible exact H) | (have H2_ := (Option.bind_some _ _).symm.trans H; rw [hy268]; with_reducible exact H2_) | (have H2_ := (Option.bind_some _ _).symm.trans H; with_reducible exact H2_) | with_reducible exact H | (rw [hy268]; exact H) | exact H
          have Ny268 := Aside0.mk hy268
          clear hy268
          obtain ⟨y271, hy271⟩ : ∃ y_ : List (S34), y_ = (([] : List (S34))) := ⟨_, rfl⟩
          replace H : (if y271.length + y268.length < 4398046511104 then ((some (y271 ++ y268 : List (S34))).bind fun y274 => ((tag_Normal.f l0).bind fun t277 => ((tag_Normal.f y274).bind fun t280 => ((forebaylaw06_same.f kj12 t280 t277).bind fun t283 => (if t283 = true then ((forebaylaw06_same.f kj12 y274 y268).bind fun t284 => (if t284 = true then ((tag_Is.f kj12 t277).bind fun t285 => (if t285 = true then ((tag_Normal.f t277).bind fun t286 => ((forebaylaw06_same.f kj12 t286 t277).bind fun t289 => (forebaylaw06_TagOnce.j3 kj12 l0 t277 (!t289)))) else (forebaylaw06_TagOnce.j3 kj12 l0 t277 true))) else (forebaylaw06_TagOnce.j3 kj12 l0 t277 true))) else (forebaylaw06_TagOnce.j3 kj12 l0 t277 true)))))) else (none)) = some r := by first | (rw [hy271]; with_reducible exact H) | (have H2_ := (Option.bind_some _ _).symm.trans H; rw [hy271]; with_reducible exact H2_) | (have H2_ := (Option.bind_some _ _).symm.trans H; with_reducible exact H2_) | with_reducible exact H | (rw [hy271]; exact H) | exact H
          have Ny271 := Aside0.mk hy271
          clear hy271
          by_cases c39 : y271.length + y268.length < 4398046511104
          ·rw [if_pos c39] at H
           have LMc39 := Aside0.mk c39
           clear c39
           obtain ⟨y274, hy274⟩ : ∃ y_ : List (S34), y_ = (y271 ++ y268) := ⟨_, rfl⟩
           replace H : ((tag_Normal.f l0).bind fun t277 => ((tag_Normal.f y274).bind fun t280 => ((forebaylaw06_same.f kj12 t280 t277).bind fun t283 => (if t283 = true then ((forebaylaw06_same.f kj12 y274 y268).bind fun t284 => (if t284 = true then ((tag_Is.f kj12 t277).bind fun t285 => (if t285 = true then ((tag_Normal.f t277).bind fun t286 => ((forebaylaw06_same.f kj12 t286 t277).bind fun t289 => (forebaylaw06_TagOnce.j3 kj12 l0 t277 (!t289)))) else (forebaylaw06_TagOnce.j3 kj12 l0 t277 true))) else (forebaylaw06_TagOnce.j3 kj12 l0 t277 true))) else (forebaylaw06_TagOnce.j3 kj12 l0 t277 true))))) = some r := by first | (rw [hy274]; with_reducible exact H) | (have H2_ := (Option.bind_some _ _).symm.trans H; rw [hy274]; with_reducible exact H2_) | (have H2_ := (Option.bind_some _ _).symm.trans H; with_reducible exact H2_) | with_reducible exact H | (rw [hy274]; exact H) | exact H
           have Ny274 := Aside0.mk hy274
           clear hy274
           replace H := Option.bind_eq_some_iff.mp H
           obtain ⟨t277, A400, H⟩ := H
           replace H : ((tag_Normal.f y274).bind fun t280 => ((forebaylaw06_same.f kj12 t280 t277).bind fun t283 => (if t283 = true then ((forebaylaw06_same.f kj12 y274 y268).bind fun t284 => (if t284 = true then ((tag_Is.f kj12 t277).bind fun t285 => (if t285 = true then ((tag_Normal.f t277).bind fun t286 => ((forebaylaw06_same.f kj12 t286 t277).bind fun t289 => (forebaylaw06_TagOnce.j3 kj12 l0 t277 (!t289)))) else (forebaylaw06_TagOnce.j3 kj12 l0 t277 true))) else (forebaylaw06_TagOnce.j3 kj12 l0 t277 true))) else (forebaylaw06_TagOnce.j3 kj12 l0 t277 true)))) = some r := H
           have A40 := Aside0.mk A400
           clear A400
           have HC41 := Aside0.mk H
           clear H
           have q42 : (a2 : Int) ≤ ((l0.length : Int) : Int) := of_decide_eq_true (by first | (with_reducible assumption) | assumption)
           obtain ⟨i042, hi042, _, hsz42, _⟩ := info_parts info34
           have hroom42 : l0.length ≤ c0 := HC0.out
           have hC42 : Kd.C k34 _ A0 l0.length l0 := HR0.out
           have hcut42 := cut_to (P := Tryd.prog) 23 34 .i64 Tryd.underlying23 hi042 A0 l0.length c0 a2 (of_decide_eq_true (by first | (with_reducible assumption) | assumption)) q42 hroom42
           have hr42 := Kd.C_take (m := (a2 : Int).toNat) hC42 (by omega)
           have hy42 : y264.length = (a2 : Int).toNat := (by rw [Ny264.out, List.length_take]; omega)
           rw [← Ny264.out] at hr42
           rw [← hy42] at hcut42
           have HR267 := Aside0.mk hr42
           have HC267 := Aside0.mk (show y264.length ≤ c0 from by omega)
           clear hr42 hC42 hroom42 hi042 hsz42
           have KY42 := Aside0.mk hy42
           clear hy42
           replace q42 := eq_true q42
           go_upto_region 13 with (first | ((with_reducible refine gate_builtin (b := .append) (xs := #[.tmp 94, .tmp 97]) rfl ?_); (try (refine gate_guard (by rfl) ?_; dsimp only)); at_builtin; refine Kd.R_append_rows k34 (w0 := w) w.heap.size rfl (.tmp 94) (.tmp 97) 23 34 (.agg #[(.string ⟨#[]⟩), (.string ⟨#[]⟩)]) 32 rfl Tryd.underlying23 info34 rfl (by decide) (by omega) v256 x7_12 y264 _ _ _ (fun _ => True) (fun _ => False) rfl rfl ?aO ?aR (fun _ _ h => h) (fun _ h => h.elim) ?aF ?aB ?aS ?aL ?_; (case aR => repeat (first | exact (Kd.C_below HR267.out HB.out) | (with_reducible refine Kd.C_alloc ?_ _) | (with_reducible refine Kd.C_drewN ?_ _) | (with_reducible refine Kd.C_drew ?_))); (case aB => exact (by repeat (first | (with_reducible first | exact HB.out | apply below_alloc | apply pw_below_drewN | apply below_drew1) | exact HB.out))); (case aF => exact (fun _ _ => trivial)); (case aO => exact (by (with_reducible repeat (first | apply Kd.R_alloc | apply Kd.R_drewN | apply Kd.R_drew)); exact HO_7.out)); (case aS => exact (below_size (by repeat (first | (with_reducible first | exact HB.out | apply below_alloc | apply pw_below_drewN | apply below_drew1) | exact HB.out)))); (case aL => have := LMc38.out; omega); intro v269 w43 ho hb hg hat; rw [← Ny268.out] at ho; have n0_ := Aside0.mk (hb); have n1_ := Aside0.mk (ho); clear HB; clear HO_7; have HB := n0_; have HO270 := n1_; clear n0_ n1_; clear ho hb hg hat) | ((with_reducible refine gate_dst (N := 99) rfl ?_); (try (refine gate_guard (by rfl) ?_; dsimp only)); refine Kd.R_lit k34 _ 34 ?hg (N := 99) ?hd (xs := ([] : List (S34))) (inner := []) (ok := fun _ => True) (okp := fun _ => True) ?hr ?hp (fun _ hk => hk) trivial (Below.refl _ _) (Nat.le_refl _) (by simp) ?_; (case hd => rfl); (case hg => rfl); (case hr => first | (go_simp; done) | (go_simp; rfl)); (case hp => exact (Reps.none _ _)); intro v272 w44 ho45 hb hg_ hnew_; clear hg_ hnew_; (first | rw [← Ny271.out] at ho45 | (simp only [Int.reduceToNat] at ho45; rw [← Ny271.out] at ho45)); have n0_ := Aside0.mk (Kd.R_elder' (by (with_reducible repeat (first | apply Kd.R_alloc | apply Kd.R_drewN | apply Kd.R_drew)); exact HO270.out) (Kd.R_base ho45) hb); have n1_ := Aside0.mk (Kd.R_lower (Kd.R_new' ho45 (Kd.R_lt (by (with_reducible repeat (first | apply Kd.R_alloc | apply Kd.R_drewN | apply Kd.R_drew)); exact HO270.out))) (below_size (by repeat (first | (with_reducible first | exact HB.out | apply below_alloc | apply pw_below_drewN | apply below_drew1) | exact HB.out)))); have n2_ := Aside0.mk (below_step (by repeat (first | (with_reducible first | exact HB.out | apply below_alloc | apply pw_below_drewN | apply below_drew1) | exact HB.out)) hb); clear HO270; clear HB; have HO270 := n0_; have HO273 := n1_; have HB := n2_; clear n0_ n1_ n2_; clear hb ho45; obtain ⟨Ao47, co47, eo47⟩ := Kd.R_slice HO270.out; subst eo47) | ((with_reducible refine gate_builtin (b := .append) (xs := #[.tmp 99, .tmp 100]) rfl ?_); (try (refine gate_guard (by rfl) ?_; dsimp only)); at_builtin; refine Kd.R_append_rows k34 (w0 := w) w.heap.size rfl (.tmp 99) (.tmp 100) 23 34 (.agg #[(.string ⟨#[]⟩), (.string ⟨#[]⟩)]) 32 rfl Tryd.underlying23 info34 rfl (by decide) (by omega) v272 y271 y268 _ _ _ (fun k_ => some k_ ≠ (.slice Ao47 y268.length co47 : Value).ownBlock) (fun _ => False) rfl rfl ?aO ?aR (fun _ _ h => h) (fun _ h => h.elim) ?aF ?aB ?aS ?aL ?_; (case aR => repeat (first | exact (Kd.R_reads' HO270.out).2.2 | (with_reducible refine Kd.C_alloc ?_ _) | (with_reducible refine Kd.C_drewN ?_ _) | (with_reducible refine Kd.C_drew ?_))); (case aB => exact (by repeat (first | (with_reducible first | exact HB.out | apply below_alloc | apply pw_below_drewN | apply below_drew1) | exact HB.out))); (case aF => exact (fun k_ hk => Kd.fresh' (Kd.R_lt (by (with_reducible repeat (first | apply Kd.R_alloc | apply Kd.R_drewN | apply Kd.R_drew)); exact HO270.out)) k_ hk)); (case aO => exact (by (with_reducible repeat (first | apply Kd.R_alloc | apply Kd.R_drewN | apply Kd.R_drew)); exact Kd.R_mono HO273.out (fun _ hk => hk.2))); (case aS => exact (below_size (by repeat (first | (with_reducible first | exact HB.out | apply below_alloc | apply pw_below_drewN | apply below_drew1) | exact HB.out)))); (case aL => have := LMc39.out; omega); intro v275 w46 ho hb hg hat; rw [← Ny274.out] at ho; have n0_ := Aside0.mk (Kd.R_after (ok := (fun _ => True)) (by (with_reducible repeat (first | apply Kd.R_alloc | apply Kd.R_drewN | apply Kd.R_drew)); exact HO270.out) hg hat); have n1_ := Aside0.mk (hb); have n2_ := Aside0.mk (ho); clear HO270; clear HB; clear HO273; have HO270 := n0_; have HB := n1_; have HO276 := n2_; clear n0_ n1_ n2_; clear ho hb hg hat) | ((with_reducible refine gate_callee (f := 20) rfl ?_); refine goesL_ (some 103) rfl rfl Tryd.func20 (by kernel_rfl) rfl #[.slice A0 l0.length c0] rfl (by (try simp only [List.map_toArray, List.map_cons, List.map_nil]); first | done | rfl | (simp only [List.length_drop, List.length_take]; rfl)) ?_; (with_reducible refine (tag_Normal.calls _ _ l0 t277 _ ?side1 ?side2 A40.out).mono ?_); (case side1 => repeat (first | exact (Kd.C_below HR0.out HB.out) | (with_reducible refine Kd.C_alloc ?_ _) | (with_reducible refine Kd.C_drewN ?_ _) | (with_reducible refine Kd.C_drew ?_))); (case side2 => exact HC0.out); rintro e w48 ⟨v278, rfl, ho0, hb⟩; refine ⟨_, rfl, ?_⟩; have n0_ := Aside0.mk (Kd.R_below (by (with_reducible repeat (first | apply Kd.R_alloc | apply Kd.R_drewN | apply Kd.R_drew)); exact HO270.out) hb); have n1_ := Aside0.mk (Kd.R_below (by (with_reducible repeat (first | apply Kd.R_alloc | apply Kd.R_drewN | apply Kd.R_drew)); exact HO276.out) hb); have n2_ := Aside0.mk (Kd.V_lower (Kd.V_mono (ok' := fun k_ => some k_ ≠ (.slice Ao47 y268.length co47 : Value).ownBlock ∧ some k_ ≠ (v275 : Value).ownBlock) ho0 (fun k_ hk_ => ⟨(Kd.fresh' (Kd.R_lt (by (with_reducible repeat (first | apply Kd.R_alloc | apply Kd.R_drewN | apply Kd.R_drew)); exact HO270.out)) k_ hk_), (Kd.fresh' (Kd.R_lt (by (with_reducible repeat (first | apply Kd.R_alloc | apply Kd.R_drewN | apply Kd.R_drew)); exact HO276.out)) k_ hk_)⟩)) (below_size (by repeat (first | (with_reducible first | exact HB.out | apply below_alloc | apply pw_below_drewN | apply below_drew1) | exact HB.out)))); have n3_ := Aside0.mk (below_step (by repeat (first | (with_reducible first | exact HB.out | apply below_alloc | apply pw_below_drewN | apply below_drew1) | exact HB.out)) hb); clear HO270; clear HO276; clear HB; have HO270 := n0_; have HO276 := n1_; have HO279 := n2_; have HB := n3_; clear n0_ n1_ n2_ n3_; (try clear hb); (try clear hb2); (try clear hk); (try clear hi); (try clear ho0)))
           (try simp only [Act.put, List.setIfInBounds_toArray, List.set_cons_zero, List.set_cons_succ])
           go_cut [126] (fun v126 wc => ∃ (kq : Nat) (x126_40 : Bool), v126 = .bool x126_40 ∧ Aside0 (forebaylaw06_TagOnce.j3 kq l0 t277 x126_40 = some r) ∧ Aside0 (kq ≤ kj12) ∧ Aside0 (Kd.V k34 34 wc w.heap.size (fun _ => True) v278 t277) ∧ Aside0 (Below w.heap.size w wc))
           case first =>
            have H := HC41.out
            clear HC41
            replace H := Option.bind_eq_some_iff.mp H
            obtain ⟨t280, A490, H⟩ := H
            replace H : ((forebaylaw06_same.f kj12 t280 t277).bind fun t283 => (if t283 = true then ((forebaylaw06_same.f kj12 y274 y268).bind fun t284 => (if t284 = true then ((tag_Is.f kj12 t277).bind fun t285 => (if t285 = true then ((tag_Normal.f t277).bind fun t286 => ((forebaylaw06_same.f kj12 t286 t277).bind fun t289 => (forebaylaw06_TagOnce.j3 kj12 l0 t277 (!t289)))) else (forebaylaw06_TagOnce.j3 kj12 l0 t277 true))) else (forebaylaw06_TagOnce.j3 kj12 l0 t277 true))) else (forebaylaw06_TagOnce.j3 kj12 l0 t277 true))) = some r := H
            have A49 := Aside0.mk A490
            clear A490
            replace H := Option.bind_eq_some_iff.mp H
            obtain ⟨t283, A500, H⟩ := H
            replace H : (if t283 = true then ((forebaylaw06_same.f kj12 y274 y268).bind fun t284 => (if t284 = true then ((tag_Is.f kj12 t277).bind fun t285 => (if t285 = true then ((tag_Normal.f t277).bind fun t286 => ((forebaylaw06_same.f kj12 t286 t277).bind fun t289 => (forebaylaw06_TagOnce.j3 kj12 l0 t277 (!t289)))) else (forebaylaw06_TagOnce.j3 kj12 l0 t277 true))) else (forebaylaw06_TagOnce.j3 kj12 l0 t277 true))) else (forebaylaw06_TagOnce.j3 kj12 l0 t277 true)) = some r := H
            have A50 := Aside0.mk A500
            clear A500
            by_cases c51 : t283 = true
            ·subst c51
             have H1 : ((forebaylaw06_same.f kj12 y274 y268).bind fun t284 => (if t284 = true then ((tag_Is.f kj12 t277).bind fun t285 => (if t285 = true then ((tag_Normal.f t277).bind fun t286 => ((forebaylaw06_same.f kj12 t286 t277).bind fun t289 => (forebaylaw06_TagOnce.j3 kj12 l0 t277 (!t289)))) else (forebaylaw06_TagOnce.j3 kj12 l0 t277 true))) else (forebaylaw06_TagOnce.j3 kj12 l0 t277 true))) = some r := by rw [if_pos rfl] at H; exact H
             clear H
             have H := H1
             clear H1
             replace H := Option.bind_eq_some_iff.mp H
             obtain ⟨t284, A520, H⟩ := H
             replace H : (if t284 = true then ((tag_Is.f kj12 t277).bind fun t285 => (if t285 = true then ((tag_Normal.f t277).bind fun t286 => ((forebaylaw06_same.f kj12 t286 t277).bind fun t289 => (forebaylaw06_TagOnce.j3 kj12 l0 t277 (!t289)))) else (forebaylaw06_TagOnce.j3 kj12 l0 t277 true))) else (forebaylaw06_TagOnce.j3 kj12 l0 t277 true)) = some r := H
             have A52 := Aside0.mk A520
             clear A520
             by_cases c53 : t284 = true
             ·subst c53
              have H1 : ((tag_Is.f kj12 t277).bind fun t285 => (if t285 = true then ((tag_Normal.f t277).bind fun t286 => ((forebaylaw06_same.f kj12 t286 t277).bind fun t289 => (forebaylaw06_TagOnce.j3 kj12 l0 t277 (!t289)))) else (forebaylaw06_TagOnce.j3 kj12 l0 t277 true))) = some r := by rw [if_pos rfl] at H; exact H
              clear H
              have H := H1
              clear H1
              replace H := Option.bind_eq_some_iff.mp H
              obtain ⟨t285, A540, H⟩ := H
              replace H : (if t285 = true then ((tag_Normal.f t277).bind fun t286 => ((forebaylaw06_same.f kj12 t286 t277).bind fun t289 => (forebaylaw06_TagOnce.j3 kj12 l0 t277 (!t289)))) else (forebaylaw06_TagOnce.j3 kj12 l0 t277 true)) = some r := H
              have A54 := Aside0.mk A540
              clear A540
              by_cases c55 : t285 = true
              ·subst c55
               have H1 : ((tag_Normal.f t277).bind fun t286 => ((forebaylaw06_same.f kj12 t286 t277).bind fun t289 => (forebaylaw06_TagOnce.j3 kj12 l0 t277 (!t289)))) = some r := by rw [if_pos rfl] at H; exact H
               clear H
               have H := H1
               clear H1
               replace H := Option.bind_eq_some_iff.mp H
               obtain ⟨t286, A560, H⟩ := H
               replace H : ((forebaylaw06_same.f kj12 t286 t277).bind fun t289 => (forebaylaw06_TagOnce.j3 kj12 l0 t277 (!t289))) = some r := H
               have A56 := Aside0.mk A560
               clear A560
               replace H := Option.bind_eq_some_iff.mp H
               obtain ⟨t289, A570, H⟩ := H
               replace H : (forebaylaw06_TagOnce.j3 kj12 l0 t277 (!t289)) = some r := H
               have A57 := Aside0.mk A570
               clear A570
               have H' := Aside0.mk H
               clear H
               obtain ⟨Ao58, co58, eo58⟩ := Kd.R_slice HO276.out
               subst eo58
               go_wp2_with (first | ((with_reducible refine gate_callee (f := 20) rfl ?_); refine goesL_ (some 105) rfl rfl Tryd.func20 (by kernel_rfl) rfl #[.slice Ao58 y274.length co58] rfl (by (try simp only [List.map_toArray, List.map_cons, List.map_nil]); first | done | rfl | (simp only [List.length_drop, List.length_take]; rfl)) ?_; (with_reducible refine (tag_Normal.calls _ _ y274 t280 _ ?side1 ?side2 A49.out).mono ?_); (case side1 => repeat (first | exact (Kd.R_reads' HO276.out).2.2 | (with_reducible refine Kd.C_alloc ?_ _) | (with_reducible refine Kd.C_drewN ?_ _) | (with_reducible refine Kd.C_drew ?_))); (case side2 => exact (Kd.R_reads' HO276.out).2.1); rintro e w59 ⟨v281, rfl, ho0, hb⟩; refine ⟨_, rfl, ?_⟩; have n0_ := Aside0.mk (Kd.R_below (by (with_reducible repeat (first | apply Kd.R_alloc | apply Kd.R_drewN | apply Kd.R_drew)); exact HO270.out) hb); have n1_ := Aside0.mk (Kd.R_below (by (with_reducible repeat (first | apply Kd.R_alloc | apply Kd.R_drewN | apply Kd.R_drew)); exact HO276.out) hb); have n2_ := Aside0.mk (Kd.V_below (by (with_reducible repeat (first | apply Kd.V_alloc | apply Kd.V_drewN | apply Kd.V_drew)); exact HO279.out) hb); have n3_ := Aside0.mk (Kd.V_lower (Kd.V_mono (ok' := fun k_ => some k_ ≠ (.slice Ao47 y268.length co47 : Value).ownBlock ∧ some k_ ≠ (.slice Ao58 y274.length co58 : Value).ownBlock) ho0 (fun k_ hk_ => ⟨(Kd.fresh' (Kd.R_lt (by (with_reducible repeat (first | apply Kd.R_alloc | apply Kd.R_drewN | apply Kd.R_drew)); exact HO270.out)) k_ hk_), (Kd.fresh' (Kd.R_lt (by (with_reducible repeat (first | apply Kd.R_alloc | apply Kd.R_drewN | apply Kd.R_drew)); exact HO276.out)) k_ hk_)⟩)) (below_size (by repeat (first | (with_reducible first | exact HB.out | apply below_alloc | apply pw_below_drewN | apply below_drew1) | exact HB.out)))); have n4_ := Aside0.mk (below_step (by repeat (first | (with_reducible first | exact HB.out | apply below_alloc | apply pw_below_drewN | apply below_drew1) | exact HB.out)) hb); clear HO270; clear HO276; clear HO279; clear HB; have HO270 := n0_; have HO276 := n1_; have HO279 := n2_; have HO282 := n3_; have HB := n4_; clear n0_ n1_ n2_ n3_ n4_; (try clear hb); (try clear hb2); (try clear hk); (try clear hi); (try clear ho0); obtain ⟨Ao60, co60, eo60⟩ := Kd.V_slice HO282.out; subst eo60; obtain ⟨Ao61, co61, eo61⟩ := Kd.V_slice HO279.out; subst eo61) | ((with_reducible refine gate_callee (f := 13) rfl ?_); refine goesL_ (some 107) rfl rfl Tryd.func13 (by kernel_rfl) rfl #[.slice Ao60 t280.length co60, .slice Ao61 t277.length co61] rfl (by (try simp only [List.map_toArray, List.map_cons, List.map_nil]); first | done | rfl | (simp only [List.length_drop, List.length_take]; rfl)) ?_; (with_reducible refine (forebaylaw06_same.calls kj12 _ _ t280 _ _ t277 true _ ?side1 ?side2 ?side3 ?side4 A50.out).mono ?_); (case side1 => repeat (first | exact (Kd.V_reads' HO282.out).2.2 | (with_reducible refine Kd.C_alloc ?_ _) | (with_reducible refine Kd.C_drewN ?_ _) | (with_reducible refine Kd.C_drew ?_))); (case side2 => exact (Kd.V_reads' HO282.out).2.1); (case side3 => repeat (first | exact (Kd.V_reads' HO279.out).2.2 | (with_reducible refine Kd.C_alloc ?_ _) | (with_reducible refine Kd.C_drewN ?_ _) | (with_reducible refine Kd.C_drew ?_))); (case side4 => exact (Kd.V_reads' HO279.out).2.1); rintro e w' ⟨rfl, ⟨nd, rfl⟩⟩; refine ⟨_, rfl, ?_⟩) | (go_at_call 13; (with_reducible refine (forebaylaw06_same.calls kj12 _ _ y274 _ _ y268 true _ ?side1 ?side2 ?side3 ?side4 A52.out).mono ?_); (case side1 => repeat (first | exact (Kd.R_reads' HO276.out).2.2 | (with_reducible refine Kd.C_alloc ?_ _) | (with_reducible refine Kd.C_drewN ?_ _) | (with_reducible refine Kd.C_drew ?_))); (case side2 => exact (Kd.R_reads' HO276.out).2.1); (case side3 => repeat (first | exact (Kd.R_reads' HO270.out).2.2 | (with_reducible refine Kd.C_alloc ?_ _) | (with_reducible refine Kd.C_drewN ?_ _) | (with_reducible refine Kd.C_drew ?_))); (case side4 => exact (Kd.R_reads' HO270.out).2.1); rintro e w' ⟨rfl, ⟨nd, rfl⟩⟩) | (go_at_call 21; (with_reducible refine (tag_Is.calls kj12 _ _ t277 true _ ?side1 ?side2 A54.out).mono ?_); (case side1 => repeat (first | exact (Kd.V_reads' HO279.out).2.2 | (with_reducible refine Kd.C_alloc ?_ _) | (with_reducible refine Kd.C_drewN ?_ _) | (with_reducible refine Kd.C_drew ?_))); (case side2 => exact (Kd.V_reads' HO279.out).2.1); rintro e w62 ⟨rfl, hb⟩; have n0_ := Aside0.mk (Kd.R_below (by (with_reducible repeat (first | apply Kd.R_alloc | apply Kd.R_drewN | apply Kd.R_drew)); exact HO270.out) hb); have n1_ := Aside0.mk (Kd.R_below (by (with_reducible repeat (first | apply Kd.R_alloc | apply Kd.R_drewN | apply Kd.R_drew)); exact HO276.out) hb); have n2_ := Aside0.mk (Kd.V_below (by (with_reducible repeat (first | apply Kd.V_alloc | apply Kd.V_drewN | apply Kd.V_drew)); exact HO279.out) hb); have n3_ := Aside0.mk (Kd.V_below (by (with_reducible repeat (first | apply Kd.V_alloc | apply Kd.V_drewN | apply Kd.V_drew)); exact HO282.out) hb); have n4_ := Aside0.mk (below_step (by repeat (first | (with_reducible first | exact HB.out | apply below_alloc | apply pw_below_drewN | apply below_drew1) | exact HB.out)) hb); clear HO270; clear HO276; clear HO279; clear HO282; clear HB; have HO270 := n0_; have HO276 := n1_; have HO279 := n2_; have HO282 := n3_; have HB := n4_; clear n0_ n1_ n2_ n3_ n4_; (try clear hb); (try clear hb2); (try clear hk); (try clear hi)) | (go_at_call 20; (with_reducible refine (tag_Normal.calls _ _ t277 t286 _ ?side1 ?side2 A56.out).mono ?_); (case side1 => repeat (first | exact (Kd.V_reads' HO279.out).2.2 | (with_reducible refine Kd.C_alloc ?_ _) | (with_reducible refine Kd.C_drewN ?_ _) | (with_reducible refine Kd.C_drew ?_))); (case side2 => exact (Kd.V_reads' HO279.out).2.1); rintro e w63 ⟨v287, rfl, ho0, hb⟩; have n0_ := Aside0.mk (Kd.R_below (by (with_reducible repeat (first | apply Kd.R_alloc | apply Kd.R_drewN | apply Kd.R_drew)); exact HO270.out) hb); have n1_ := Aside0.mk (Kd.R_below (by (with_reducible repeat (first | apply Kd.R_alloc | apply Kd.R_drewN | apply Kd.R_drew)); exact HO276.out) hb); have n2_ := Aside0.mk (Kd.V_below (by (with_reducible repeat (first | apply Kd.V_alloc | apply Kd.V_drewN | apply Kd.V_drew)); exact HO279.out) hb); have n3_ := Aside0.mk (Kd.V_below (by (with_reducible repeat (first | apply Kd.V_alloc | apply Kd.V_drewN | apply Kd.V_drew)); exact HO282.out) hb); have n4_ := Aside0.mk (Kd.V_lower (Kd.V_mono (ok' := fun k_ => some k_ ≠ (.slice Ao47 y268.length co47 : Value).ownBlock ∧ some k_ ≠ (.slice Ao58 y274.length co58 : Value).ownBlock) ho0 (fun k_ hk_ => ⟨(Kd.fresh' (Kd.R_lt (by (with_reducible repeat (first | apply Kd.R_alloc | apply Kd.R_drewN | apply Kd.R_drew)); exact HO270.out)) k_ hk_), (Kd.fresh' (Kd.R_lt (by (with_reducible repeat (first | apply Kd.R_alloc | apply Kd.R_drewN | apply Kd.R_drew)); exact HO276.out)) k_ hk_)⟩)) (below_size (by repeat (first | (with_reducible first | exact HB.out | apply below_alloc | apply pw_below_drewN | apply below_drew1) | exact HB.out)))); have n5_ := Aside0.mk (below_step (by repeat (first | (with_reducible first | exact HB.out | apply below_alloc | apply pw_below_drewN | apply below_drew1) | exact HB.out)) hb); clear HO270; clear HO276; clear HO279; clear HO282; clear HB; have HO270 := n0_; have HO276 := n1_; have HO279 := n2_; have HO282 := n3_; have HO288 := n4_; have HB := n5_; clear n0_ n1_ n2_ n3_ n4_ n5_; (try clear hb); (try clear hb2); (try clear hk); (try clear hi); (try clear ho0); obtain ⟨Ao64, co64, eo64⟩ := Kd.V_slice HO288.out; subst eo64) | (go_at_call 13; (with_reducible refine (forebaylaw06_same.calls kj12 _ _ t286 _ _ t277 t289 _ ?side1 ?side2 ?side3 ?side4 A57.out).mono ?_); (case side1 => repeat (first | exact (Kd.V_reads' HO288.out).2.2 | (with_reducible refine Kd.C_alloc ?_ _) | (with_reducible refine Kd.C_drewN ?_ _) | (with_reducible refine Kd.C_drew ?_))); (case side2 => exact (Kd.V_reads' HO288.out).2.1); (case side3 => repeat (first | exact (Kd.V_reads' HO279.out).2.2 | (with_reducible refine Kd.C_alloc ?_ _) | (with_reducible refine Kd.C_drewN ?_ _) | (with_reducible refine Kd.C_drew ?_))); (case side4 => exact (Kd.V_reads' HO279.out).2.1); rintro e w' ⟨rfl, ⟨nd, rfl⟩⟩))
               go_meet
               case rel => exact ⟨_, (!t289), (by first | rfl | (simp; done) | (simp [*]; done)), H', ⟨by have := HJ3.out; have := HJ12.out; first | omega | exact Nat.le_refl _⟩, ⟨by (with_reducible repeat (first | apply Kd.V_alloc | apply Kd.V_drewN | apply Kd.V_drew)); exact Kd.V_mono HO279.out (fun _ hk => trivial)⟩, ⟨by repeat (first | (with_reducible first | exact HB.out | apply below_alloc | apply pw_below_drewN | apply below_drew1) | exact HB.out)⟩⟩
              ·replace c55 := Bool.eq_false_iff.mpr c55
               subst c55
               have H1 : (forebaylaw06_TagOnce.j3 kj12 l0 t277 true) = some r := by rw [if_neg (show ¬ (false = true) by decide)] at H; exact H
               clear H
               have H := H1
               clear H1
               have H' := Aside0.mk H
               clear H
               obtain ⟨Ao65, co65, eo65⟩ := Kd.R_slice HO276.out
               subst eo65
               go_wp2_with (first | ((with_reducible refine gate_callee (f := 20) rfl ?_); refine goesL_ (some 105) rfl rfl Tryd.func20 (by kernel_rfl) rfl #[.slice Ao65 y274.length co65] rfl (by (try simp only [List.map_toArray, List.map_cons, List.map_nil]); first | done | rfl | (simp only [List.length_drop, List.length_take]; rfl)) ?_; (with_reducible refine (tag_Normal.calls _ _ y274 t280 _ ?side1 ?side2 A49.out).mono ?_); (case side1 => repeat (first | exact (Kd.R_reads' HO276.out).2.2 | (with_reducible refine Kd.C_alloc ?_ _) | (with_reducible refine Kd.C_drewN ?_ _) | (with_reducible refine Kd.C_drew ?_))); (case side2 => exact (Kd.R_reads' HO276.out).2.1); rintro e w66 ⟨v281, rfl, ho0, hb⟩; refine ⟨_, rfl, ?_⟩; have n0_ := Aside0.mk (Kd.R_below (by (with_reducible repeat (first | apply Kd.R_alloc | apply Kd.R_drewN | apply Kd.R_drew)); exact HO270.out) hb); have n1_ := Aside0.mk (Kd.R_below (by (with_reducible repeat (first | apply Kd.R_alloc | apply Kd.R_drewN | apply Kd.R_drew)); exact HO276.out) hb); have n2_ := Aside0.mk (Kd.V_below (by (with_reducible repeat (first | apply Kd.V_alloc | apply Kd.V_drewN | apply Kd.V_drew)); exact HO279.out) hb); have n3_ := Aside0.mk (Kd.V_lower (Kd.V_mono (ok' := fun k_ => some k_ ≠ (.slice Ao47 y268.length co47 : Value).ownBlock ∧ some k_ ≠ (.slice Ao65 y274.length co65 : Value).ownBlock) ho0 (fun k_ hk_ => ⟨(Kd.fresh' (Kd.R_lt (by (with_reducible repeat (first | apply Kd.R_alloc | apply Kd.R_drewN | apply Kd.R_drew)); exact HO270.out)) k_ hk_), (Kd.fresh' (Kd.R_lt (by (with_reducible repeat (first | apply Kd.R_alloc | apply Kd.R_drewN | apply Kd.R_drew)); exact HO276.out)) k_ hk_)⟩)) (below_size (by repeat (first | (with_reducible first | exact HB.out | apply below_alloc | apply pw_below_drewN | apply below_drew1) | exact HB.out)))); have n4_ := Aside0.mk (below_step (by repeat (first | (with_reducible first | exact HB.out | apply below_alloc | apply pw_below_drewN | apply below_drew1) | exact HB.out)) hb); clear HO270; clear HO276; clear HO279; clear HB; have HO270 := n0_; have HO276 := n1_; have HO279 := n2_; have HO282 := n3_; have HB := n4_; clear n0_ n1_ n2_ n3_ n4_; (try clear hb); (try clear hb2); (try clear hk); (try clear hi); (try clear ho0); obtain ⟨Ao67, co67, eo67⟩ := Kd.V_slice HO282.out; subst eo67; obtain ⟨Ao68, co68, eo68⟩ := Kd.V_slice HO279.out; subst eo68) | ((with_reducible refine gate_callee (f := 13) rfl ?_); refine goesL_ (some 107) rfl rfl Tryd.func13 (by kernel_rfl) rfl #[.slice Ao67 t280.length co67, .slice Ao68 t277.length co68] rfl (by (try simp only [List.map_toArray, List.map_cons, List.map_nil]); first | done | rfl | (simp only [List.length_drop, List.length_take]; rfl)) ?_; (with_reducible refine (forebaylaw06_same.calls kj12 _ _ t280 _ _ t277 true _ ?side1 ?side2 ?side3 ?side4 A50.out).mono ?_); (case side1 => repeat (first | exact (Kd.V_reads' HO282.out).2.2 | (with_reducible refine Kd.C_alloc ?_ _) | (with_reducible refine Kd.C_drewN ?_ _) | (with_reducible refine Kd.C_drew ?_))); (case side2 => exact (Kd.V_reads' HO282.out).2.1); (case side3 => repeat (first | exact (Kd.V_reads' HO279.out).2.2 | (with_reducible refine Kd.C_alloc ?_ _) | (with_reducible refine Kd.C_drewN ?_ _) | (with_reducible refine Kd.C_drew ?_))); (case side4 => exact (Kd.V_reads' HO279.out).2.1); rintro e w' ⟨rfl, ⟨nd, rfl⟩⟩; refine ⟨_, rfl, ?_⟩) | (go_at_call 13; (with_reducible refine (forebaylaw06_same.calls kj12 _ _ y274 _ _ y268 true _ ?side1 ?side2 ?side3 ?side4 A52.out).mono ?_); (case side1 => repeat (first | exact (Kd.R_reads' HO276.out).2.2 | (with_reducible refine Kd.C_alloc ?_ _) | (with_reducible refine Kd.C_drewN ?_ _) | (with_reducible refine Kd.C_drew ?_))); (case side2 => exact (Kd.R_reads' HO276.out).2.1); (case side3 => repeat (first | exact (Kd.R_reads' HO270.out).2.2 | (with_reducible refine Kd.C_alloc ?_ _) | (with_reducible refine Kd.C_drewN ?_ _) | (with_reducible refine Kd.C_drew ?_))); (case side4 => exact (Kd.R_reads' HO270.out).2.1); rintro e w' ⟨rfl, ⟨nd, rfl⟩⟩) | (go_at_call 21; (with_reducible refine (tag_Is.calls kj12 _ _ t277 false _ ?side1 ?side2 A54.out).mono ?_); (case side1 => repeat (first | exact (Kd.V_reads' HO279.out).2.2 | (with_reducible refine Kd.C_alloc ?_ _) | (with_reducible refine Kd.C_drewN ?_ _) | (with_reducible refine Kd.C_drew ?_))); (case side2 => exact (Kd.V_reads' HO279.out).2.1); rintro e w69 ⟨rfl, hb⟩; have n0_ := Aside0.mk (Kd.R_below (by (with_reducible repeat (first | apply Kd.R_alloc | apply Kd.R_drewN | apply Kd.R_drew)); exact HO270.out) hb); have n1_ := Aside0.mk (Kd.R_below (by (with_reducible repeat (first | apply Kd.R_alloc | apply Kd.R_drewN | apply Kd.R_drew)); exact HO276.out) hb); have n2_ := Aside0.mk (Kd.V_below (by (with_reducible repeat (first | apply Kd.V_alloc | apply Kd.V_drewN | apply Kd.V_drew)); exact HO279.out) hb); have n3_ := Aside0.mk (Kd.V_below (by (with_reducible repeat (first | apply Kd.V_alloc | apply Kd.V_drewN | apply Kd.V_drew)); exact HO282.out) hb); have n4_ := Aside0.mk (below_step (by repeat (first | (with_reducible first | exact HB.out | apply below_alloc | apply pw_below_drewN | apply below_drew1) | exact HB.out)) hb); clear HO270; clear HO276; clear HO279; clear HO282; clear HB; have HO270 := n0_; have HO276 := n1_; have HO279 := n2_; have HO282 := n3_; have HB := n4_; clear n0_ n1_ n2_ n3_ n4_; (try clear hb); (try clear hb2); (try clear hk); (try clear hi)))
               go_meet
               case rel => exact ⟨_, (true), (by first | rfl | (simp; done) | (simp [*]; done)), H', ⟨by have := HJ3.out; have := HJ12.out; first | omega | exact Nat.le_refl _⟩, ⟨by (with_reducible repeat (first | apply Kd.V_alloc | apply Kd.V_drewN | apply Kd.V_drew)); exact Kd.V_mono HO279.out (fun _ hk => trivial)⟩, ⟨by repeat (first | (with_reducible first | exact HB.out | apply below_alloc | apply pw_below_drewN | apply below_drew1) | exact HB.out)⟩⟩
             ·replace c53 := Bool.eq_false_iff.mpr c53
              subst c53
              have H1 : (forebaylaw06_TagOnce.j3 kj12 l0 t277 true) = some r := by rw [if_neg (show ¬ (false = true) by decide)] at H; exact H
              clear H
              have H := H1
              clear H1
              have H' := Aside0.mk H
              clear H
              obtain ⟨Ao70, co70, eo70⟩ := Kd.R_slice HO276.out
              subst eo70
              go_wp2_with (first | ((with_reducible refine gate_callee (f := 20) rfl ?_); refine goesL_ (some 105) rfl rfl Tryd.func20 (by kernel_rfl) rfl #[.slice Ao70 y274.length co70] rfl (by (try simp only [List.map_toArray, List.map_cons, List.map_nil]); first | done | rfl | (simp only [List.length_drop, List.length_take]; rfl)) ?_; (with_reducible refine (tag_Normal.calls _ _ y274 t280 _ ?side1 ?side2 A49.out).mono ?_); (case side1 => repeat (first | exact (Kd.R_reads' HO276.out).2.2 | (with_reducible refine Kd.C_alloc ?_ _) | (with_reducible refine Kd.C_drewN ?_ _) | (with_reducible refine Kd.C_drew ?_))); (case side2 => exact (Kd.R_reads' HO276.out).2.1); rintro e w71 ⟨v281, rfl, ho0, hb⟩; refine ⟨_, rfl, ?_⟩; have n0_ := Aside0.mk (Kd.R_below (by (with_reducible repeat (first | apply Kd.R_alloc | apply Kd.R_drewN | apply Kd.R_drew)); exact HO270.out) hb); have n1_ := Aside0.mk (Kd.R_below (by (with_reducible repeat (first | apply Kd.R_alloc | apply Kd.R_drewN | apply Kd.R_drew)); exact HO276.out) hb); have n2_ := Aside0.mk (Kd.V_below (by (with_reducible repeat (first | apply Kd.V_alloc | apply Kd.V_drewN | apply Kd.V_drew)); exact HO279.out) hb); have n3_ := Aside0.mk (Kd.V_lower (Kd.V_mono (ok' := fun k_ => some k_ ≠ (.slice Ao47 y268.length co47 : Value).ownBlock ∧ some k_ ≠ (.slice Ao70 y274.length co70 : Value).ownBlock) ho0 (fun k_ hk_ => ⟨(Kd.fresh' (Kd.R_lt (by (with_reducible repeat (first | apply Kd.R_alloc | apply Kd.R_drewN | apply Kd.R_drew)); exact HO270.out)) k_ hk_), (Kd.fresh' (Kd.R_lt (by (with_reducible repeat (first | apply Kd.R_alloc | apply Kd.R_drewN | apply Kd.R_drew)); exact HO276.out)) k_ hk_)⟩)) (below_size (by repeat (first | (with_reducible first | exact HB.out | apply below_alloc | apply pw_below_drewN | apply below_drew1) | exact HB.out)))); have n4_ := Aside0.mk (below_step (by repeat (first | (with_reducible first | exact HB.out | apply below_alloc | apply pw_below_drewN | apply below_drew1) | exact HB.out)) hb); clear HO270; clear HO276; clear HO279; clear HB; have HO270 := n0_; have HO276 := n1_; have HO279 := n2_; have HO282 := n3_; have HB := n4_; clear n0_ n1_ n2_ n3_ n4_; (try clear hb); (try clear hb2); (try clear hk); (try clear hi); (try clear ho0); obtain ⟨Ao72, co72, eo72⟩ := Kd.V_slice HO282.out; subst eo72; obtain ⟨Ao73, co73, eo73⟩ := Kd.V_slice HO279.out; subst eo73) | ((with_reducible refine gate_callee (f := 13) rfl ?_); refine goesL_ (some 107) rfl rfl Tryd.func13 (by kernel_rfl) rfl #[.slice Ao72 t280.length co72, .slice Ao73 t277.length co73] rfl (by (try simp only [List.map_toArray, List.map_cons, List.map_nil]); first | done | rfl | (simp only [List.length_drop, List.length_take]; rfl)) ?_; (with_reducible refine (forebaylaw06_same.calls kj12 _ _ t280 _ _ t277 true _ ?side1 ?side2 ?side3 ?side4 A50.out).mono ?_); (case side1 => repeat (first | exact (Kd.V_reads' HO282.out).2.2 | (with_reducible refine Kd.C_alloc ?_ _) | (with_reducible refine Kd.C_drewN ?_ _) | (with_reducible refine Kd.C_drew ?_))); (case side2 => exact (Kd.V_reads' HO282.out).2.1); (case side3 => repeat (first | exact (Kd.V_reads' HO279.out).2.2 | (with_reducible refine Kd.C_alloc ?_ _) | (with_reducible refine Kd.C_drewN ?_ _) | (with_reducible refine Kd.C_drew ?_))); (case side4 => exact (Kd.V_reads' HO279.out).2.1); rintro e w' ⟨rfl, ⟨nd, rfl⟩⟩; refine ⟨_, rfl, ?_⟩) | (go_at_call 13; (with_reducible refine (forebaylaw06_same.calls kj12 _ _ y274 _ _ y268 false _ ?side1 ?side2 ?side3 ?side4 A52.out).mono ?_); (case side1 => repeat (first | exact (Kd.R_reads' HO276.out).2.2 | (with_reducible refine Kd.C_alloc ?_ _) | (with_reducible refine Kd.C_drewN ?_ _) | (with_reducible refine Kd.C_drew ?_))); (case side2 => exact (Kd.R_reads' HO276.out).2.1); (case side3 => repeat (first | exact (Kd.R_reads' HO270.out).2.2 | (with_reducible refine Kd.C_alloc ?_ _) | (with_reducible refine Kd.C_drewN ?_ _) | (with_reducible refine Kd.C_drew ?_))); (case side4 => exact (Kd.R_reads' HO270.out).2.1); rintro e w' ⟨rfl, ⟨nd, rfl⟩⟩))
              go_meet
              case rel => exact ⟨_, (true), (by first | rfl | (simp; done) | (simp [*]; done)), H', ⟨by have := HJ3.out; have := HJ12.out; first | omega | exact Nat.le_refl _⟩, ⟨by (with_reducible repeat (first | apply Kd.V_alloc | apply Kd.V_drewN | apply Kd.V_drew)); exact Kd.V_mono HO279.out (fun _ hk => trivial)⟩, ⟨by repeat (first | (with_reducible first | exact HB.out | apply below_alloc | apply pw_below_drewN | apply below_drew1) | exact HB.out)⟩⟩
            ·replace c51 := Bool.eq_false_iff.mpr c51
             subst c51
             have H1 : (forebaylaw06_TagOnce.j3 kj12 l0 t277 true) = some r := by rw [if_neg (show ¬ (false = true) by decide)] at H; exact H
             clear H
             have H := H1
             clear H1
             have H' := Aside0.mk H
             clear H
             obtain ⟨Ao74, co74, eo74⟩ := Kd.R_slice HO276.out
             subst eo74
             go_wp2_with (first | ((with_reducible refine gate_callee (f := 20) rfl ?_); refine goesL_ (some 105) rfl rfl Tryd.func20 (by kernel_rfl) rfl #[.slice Ao74 y274.length co74] rfl (by (try simp only [List.map_toArray, List.map_cons, List.map_nil]); first | done | rfl | (simp only [List.length_drop, List.length_take]; rfl)) ?_; (with_reducible refine (tag_Normal.calls _ _ y274 t280 _ ?side1 ?side2 A49.out).mono ?_); (case side1 => repeat (first | exact (Kd.R_reads' HO276.out).2.2 | (with_reducible refine Kd.C_alloc ?_ _) | (with_reducible refine Kd.C_drewN ?_ _) | (with_reducible refine Kd.C_drew ?_))); (case side2 => exact (Kd.R_reads' HO276.out).2.1); rintro e w75 ⟨v281, rfl, ho0, hb⟩; refine ⟨_, rfl, ?_⟩; have n0_ := Aside0.mk (Kd.R_below (by (with_reducible repeat (first | apply Kd.R_alloc | apply Kd.R_drewN | apply Kd.R_drew)); exact HO270.out) hb); have n1_ := Aside0.mk (Kd.R_below (by (with_reducible repeat (first | apply Kd.R_alloc | apply Kd.R_drewN | apply Kd.R_drew)); exact HO276.out) hb); have n2_ := Aside0.mk (Kd.V_below (by (with_reducible repeat (first | apply Kd.V_alloc | apply Kd.V_drewN | apply Kd.V_drew)); exact HO279.out) hb); have n3_ := Aside0.mk (Kd.V_lower (Kd.V_mono (ok' := fun k_ => some k_ ≠ (.slice Ao47 y268.length co47 : Value).ownBlock ∧ some k_ ≠ (.slice Ao74 y274.length co74 : Value).ownBlock) ho0 (fun k_ hk_ => ⟨(Kd.fresh' (Kd.R_lt (by (with_reducible repeat (first | apply Kd.R_alloc | apply Kd.R_drewN | apply Kd.R_drew)); exact HO270.out)) k_ hk_), (Kd.fresh' (Kd.R_lt (by (with_reducible repeat (first | apply Kd.R_alloc | apply Kd.R_drewN | apply Kd.R_drew)); exact HO276.out)) k_ hk_)⟩)) (below_size (by repeat (first | (with_reducible first | exact HB.out | apply below_alloc | apply pw_below_drewN | apply below_drew1) | exact HB.out)))); have n4_ := Aside0.mk (below_step (by repeat (first | (with_reducible first | exact HB.out | apply below_alloc | apply pw_below_drewN | apply below_drew1) | exact HB.out)) hb); clear HO270; clear HO276; clear HO279; clear HB; have HO270 := n0_; have HO276 := n1_; have HO279 := n2_; have HO282 := n3_; have HB := n4_; clear n0_ n1_ n2_ n3_ n4_; (try clear hb); (try clear hb2); (try clear hk); (try clear hi); (try clear ho0); obtain ⟨Ao76, co76, eo76⟩ := Kd.V_slice HO282.out; subst eo76; obtain ⟨Ao77, co77, eo77⟩ := Kd.V_slice HO279.out; subst eo77) | ((with_reducible refine gate_callee (f := 13) rfl ?_); refine goesL_ (some 107) rfl rfl Tryd.func13 (by kernel_rfl) rfl #[.slice Ao76 t280.length co76, .slice Ao77 t277.length co77] rfl (by (try simp only [List.map_toArray, List.map_cons, List.map_nil]); first | done | rfl | (simp only [List.length_drop, List.length_take]; rfl)) ?_; (with_reducible refine (forebaylaw06_same.calls kj12 _ _ t280 _ _ t277 false _ ?side1 ?side2 ?side3 ?side4 A50.out).mono ?_); (case side1 => repeat (first | exact (Kd.V_reads' HO282.out).2.2 | (with_reducible refine Kd.C_alloc ?_ _) | (with_reducible refine Kd.C_drewN ?_ _) | (with_reducible refine Kd.C_drew ?_))); (case side2 => exact (Kd.V_reads' HO282.out).2.1); (case side3 => repeat (first | exact (Kd.V_reads' HO279.out).2.2 | (with_reducible refine Kd.C_alloc ?_ _) | (with_reducible refine Kd.C_drewN ?_ _) | (with_reducible refine Kd.C_drew ?_))); (case side4 => exact (Kd.V_reads' HO279.out).2.1); rintro e w' ⟨rfl, ⟨nd, rfl⟩⟩; refine ⟨_, rfl, ?_⟩))
             go_meet
             case rel => exact ⟨_, (true), (by first | rfl | (simp; done) | (simp [*]; done)), H', ⟨by have := HJ3.out; have := HJ12.out; first | omega | exact Nat.le_refl _⟩, ⟨by (with_reducible repeat (first | apply Kd.V_alloc | apply Kd.V_drewN | apply Kd.V_drew)); exact Kd.V_mono HO279.out (fun _ hk => trivial)⟩, ⟨by repeat (first | (with_reducible first | exact HB.out | apply below_alloc | apply pw_below_drewN | apply below_drew1) | exact HB.out)⟩⟩
           case rest =>
            clear HC41
            try clear c1
            try clear c2
            try clear p2
            try clear q2
            try clear hx2
            try clear c3
            try clear p3
            try clear q3
            try clear hx3
            try clear hf3
            try clear q4
            try clear c5
            try clear c6
            try clear p6
            try clear c7
            try clear c7b0
            try clear c7b1
            try clear c8
            try clear c8b0
            try clear c9
            try clear c10
            try clear c12
            try clear c13
            try clear c14
            try clear c17
            try clear c17b0
            try clear c18
            try clear c18b0
            try clear c18b1
            try clear c19
            try clear c19b0
            try clear c20
            try clear c20b0
            try clear c21
            try clear c21b0
            try clear c21b1
            try clear c21b2
            try clear c23
            try clear c23b0
            try clear c25
            try clear c25b0
            try clear p25
            try clear q25
            try clear hx25
            try clear c26
            try clear c26b0
            try clear p26
            try clear q26
            try clear hx26
            try clear c28
            try clear c28b0
            try clear c29
            try clear c29b0
            try clear c30
            try clear p30
            try clear q30
            try clear hx30
            try clear hf30
            try clear c31
            try clear p31
            try clear q31
            try clear hx31
            try clear hf31
            try clear c34
            try clear c35
            try clear c36
            try clear c36b0
            try clear c36b1
            try clear c37
            try clear c37b0
            try clear c37b1
            try clear c38
            try clear c39
            try clear q42
            try clear c51
            try clear c53
            try clear c55
            try clear p64
            try clear hx258_0
            try clear hx259_0
            try clear hx260_0
            try clear hx260_1
            try clear hx261_0
            try clear hx261_1
            try clear hx30_0
            try clear hx30_1
            try clear hx31_0
            try clear hx31_1
            try clear p2
            try clear p25
            try clear p258
            try clear p259
            try clear p26
            try clear p260
            try clear p261
            try clear p3
            try clear p30
            try clear p31
            try clear p6
            try clear q2
            try clear q25
            try clear q258
            try clear q259
            try clear q26
            try clear q260
            try clear q261
            try clear q3
            try clear q30
            try clear q31
            try clear q42
            obtain ⟨kq, x126_40, rfl, HA, HJ40, HO_12, HB⟩ := hcut
            cases kq with
            | zero => exact absurd HA.out (by simp [forebaylaw06_TagOnce.j3])
            | succ kj40 =>
             have H := HA.out
             clear HA
             simp only [forebaylaw06_TagOnce.j3] at H
             by_cases c78 : x126_40 = true
             ·subst c78
              have H1 : (none) = some r := by rw [if_pos rfl] at H; exact H
              clear H
              have H := H1
              clear H1
              exact absurd H (by simp)
             ·replace c78 := Bool.eq_false_iff.mpr c78
              subst c78
              have H1 : (forebaylaw06_TagOnce.l1 kj40 l0 t277 0) = some r := by rw [if_neg (show ¬ (false = true) by decide)] at H; exact H
              clear H
              have H := H1
              clear H1
              have H' := Aside0.mk H
              clear H
              go_wp2
              go_loopg [13] kj40 (fun kq v13 w' => ∃ (x13_4 : Int), v13 = .int .i64 x13_4 ∧ Aside0 (forebaylaw06_TagOnce.l1 kq l0 t277 x13_4 = some r) ∧ Aside0 (kq ≤ kj40) ∧ Aside0 (Kd.V k34 34 w' w.heap.size (fun _ => True) v278 t277) ∧ Aside0 (Below w.heap.size w w'))
              case atStart => exact ⟨(0), (by first | rfl | (simp; done) | (simp [*]; done)), H', ⟨Nat.le_refl _⟩, ⟨by (with_reducible repeat (first | apply Kd.V_alloc | apply Kd.V_drewN | apply Kd.V_drew)); exact HO_12.out⟩, ⟨by repeat (first | (with_reducible first | exact HB.out | apply below_alloc | apply pw_below_drewN | apply below_drew1) | exact HB.out)⟩⟩
              case round =>
               clear H'
               try clear c1
               try clear c2
               try clear p2
               try clear q2
               try clear hx2
               try clear c3
               try clear p3
               try clear q3
               try clear hx3
               try clear hf3
               try clear q4
               try clear c5
               try clear c6
               try clear p6
               try clear c7
               try clear c7b0
               try clear c7b1
               try clear c8
               try clear c8b0
               try clear c9
               try clear c10
               try clear c12
               try clear c13
               try clear c14
               try clear c17
               try clear c17b0
               try clear c18
               try clear c18b0
               try clear c18b1
               try clear c19
               try clear c19b0
               try clear c20
               try clear c20b0
               try clear c21
               try clear c21b0
               try clear c21b1
               try clear c21b2
               try clear c23
               try clear c23b0
               try clear c25
               try clear c25b0
               try clear p25
               try clear q25
               try clear hx25
               try clear c26
               try clear c26b0
               try clear p26
               try clear q26
               try clear hx26
               try clear c28
               try clear c28b0
               try clear c29
               try clear c29b0
               try clear c30
               try clear p30
               try clear q30
               try clear hx30
               try clear hf30
               try clear c31
               try clear p31
               try clear q31
               try clear hx31
               try clear hf31
               try clear c34
               try clear c35
               try clear c36
               try clear c36b0
               try clear c36b1
               try clear c37
               try clear c37b0
               try clear c37b1
               try clear c38
               try clear c39
               try clear q42
               try clear c51
               try clear c53
               try clear c55
               try clear p64
               try clear c78
               try clear hx258_0
               try clear hx259_0
               try clear hx260_0
               try clear hx260_1
               try clear hx261_0
               try clear hx261_1
               try clear hx30_0
               try clear hx30_1
               try clear hx31_0
               try clear hx31_1
               try clear p2
               try clear p25
               try clear p258
               try clear p259
               try clear p26
               try clear p260
               try clear p261
               try clear p3
               try clear p30
               try clear p31
               try clear p6
               try clear p64
               try clear q2
               try clear q25
               try clear q258
               try clear q259
               try clear q26
               try clear q260
               try clear q261
               try clear q3
               try clear q30
               try clear q31
               try clear q4
               try clear q42
               obtain ⟨x13_4, rfl, HA, HK4, HO_12, HB⟩ := hrel
               cases gk with
               | zero => exact absurd HA.out (by simp [forebaylaw06_TagOnce.l1])
               | succ k4 =>
                have H := HA.out
                clear HA
                simp only [forebaylaw06_TagOnce.l1] at H
                by_cases c79 : x13_4 < (l0.length : Int)
                ·rw [if_pos c79] at H
                 have c79b0 : decide (x13_4 < (l0.length : Int)) = true := decide_eq_true c79
                 clear c79
                 have H' := Aside0.mk H
                 clear H
                 go_wp2
                 go_loopg [14, 15] k4 (fun kq v14 v15 w' => ∃ (x14_5 : Int) (x15_5 : Int), v14 = .int .i64 x14_5 ∧ v15 = .int .i64 x15_5 ∧ Aside0 (forebaylaw06_TagOnce.l2 kq l0 t277 x13_4 x14_5 x15_5 = some r) ∧ Aside0 (kq ≤ k4) ∧ Aside0 (Kd.V k34 34 w' w.heap.size (fun _ => True) v278 t277) ∧ Aside0 (Below w.heap.size w w'))
                 case atStart => exact ⟨(0), (0), (by first | rfl | (simp; done) | (simp [*]; done)), (by first | rfl | (simp; done) | (simp [*]; done)), H', ⟨Nat.le_refl _⟩, ⟨by (with_reducible repeat (first | apply Kd.V_alloc | apply Kd.V_drewN | apply Kd.V_drew)); exact HO_12.out⟩, ⟨by repeat (first | (with_reducible first | exact HB.out | apply below_alloc | apply pw_below_drewN | apply below_drew1) | exact HB.out)⟩⟩
                 case round =>
                  clear H'
                  try clear c1
                  try clear c2
                  try clear p2
                  try clear q2
                  try clear hx2
                  try clear c3
                  try clear p3
                  try clear q3
                  try clear hx3
                  try clear hf3
                  try clear q4
                  try clear c5
                  try clear c6
                  try clear p6
                  try clear c7
                  try clear c7b0
                  try clear c7b1
                  try clear c8
                  try clear c8b0
                  try clear c9
                  try clear c10
                  try clear c12
                  try clear c13
                  try clear c14
                  try clear c17
                  try clear c17b0
                  try clear c18
                  try clear c18b0
                  try clear c18b1
                  try clear c19
                  try clear c19b0
                  try clear c20
                  try clear c20b0
                  try clear c21
                  try clear c21b0
                  try clear c21b1
                  try clear c21b2
                  try clear c23
                  try clear c23b0
                  try clear c25
                  try clear c25b0
                  try clear p25
                  try clear q25
                  try clear hx25
                  try clear c26
                  try clear c26b0
                  try clear p26
                  try clear q26
                  try clear hx26
                  try clear c28
                  try clear c28b0
                  try clear c29
                  try clear c29b0
                  try clear c30
                  try clear p30
                  try clear q30
                  try clear hx30
                  try clear hf30
                  try clear c31
                  try clear p31
                  try clear q31
                  try clear hx31
                  try clear hf31
                  try clear c34
                  try clear c35
                  try clear c36
                  try clear c36b0
                  try clear c36b1
                  try clear c37
                  try clear c37b0
                  try clear c37b1
                  try clear c38
                  try clear c39
                  try clear q42
                  try clear c51
                  try clear c53
                  try clear c55
                  try clear p64
                  try clear c78
                  try clear c79
                  try clear c79b0
                  try clear hx258_0
                  try clear hx259_0
                  try clear hx260_0
                  try clear hx260_1
                  try clear hx261_0
                  try clear hx261_1
                  try clear hx30_0
                  try clear hx30_1
                  try clear hx31_0
                  try clear hx31_1
                  try clear p2
                  try clear p25
                  try clear p258
                  try clear p259
                  try clear p26
                  try clear p260
                  try clear p261
                  try clear p3
                  try clear p30
                  try clear p31
                  try clear p6
                  try clear p64
                  try clear q2
                  try clear q25
                  try clear q258
                  try clear q259
                  try clear q26
                  try clear q260
                  try clear q261
                  try clear q3
                  try clear q30
                  try clear q31
                  try clear q4
                  try clear q42
                  obtain ⟨x14_5, x15_5, rfl, rfl, HA, HK5, HO_12, HB⟩ := hrel
                  cases gk with
                  | zero => exact absurd HA.out (by simp [forebaylaw06_TagOnce.l2])
                  | succ k5 =>
                   have H := HA.out
                   clear HA
                   simp only [forebaylaw06_TagOnce.l2] at H
                   by_cases c80 : x15_5 < (t277.length : Int)
                   ·rw [if_pos c80] at H
                    have c80b0 : decide (x15_5 < (t277.length : Int)) = true := decide_eq_true c80
                    clear c80
                    by_cases c81 : 0 ≤ x15_5
                    ·rw [if_pos c81] at H
                     have c81b0 : decide (0 ≤ x15_5) = true := decide_eq_true c81
                     clear c81
                     by_cases c82 : 0 ≤ x13_4
                     ·rw [if_pos c82] at H
                      have c82b0 : decide (0 ≤ x13_4) = true := decide_eq_true c82
                      clear c82
                      by_cases c83 : x13_4 < (l0.length : Int)
                      ·rw [if_pos c83] at H
                       have c83b0 : decide (x13_4 < (l0.length : Int)) = true := decide_eq_true c83
                       clear c83
                       by_cases c84 : ((((rd_T34 t277 x15_5).f0).toList) == (((rd_T34 l0 x13_4).f0).toList) && ((((rd_T34 t277 x15_5).f1).toList) == (((rd_T34 l0 x13_4).f1).toList))) = true
                       ·rw [if_pos c84] at H
                        have c84b0 : ((((rd_T34 t277 x15_5).f0).toList) == (((rd_T34 l0 x13_4).f0).toList) && ((((rd_T34 t277 x15_5).f1).toList) == (((rd_T34 l0 x13_4).f1).toList))) = true := c84
                        (try (have c84b1 : decide ((((rd_T34 t277 x15_5).f0).toList) = (((rd_T34 l0 x13_4).f0).toList) && ((((rd_T34 t277 x15_5).f1).toList) == (((rd_T34 l0 x13_4).f1).toList))) = true := by simpa using c84))
                        (try (have c84b2 : ((((rd_T34 t277 x15_5).f0).toList) == (((rd_T34 l0 x13_4).f0).toList) && ((((rd_T34 t277 x15_5).f1).toList) == (((rd_T34 l0 x13_4).f1).toList))) = true := by simpa using c84))
                        clear c84
                        have H' := Aside0.mk H
                        clear H
                        obtain ⟨Ao85, co85, eo85⟩ := Kd.V_slice HO_12.out
                        subst eo85
                        try go_wp2
                        have n0_ := Aside0.mk (Kd.V_drew HO_12.out)
                        have n1_ := Aside0.mk (below_drew1 HB.out)
                        clear HO_12
                        clear HB
                        have HO_12 := n0_
                        have HB := n1_
                        clear n0_ n1_
                        have p290 : 0 ≤ (x15_5 : Int) := of_decide_eq_true (by first | (with_reducible assumption) | assumption)
                        have q290 : x15_5 < (t277.length : Int) := of_decide_eq_true (by first | (with_reducible assumption) | assumption)
                        obtain ⟨ad290, e290, hx290_0, hx290_1⟩ := at_T34 (Kd.V_reads' HO_12.out).2.2 x15_5 p290 q290
                        cases e290
                        replace p290 := eq_true p290
                        replace q290 := eq_true q290
                        have p291 : 0 ≤ (x13_4 : Int) := of_decide_eq_true (by first | (with_reducible assumption) | assumption)
                        have q291 : x13_4 < (l0.length : Int) := of_decide_eq_true (by first | (with_reducible assumption) | assumption)
                        obtain ⟨ad291, e291, hx291_0, hx291_1⟩ := at_T34 HR0.out x13_4 p291 q291
                        have hw291_1 := hx291_1
                        have hw291_0 := hx291_0
                        cases e291
                        replace hx291_0 := (HB.out.cell (World.block_lt_of_cell? w _ hx291_0)).trans hx291_0
                        replace hx291_1 := (HB.out.cell (World.block_lt_of_cell? w _ hx291_1)).trans hx291_1
                        replace p291 := eq_true p291
                        replace q291 := eq_true q291
                        refine start_ (n := 9) (S := fun w' => w'.cell? (ad290.add ((x15_5).toNat * 2)) = some (.string ((rd_T34 t277 x15_5).f0)) ∧ w'.cell? ⟨(ad290.add ((x15_5).toNat * 2)).block, (ad290.add ((x15_5).toNat * 2)).off + 1, none⟩ = some (.string ((rd_T34 t277 x15_5).f1)) ∧ w'.cell? (ad291.add ((x13_4).toNat * 2)) = some (.string ((rd_T34 l0 x13_4).f0)) ∧ w'.cell? ⟨(ad291.add ((x13_4).toNat * 2)).block, (ad291.add ((x13_4).toNat * 2)).off + 1, none⟩ = some (.string ((rd_T34 l0 x13_4).f1))) (ds := []) #[false, false, false, false, false, false, false, false, false] (by kernel_rfl) rfl rfl ⟨hx290_0, hx290_1, ((HB.out.cell (World.block_lt_of_cell? w _ hw291_0)).trans hw291_0), ((HB.out.cell (World.block_lt_of_cell? w _ hw291_1)).trans hw291_1)⟩ (fun hHeld => ?_); refine with_tabW forebaylaw06_TagOnce.tab22 forebaylaw06_TagOnce.bits22 (fun HT_ HW_ => ?_)
                        generalize wr.drew = w86 at HO_12 HB hx290_0 hx290_1 hx291_0 hx291_1 hHeld ⊢
                        refine pure_ (i := 0) (N := some 139) (v := ?_) (a' := ?_) #[true, false, false, false, false, false, false, false, false] rfl rfl (any_of HT_.out (by kernel_rfl)) (fun _ _ _ h => h) (Or.inl ⟨by rfl, ?_⟩) ?_ ?_
                        rotate_left
                        ·intro w'
                         go_simp
                         with_reducible rfl
                        rotate_left
                        ·simp only [Act.put, List.setIfInBounds_toArray, List.set_cons_zero, List.set_cons_succ, i64_w, i32_w]
                         rfl
                        refine pure_ (i := 1) (N := some 140) (v := ?_) (a' := ?_) #[true, true, false, false, false, false, false, false, false] rfl rfl (any_of HT_.out (by kernel_rfl)) (fun _ _ _ h => h) (Or.inl ⟨by rfl, ?_⟩) ?_ ?_
                        rotate_left
                        ·intro w'
                         go_simp
                         with_reducible rfl
                        rotate_left
                        ·simp only [Act.put, List.setIfInBounds_toArray, List.set_cons_zero, List.set_cons_succ, i64_w, i32_w]
                         rfl
                        refine pure_ (i := 2) (N := some 141) (v := ?_) (a' := ?_) #[true, true, true, false, false, false, false, false, false] rfl rfl (any_of HT_.out (by kernel_rfl)) (fun _ _ _ h => h) (Or.inl ⟨by rfl, ?_⟩) ?_ ?_
                        rotate_left
                        ·intro w'
                         go_simp
                         with_reducible rfl
                        rotate_left
                        ·simp only [Act.put, List.setIfInBounds_toArray, List.set_cons_zero, List.set_cons_succ, i64_w, i32_w]
                         rfl
                        refine pure_ (i := 4) (N := some 143) (v := ?_) (a' := ?_) #[true, true, true, false, true, false, false, false, false] rfl rfl (any_of HT_.out (by kernel_rfl)) (fun _ _ _ h => h) (Or.inl ⟨by rfl, ?_⟩) ?_ ?_
                        rotate_left
                        ·intro w'
                         go_simp
                         with_reducible rfl
                        rotate_left
                        ·simp only [Act.put, List.setIfInBounds_toArray, List.set_cons_zero, List.set_cons_succ, i64_w, i32_w]
                         rfl
                        refine pure_ (i := 5) (N := some 144) (v := ?_) (a' := ?_) #[true, true, true, false, true, true, false, false, false] rfl rfl (any_of HT_.out (by kernel_rfl)) (fun _ _ _ h => h) (Or.inl ⟨by rfl, ?_⟩) ?_ ?_
                        rotate_left
                        ·intro w'
                         go_simp
                         with_reducible rfl
                        rotate_left
                        ·simp only [Act.put, List.setIfInBounds_toArray, List.set_cons_zero, List.set_cons_succ, i64_w, i32_w]
                         rfl
                        refine pure_ (i := 6) (N := some 145) (v := ?_) (a' := ?_) #[true, true, true, false, true, true, true, false, false] rfl rfl (any_of HT_.out (by kernel_rfl)) (fun _ _ _ h => h) (Or.inl ⟨by rfl, ?_⟩) ?_ ?_
                        rotate_left
                        ·intro w'
                         go_simp
                         with_reducible rfl
                        rotate_left
                        ·simp only [Act.put, List.setIfInBounds_toArray, List.set_cons_zero, List.set_cons_succ, i64_w, i32_w]
                         rfl
                        refine take_ (i := 3) (N := some 142) (v := ?_) (a' := ?_) #[true, true, true, true, true, true, true, false, false] rfl rfl (take_ofW HT_.out HW_.out (by kernel_rfl)) (fun _ _ _ h => h) (Or.inl ⟨by rfl, ?_⟩) hHeld ?_ ?_
                        rotate_left
                        ·rintro w' ⟨s0, s1, s2, s3⟩
                         go_simp
                         with_reducible rfl
                        rotate_left
                        ·simp only [Act.put, List.setIfInBounds_toArray, List.set_cons_zero, List.set_cons_succ, i64_w, i32_w]
                         rfl
                        refine take_ (i := 7) (N := some 146) (v := ?_) (a' := ?_) #[true, true, true, true, true, true, true, true, false] rfl rfl (take_ofW HT_.out HW_.out (by kernel_rfl)) (fun _ _ _ h => h) (Or.inl ⟨by rfl, ?_⟩) hHeld ?_ ?_
                        rotate_left
                        ·rintro w' ⟨s0, s1, s2, s3⟩
                         go_simp
                         with_reducible rfl
                        rotate_left
                        ·simp only [Act.put, List.setIfInBounds_toArray, List.set_cons_zero, List.set_cons_succ, i64_w, i32_w]
                         rfl
                        refine pure_ (i := 8) (N := some 147) (v := ?_) (a' := ?_) #[true, true, true, true, true, true, true, true, true] rfl rfl (any_of HT_.out (by kernel_rfl)) (fun _ _ _ h => h) (Or.inl ⟨by rfl, ?_⟩) ?_ ?_
                        rotate_left
                        ·intro w'
                         go_simp
                         with_reducible rfl
                        rotate_left
                        ·simp only [Act.put, List.setIfInBounds_toArray, List.set_cons_zero, List.set_cons_succ, i64_w, i32_w]
                         rfl
                        refine done_ (done_of HT_.out (by kernel_rfl)) ?_
                        try go_wp2
                        go_roundg k5
                        case measure => have := HJ3.out; have := HJ12.out; have := HJ40.out; have := HK4.out; have := HK5.out; omega
                        case rel => exact ⟨(wrap64 (x14_5 + 1)), (wrap64 (x15_5 + 1)), (by first | rfl | (simp; done) | (simp [*]; done)), (by first | rfl | (simp; done) | (simp [*]; done)), H', ⟨by have := HJ3.out; have := HJ12.out; have := HJ40.out; have := HK4.out; have := HK5.out; omega⟩, ⟨by (with_reducible repeat (first | apply Kd.V_alloc | apply Kd.V_drewN | apply Kd.V_drew)); exact HO_12.out⟩, ⟨by repeat (first | (with_reducible first | exact HB.out | apply below_alloc | apply pw_below_drewN | apply below_drew1) | exact HB.out)⟩⟩
                       ·rw [if_neg c84] at H
                        have c84b0 : ((((rd_T34 t277 x15_5).f0).toList) == (((rd_T34 l0 x13_4).f0).toList) && ((((rd_T34 t277 x15_5).f1).toList) == (((rd_T34 l0 x13_4).f1).toList))) = false := by simpa using c84
                        (try (have c84b1 : decide ((((rd_T34 t277 x15_5).f0).toList) = (((rd_T34 l0 x13_4).f0).toList) && ((((rd_T34 t277 x15_5).f1).toList) == (((rd_T34 l0 x13_4).f1).toList))) = false := by simpa using c84))
                        (try (have c84b2 : ((((rd_T34 t277 x15_5).f0).toList) == (((rd_T34 l0 x13_4).f0).toList) && ((((rd_T34 t277 x15_5).f1).toList) == (((rd_T34 l0 x13_4).f1).toList))) = false := by simpa using c84))
                        (try (have c84b3 : ¬ ((((rd_T34 t277 x15_5).f0).toList) = (((rd_T34 l0 x13_4).f0).toList) && ((((rd_T34 t277 x15_5).f1).toList) == (((rd_T34 l0 x13_4).f1).toList))) := by simpa using c84))
                        clear c84
                        have H' := Aside0.mk H
                        clear H
                        obtain ⟨Ao87, co87, eo87⟩ := Kd.V_slice HO_12.out
                        subst eo87
                        try go_wp2
                        have n0_ := Aside0.mk (Kd.V_drew HO_12.out)
                        have n1_ := Aside0.mk (below_drew1 HB.out)
                        clear HO_12
                        clear HB
                        have HO_12 := n0_
                        have HB := n1_
                        clear n0_ n1_
                        have p290 : 0 ≤ (x15_5 : Int) := of_decide_eq_true (by first | (with_reducible assumption) | assumption)
                        have q290 : x15_5 < (t277.length : Int) := of_decide_eq_true (by first | (with_reducible assumption) | assumption)
                        obtain ⟨ad290, e290, hx290_0, hx290_1⟩ := at_T34 (Kd.V_reads' HO_12.out).2.2 x15_5 p290 q290
                        cases e290
                        replace p290 := eq_true p290
                        replace q290 := eq_true q290
                        have p291 : 0 ≤ (x13_4 : Int) := of_decide_eq_true (by first | (with_reducible assumption) | assumption)
                        have q291 : x13_4 < (l0.length : Int) := of_decide_eq_true (by first | (with_reducible assumption) | assumption)
                        obtain ⟨ad291, e291, hx291_0, hx291_1⟩ := at_T34 HR0.out x13_4 p291 q291
                        have hw291_1 := hx291_1
                        have hw291_0 := hx291_0
                        cases e291
                        replace hx291_0 := (HB.out.cell (World.block_lt_of_cell? w _ hx291_0)).trans hx291_0
                        replace hx291_1 := (HB.out.cell (World.block_lt_of_cell? w _ hx291_1)).trans hx291_1
                        replace p291 := eq_true p291
                        replace q291 := eq_true q291
                        refine start_ (n := 9) (S := fun w' => w'.cell? (ad290.add ((x15_5).toNat * 2)) = some (.string ((rd_T34 t277 x15_5).f0)) ∧ w'.cell? ⟨(ad290.add ((x15_5).toNat * 2)).block, (ad290.add ((x15_5).toNat * 2)).off + 1, none⟩ = some (.string ((rd_T34 t277 x15_5).f1)) ∧ w'.cell? (ad291.add ((x13_4).toNat * 2)) = some (.string ((rd_T34 l0 x13_4).f0)) ∧ w'.cell? ⟨(ad291.add ((x13_4).toNat * 2)).block, (ad291.add ((x13_4).toNat * 2)).off + 1, none⟩ = some (.string ((rd_T34 l0 x13_4).f1))) (ds := []) #[false, false, false, false, false, false, false, false, false] (by kernel_rfl) rfl rfl ⟨hx290_0, hx290_1, ((HB.out.cell (World.block_lt_of_cell? w _ hw291_0)).trans hw291_0), ((HB.out.cell (World.block_lt_of_cell? w _ hw291_1)).trans hw291_1)⟩ (fun hHeld => ?_); refine with_tabW forebaylaw06_TagOnce.tab22 forebaylaw06_TagOnce.bits22 (fun HT_ HW_ => ?_)
                        generalize wr.drew = w88 at HO_12 HB hx290_0 hx290_1 hx291_0 hx291_1 hHeld ⊢
                        refine pure_ (i := 0) (N := some 139) (v := ?_) (a' := ?_) #[true, false, false, false, false, false, false, false, false] rfl rfl (any_of HT_.out (by kernel_rfl)) (fun _ _ _ h => h) (Or.inl ⟨by rfl, ?_⟩) ?_ ?_
                        rotate_left
                        ·intro w'
                         go_simp
                         with_reducible rfl
                        rotate_left
                        ·simp only [Act.put, List.setIfInBounds_toArray, List.set_cons_zero, List.set_cons_succ, i64_w, i32_w]
                         rfl
                        refine pure_ (i := 1) (N := some 140) (v := ?_) (a' := ?_) #[true, true, false, false, false, false, false, false, false] rfl rfl (any_of HT_.out (by kernel_rfl)) (fun _ _ _ h => h) (Or.inl ⟨by rfl, ?_⟩) ?_ ?_
                        rotate_left
                        ·intro w'
                         go_simp
                         with_reducible rfl
                        rotate_left
                        ·simp only [Act.put, List.setIfInBounds_toArray, List.set_cons_zero, List.set_cons_succ, i64_w, i32_w]
                         rfl
                        refine pure_ (i := 2) (N := some 141) (v := ?_) (a' := ?_) #[true, true, true, false, false, false, false, false, false] rfl rfl (any_of HT_.out (by kernel_rfl)) (fun _ _ _ h => h) (Or.inl ⟨by rfl, ?_⟩) ?_ ?_
                        rotate_left
                        ·intro w'
                         go_simp
                         with_reducible rfl
                        rotate_left
                        ·simp only [Act.put, List.setIfInBounds_toArray, List.set_cons_zero, List.set_cons_succ, i64_w, i32_w]
                         rfl
                        refine pure_ (i := 4) (N := some 143) (v := ?_) (a' := ?_) #[true, true, true, false, true, false, false, false, false] rfl rfl (any_of HT_.out (by kernel_rfl)) (fun _ _ _ h => h) (Or.inl ⟨by rfl, ?_⟩) ?_ ?_
                        rotate_left
                        ·intro w'
                         go_simp
                         with_reducible rfl
                        rotate_left
                        ·simp only [Act.put, List.setIfInBounds_toArray, List.set_cons_zero, List.set_cons_succ, i64_w, i32_w]
                         rfl
                        refine pure_ (i := 5) (N := some 144) (v := ?_) (a' := ?_) #[true, true, true, false, true, true, false, false, false] rfl rfl (any_of HT_.out (by kernel_rfl)) (fun _ _ _ h => h) (Or.inl ⟨by rfl, ?_⟩) ?_ ?_
                        rotate_left
                        ·intro w'
                         go_simp
                         with_reducible rfl
                        rotate_left
                        ·simp only [Act.put, List.setIfInBounds_toArray, List.set_cons_zero, List.set_cons_succ, i64_w, i32_w]
                         rfl
                        refine pure_ (i := 6) (N := some 145) (v := ?_) (a' := ?_) #[true, true, true, false, true, true, true, false, false] rfl rfl (any_of HT_.out (by kernel_rfl)) (fun _ _ _ h => h) (Or.inl ⟨by rfl, ?_⟩) ?_ ?_
                        rotate_left
                        ·intro w'
                         go_simp
                         with_reducible rfl
                        rotate_left
                        ·simp only [Act.put, List.setIfInBounds_toArray, List.set_cons_zero, List.set_cons_succ, i64_w, i32_w]
                         rfl
                        refine take_ (i := 3) (N := some 142) (v := ?_) (a' := ?_) #[true, true, true, true, true, true, true, false, false] rfl rfl (take_ofW HT_.out HW_.out (by kernel_rfl)) (fun _ _ _ h => h) (Or.inl ⟨by rfl, ?_⟩) hHeld ?_ ?_
                        rotate_left
                        ·rintro w' ⟨s0, s1, s2, s3⟩
                         go_simp
                         with_reducible rfl
                        rotate_left
                        ·simp only [Act.put, List.setIfInBounds_toArray, List.set_cons_zero, List.set_cons_succ, i64_w, i32_w]
                         rfl
                        refine take_ (i := 7) (N := some 146) (v := ?_) (a' := ?_) #[true, true, true, true, true, true, true, true, false] rfl rfl (take_ofW HT_.out HW_.out (by kernel_rfl)) (fun _ _ _ h => h) (Or.inl ⟨by rfl, ?_⟩) hHeld ?_ ?_
                        rotate_left
                        ·rintro w' ⟨s0, s1, s2, s3⟩
                         go_simp
                         with_reducible rfl
                        rotate_left
                        ·simp only [Act.put, List.setIfInBounds_toArray, List.set_cons_zero, List.set_cons_succ, i64_w, i32_w]
                         rfl
                        refine pure_ (i := 8) (N := some 147) (v := ?_) (a' := ?_) #[true, true, true, true, true, true, true, true, true] rfl rfl (any_of HT_.out (by kernel_rfl)) (fun _ _ _ h => h) (Or.inl ⟨by rfl, ?_⟩) ?_ ?_
                        rotate_left
                        ·intro w'
                         go_simp
                         with_reducible rfl
                        rotate_left
                        ·simp only [Act.put, List.setIfInBounds_toArray, List.set_cons_zero, List.set_cons_succ, i64_w, i32_w]
                         rfl
                        refine done_ (done_of HT_.out (by kernel_rfl)) ?_
                        try go_wp2
                        go_roundg k5
                        case measure => have := HJ3.out; have := HJ12.out; have := HJ40.out; have := HK4.out; have := HK5.out; omega
                        case rel => exact ⟨(x14_5), (wrap64 (x15_5 + 1)), (by first | rfl | (simp; done) | (simp [*]; done)), (by first | rfl | (simp; done) | (simp [*]; done)), H', ⟨by have := HJ3.out; have := HJ12.out; have := HJ40.out; have := HK4.out; have := HK5.out; omega⟩, ⟨by (with_reducible repeat (first | apply Kd.V_alloc | apply Kd.V_drewN | apply Kd.V_drew)); exact HO_12.out⟩, ⟨by repeat (first | (with_reducible first | exact HB.out | apply below_alloc | apply pw_below_drewN | apply below_drew1) | exact HB.out)⟩⟩
                      ·rw [if_neg c83] at H
                       exact absurd H (by simp)
                     ·rw [if_neg c82] at H
                      exact absurd H (by simp)
                    ·rw [if_neg c81] at H
                     exact absurd H (by simp)
                   ·rw [if_neg c80] at H
                    have c80b0 : decide (x15_5 < (t277.length : Int)) = false := decide_eq_false c80
                    clear c80
                    by_cases c89 : x14_5 = 1
                    ·rw [if_pos c89] at H
                     have c89b0 : (x14_5 == 1) = true := beq_iff_eq.mpr c89
                     have c89b1 : (x14_5 != 1) = false := bne_eq_false_iff_eq.mpr c89
                     clear c89
                     have H' := Aside0.mk H
                     clear H
                     obtain ⟨Ao90, co90, eo90⟩ := Kd.V_slice HO_12.out
                     subst eo90
                     go_wp2
                     go_roundg k5
                     case measure => have := HJ3.out; have := HJ12.out; have := HJ40.out; have := HK4.out; have := HK5.out; omega
                     case rel => exact ⟨(wrap64 (x13_4 + 1)), (by first | rfl | (simp; done) | (simp [*]; done)), H', ⟨by have := HJ3.out; have := HJ12.out; have := HJ40.out; have := HK4.out; have := HK5.out; omega⟩, ⟨by (with_reducible repeat (first | apply Kd.V_alloc | apply Kd.V_drewN | apply Kd.V_drew)); exact HO_12.out⟩, ⟨by repeat (first | (with_reducible first | exact HB.out | apply below_alloc | apply pw_below_drewN | apply below_drew1) | exact HB.out)⟩⟩
                    ·rw [if_neg c89] at H
                     exact absurd H (by simp)
                ·rw [if_neg c79] at H
                 have c79b0 : decide (x13_4 < (l0.length : Int)) = false := decide_eq_false c79
                 clear c79
                 have H' := Aside0.mk H
                 clear H
                 go_wp2
                 go_loopg [16] k4 (fun kq v16 w' => ∃ (x16_5 : Int), v16 = .int .i64 x16_5 ∧ Aside0 (forebaylaw06_TagOnce.l3 kq l0 t277 x16_5 = some r) ∧ Aside0 (kq ≤ k4) ∧ Aside0 (Kd.V k34 34 w' w.heap.size (fun _ => True) v278 t277) ∧ Aside0 (Below w.heap.size w w'))
                 case atStart => exact ⟨(0), (by first | rfl | (simp; done) | (simp [*]; done)), H', ⟨Nat.le_refl _⟩, ⟨by (with_reducible repeat (first | apply Kd.V_alloc | apply Kd.V_drewN | apply Kd.V_drew)); exact HO_12.out⟩, ⟨by repeat (first | (with_reducible first | exact HB.out | apply below_alloc | apply pw_below_drewN | apply below_drew1) | exact HB.out)⟩⟩
                 case round =>
                  clear H'
                  try clear c1
                  try clear c2
                  try clear p2
                  try clear q2
                  try clear hx2
                  try clear c3
                  try clear p3
                  try clear q3
                  try clear hx3
                  try clear hf3
                  try clear q4
                  try clear c5
                  try clear c6
                  try clear p6
                  try clear c7
                  try clear c7b0
                  try clear c7b1
                  try clear c8
                  try clear c8b0
                  try clear c9
                  try clear c10
                  try clear c12
                  try clear c13
                  try clear c14
                  try clear c17
                  try clear c17b0
                  try clear c18
                  try clear c18b0
                  try clear c18b1
                  try clear c19
                  try clear c19b0
                  try clear c20
                  try clear c20b0
                  try clear c21
                  try clear c21b0
                  try clear c21b1
                  try clear c21b2
                  try clear c23
                  try clear c23b0
                  try clear c25
                  try clear c25b0
                  try clear p25
                  try clear q25
                  try clear hx25
                  try clear c26
                  try clear c26b0
                  try clear p26
                  try clear q26
                  try clear hx26
                  try clear c28
                  try clear c28b0
                  try clear c29
                  try clear c29b0
                  try clear p29
                  try clear q29
                  try clear hx29
                  try clear c30
                  try clear p30
                  try clear q30
                  try clear hx30
                  try clear hf30
                  try clear c31
                  try clear p31
                  try clear q31
                  try clear hx31
                  try clear hf31
                  try clear c34
                  try clear c35
                  try clear c36
                  try clear c36b0
                  try clear c36b1
                  try clear c37
                  try clear c37b0
                  try clear c37b1
                  try clear c38
                  try clear c39
                  try clear q42
                  try clear c51
                  try clear c53
                  try clear c55
                  try clear p64
                  try clear c78
                  try clear c79
                  try clear c79b0
                  try clear c80
                  try clear c80b0
                  try clear c81
                  try clear c81b0
                  try clear c82
                  try clear c82b0
                  try clear c83
                  try clear c83b0
                  try clear c84
                  try clear c84b0
                  try clear c84b1
                  try clear c84b2
                  try clear c89
                  try clear c89b0
                  try clear c89b1
                  try clear hx258_0
                  try clear hx259_0
                  try clear hx260_0
                  try clear hx260_1
                  try clear hx261_0
                  try clear hx261_1
                  try clear hx290_0
                  try clear hx290_1
                  try clear hx291_0
                  try clear hx291_1
                  try clear hx30_0
                  try clear hx30_1
                  try clear hx31_0
                  try clear hx31_1
                  try clear p2
                  try clear p25
                  try clear p258
                  try clear p259
                  try clear p26
                  try clear p260
                  try clear p261
                  try clear p290
                  try clear p291
                  try clear p3
                  try clear p30
                  try clear p31
                  try clear p6
                  try clear p64
                  try clear q2
                  try clear q25
                  try clear q258
                  try clear q259
                  try clear q26
                  try clear q260
                  try clear q261
                  try clear q290
                  try clear q291
                  try clear q3
                  try clear q30
                  try clear q31
                  try clear q4
                  try clear q42
                  obtain ⟨x16_5, rfl, HA, HK5, HO_12, HB⟩ := hrel
                  cases gk with
                  | zero => exact absurd HA.out (by simp [forebaylaw06_TagOnce.l3])
                  | succ k5 =>
                   have H := HA.out
                   clear HA
                   simp only [forebaylaw06_TagOnce.l3] at H
                   by_cases c91 : x16_5 < (t277.length : Int)
                   ·rw [if_pos c91] at H
                    have c91b0 : decide (x16_5 < (t277.length : Int)) = true := decide_eq_true c91
                    clear c91
                    have H' := Aside0.mk H
                    clear H
                    obtain ⟨Ao92, co92, eo92⟩ := Kd.V_slice HO_12.out
                    subst eo92
                    go_wp2
                    go_loopg [17, 18] k5 (fun kq v17 v18 w' => ∃ (x17_6 : Bool) (x18_6 : Int), v17 = .bool x17_6 ∧ v18 = .int .i64 x18_6 ∧ Aside0 (forebaylaw06_TagOnce.l4 kq l0 t277 x16_5 x17_6 x18_6 = some r) ∧ Aside0 (kq ≤ k5) ∧ Aside0 (Kd.V k34 34 w' w.heap.size (fun _ => True) (.slice Ao92 t277.length co92) t277) ∧ Aside0 (Below w.heap.size w w'))
                    case atStart => exact ⟨(false), (0), (by first | rfl | (simp; done) | (simp [*]; done)), (by first | rfl | (simp; done) | (simp [*]; done)), H', ⟨Nat.le_refl _⟩, ⟨by (with_reducible repeat (first | apply Kd.V_alloc | apply Kd.V_drewN | apply Kd.V_drew)); exact HO_12.out⟩, ⟨by repeat (first | (with_reducible first | exact HB.out | apply below_alloc | apply pw_below_drewN | apply below_drew1) | exact HB.out)⟩⟩
                    case round =>
                     clear H'
                     try clear c1
                     try clear c2
                     try clear p2
                     try clear q2
                     try clear hx2
                     try clear c3
                     try clear p3
                     try clear q3
                     try clear hx3
                     try clear hf3
                     try clear q4
                     try clear c5
                     try clear c6
                     try clear p6
                     try clear c7
                     try clear c7b0
                     try clear c7b1
                     try clear c8
                     try clear c8b0
                     try clear c9
                     try clear c10
                     try clear c12
                     try clear c13
                     try clear c14
                     try clear c17
                     try clear c17b0
                     try clear c18
                     try clear c18b0
                     try clear c18b1
                     try clear c19
                     try clear c19b0
                     try clear c20
                     try clear c20b0
                     try clear c21
                     try clear c21b0
                     try clear c21b1
                     try clear c21b2
                     try clear c23
                     try clear c23b0
                     try clear c25
                     try clear c25b0
                     try clear p25
                     try clear q25
                     try clear hx25
                     try clear c26
                     try clear c26b0
                     try clear p26
                     try clear q26
                     try clear hx26
                     try clear c28
                     try clear c28b0
                     try clear c29
                     try clear c29b0
                     try clear p29
                     try clear q29
                     try clear hx29
                     try clear c30
                     try clear p30
                     try clear q30
                     try clear hx30
                     try clear hf30
                     try clear c31
                     try clear p31
                     try clear q31
                     try clear hx31
                     try clear hf31
                     try clear c34
                     try clear c35
                     try clear c36
                     try clear c36b0
                     try clear c36b1
                     try clear c37
                     try clear c37b0
                     try clear c37b1
                     try clear c38
                     try clear c39
                     try clear q42
                     try clear c51
                     try clear c53
                     try clear c55
                     try clear p64
                     try clear c78
                     try clear c79
                     try clear c79b0
                     try clear c80
                     try clear c80b0
                     try clear c81
                     try clear c81b0
                     try clear c82
                     try clear c82b0
                     try clear c83
                     try clear c83b0
                     try clear c84
                     try clear c84b0
                     try clear c84b1
                     try clear c84b2
                     try clear c89
                     try clear c89b0
                     try clear c89b1
                     try clear c91
                     try clear c91b0
                     try clear hx258_0
                     try clear hx259_0
                     try clear hx260_0
                     try clear hx260_1
                     try clear hx261_0
                     try clear hx261_1
                     try clear hx290_0
                     try clear hx290_1
                     try clear hx291_0
                     try clear hx291_1
                     try clear hx30_0
                     try clear hx30_1
                     try clear hx31_0
                     try clear hx31_1
                     try clear p2
                     try clear p25
                     try clear p258
                     try clear p259
                     try clear p26
                     try clear p260
                     try clear p261
                     try clear p29
                     try clear p290
                     try clear p291
                     try clear p3
                     try clear p30
                     try clear p31
                     try clear p6
                     try clear p64
                     try clear q2
                     try clear q25
                     try clear q258
                     try clear q259
                     try clear q26
                     try clear q260
                     try clear q261
                     try clear q29
                     try clear q290
                     try clear q291
                     try clear q3
                     try clear q30
                     try clear q31
                     try clear q4
                     try clear q42
                     obtain ⟨x17_6, x18_6, rfl, rfl, HA, HK6, HO_12, HB⟩ := hrel
                     cases gk with
                     | zero => exact absurd HA.out (by simp [forebaylaw06_TagOnce.l4])
                     | succ k6 =>
                      have H := HA.out
                      clear HA
                      simp only [forebaylaw06_TagOnce.l4] at H
                      by_cases c93 : x18_6 < (l0.length : Int)
                      ·rw [if_pos c93] at H
                       have c93b0 : decide (x18_6 < (l0.length : Int)) = true := decide_eq_true c93
                       clear c93
                       by_cases c94 : x17_6 = true
                       ·subst c94
                        have H1 : (forebaylaw06_TagOnce.l4 k6 l0 t277 x16_5 true (wrap64 (x18_6 + 1))) = some r := by rw [if_pos rfl] at H; exact H
                        clear H
                        have H := H1
                        clear H1
                        have H' := Aside0.mk H
                        clear H
                        try go_wp2
                        have n0_ := Aside0.mk (Kd.V_drew HO_12.out)
                        have n1_ := Aside0.mk (below_drew1 HB.out)
                        clear HO_12
                        clear HB
                        have HO_12 := n0_
                        have HB := n1_
                        clear n0_ n1_
                        refine start_ (n := 13) (S := fun w' => True) (ds := []) #[false, false, false, false, false, false, false, false, false, false, false, false, false] (by kernel_rfl) rfl rfl trivial (fun hHeld => ?_); refine with_tabW forebaylaw06_TagOnce.tab33 forebaylaw06_TagOnce.bits33 (fun HT_ HW_ => ?_)
                        generalize wr.drew = w95 at HO_12 HB hHeld ⊢
                        refine pure_ (i := 0) (N := some 164) (v := ?_) (a' := ?_) #[true, false, false, false, false, false, false, false, false, false, false, false, false] rfl rfl (any_of HT_.out (by kernel_rfl)) (fun _ _ _ h => h) (Or.inl ⟨by rfl, ?_⟩) ?_ ?_
                        rotate_left
                        ·intro w'
                         go_simp
                         with_reducible rfl
                        rotate_left
                        ·simp only [Act.put, List.setIfInBounds_toArray, List.set_cons_zero, List.set_cons_succ, i64_w, i32_w]
                         rfl
                        refine pure_ (i := 1) (N := some 165) (v := ?_) (a' := ?_) #[true, true, false, false, false, false, false, false, false, false, false, false, false] rfl rfl (any_of HT_.out (by kernel_rfl)) (fun _ _ _ h => h) (Or.inl ⟨by rfl, ?_⟩) ?_ ?_
                        rotate_left
                        ·intro w'
                         go_simp
                         with_reducible rfl
                        rotate_left
                        ·simp only [Act.put, List.setIfInBounds_toArray, List.set_cons_zero, List.set_cons_succ, i64_w, i32_w]
                         rfl
                        refine pure_ (i := 2) (N := some 166) (v := undef) (a' := ?_) #[true, true, true, false, false, false, false, false, false, false, false, false, false] rfl rfl (any_of HT_.out (by kernel_rfl)) (fun _ _ _ h => h) (Or.inr ⟨by rfl, rfl⟩) ?_ ?_
                        rotate_left
                        ·simp only [Act.put, List.setIfInBounds_toArray, List.set_cons_zero, List.set_cons_succ, i64_w, i32_w]
                         rfl
                        refine pure_ (i := 3) (N := some 167) (v := undef) (a' := ?_) #[true, true, true, true, false, false, false, false, false, false, false, false, false] rfl rfl (any_of HT_.out (by kernel_rfl)) (fun _ _ _ h => h) (Or.inr ⟨by rfl, rfl⟩) ?_ ?_
                        rotate_left
                        ·simp only [Act.put, List.setIfInBounds_toArray, List.set_cons_zero, List.set_cons_succ, i64_w, i32_w]
                         rfl
                        refine pure_ (i := 4) (N := some 168) (v := undef) (a' := ?_) #[true, true, true, true, true, false, false, false, false, false, false, false, false] rfl rfl (any_of HT_.out (by kernel_rfl)) (fun _ _ _ h => h) (Or.inr ⟨by rfl, rfl⟩) ?_ ?_
                        rotate_left
                        ·simp only [Act.put, List.setIfInBounds_toArray, List.set_cons_zero, List.set_cons_succ, i64_w, i32_w]
                         rfl
                        refine pure_ (i := 5) (N := some 169) (v := undef) (a' := ?_) #[true, true, true, true, true, true, false, false, false, false, false, false, false] rfl rfl (any_of HT_.out (by kernel_rfl)) (fun _ _ _ h => h) (Or.inr ⟨by rfl, rfl⟩) ?_ ?_
                        rotate_left
                        ·simp only [Act.put, List.setIfInBounds_toArray, List.set_cons_zero, List.set_cons_succ, i64_w, i32_w]
                         rfl
                        refine pure_ (i := 6) (N := some 170) (v := undef) (a' := ?_) #[true, true, true, true, true, true, true, false, false, false, false, false, false] rfl rfl (any_of HT_.out (by kernel_rfl)) (fun _ _ _ h => h) (Or.inr ⟨by rfl, rfl⟩) ?_ ?_
                        rotate_left
                        ·simp only [Act.put, List.setIfInBounds_toArray, List.set_cons_zero, List.set_cons_succ, i64_w, i32_w]
                         rfl
                        refine pure_ (i := 7) (N := some 171) (v := undef) (a' := ?_) #[true, true, true, true, true, true, true, true, false, false, false, false, false] rfl rfl (any_of HT_.out (by kernel_rfl)) (fun _ _ _ h => h) (Or.inr ⟨by rfl, rfl⟩) ?_ ?_
                        rotate_left
                        ·simp only [Act.put, List.setIfInBounds_toArray, List.set_cons_zero, List.set_cons_succ, i64_w, i32_w]
                         rfl
                        refine pure_ (i := 8) (N := some 172) (v := undef) (a' := ?_) #[true, true, true, true, true, true, true, true, true, false, false, false, false] rfl rfl (any_of HT_.out (by kernel_rfl)) (fun _ _ _ h => h) (Or.inr ⟨by rfl, rfl⟩) ?_ ?_
                        rotate_left
                        ·simp only [Act.put, List.setIfInBounds_toArray, List.set_cons_zero, List.set_cons_succ, i64_w, i32_w]
                         rfl
                        refine pure_ (i := 9) (N := some 173) (v := undef) (a' := ?_) #[true, true, true, true, true, true, true, true, true, true, false, false, false] rfl rfl (any_of HT_.out (by kernel_rfl)) (fun _ _ _ h => h) (Or.inr ⟨by rfl, rfl⟩) ?_ ?_
                        rotate_left
                        ·simp only [Act.put, List.setIfInBounds_toArray, List.set_cons_zero, List.set_cons_succ, i64_w, i32_w]
                         rfl
                        refine pure_ (i := 10) (N := some 174) (v := undef) (a' := ?_) #[true, true, true, true, true, true, true, true, true, true, true, false, false] rfl rfl (any_of HT_.out (by kernel_rfl)) (fun _ _ _ h => h) (Or.inr ⟨by rfl, rfl⟩) ?_ ?_
                        rotate_left
                        ·simp only [Act.put, List.setIfInBounds_toArray, List.set_cons_zero, List.set_cons_succ, i64_w, i32_w]
                         rfl
                        refine pure_ (i := 11) (N := some 175) (v := ?_) (a' := ?_) #[true, true, true, true, true, true, true, true, true, true, true, true, false] rfl rfl (any_of HT_.out (by kernel_rfl)) (fun _ _ _ h => h) (Or.inl ⟨by rfl, ?_⟩) ?_ ?_
                        rotate_left
                        ·intro w'
                         go_simp
                         with_reducible rfl
                        rotate_left
                        ·simp only [Act.put, List.setIfInBounds_toArray, List.set_cons_zero, List.set_cons_succ, i64_w, i32_w]
                         rfl
                        refine pure_ (i := 12) (N := some 17) (v := ?_) (a' := ?_) #[true, true, true, true, true, true, true, true, true, true, true, true, true] rfl rfl (any_of HT_.out (by kernel_rfl)) (fun _ _ _ h => h) (Or.inl ⟨by rfl, ?_⟩) ?_ ?_
                        rotate_left
                        ·intro w'
                         go_simp
                         with_reducible rfl
                        rotate_left
                        ·simp only [Act.put, List.setIfInBounds_toArray, List.set_cons_zero, List.set_cons_succ, i64_w, i32_w]
                         rfl
                        refine done_ (done_of HT_.out (by kernel_rfl)) ?_
                        try go_wp2
                        go_roundg k6
                        case measure => have := HJ3.out; have := HJ12.out; have := HJ40.out; have := HK4.out; have := HK5.out; have := HK6.out; omega
                        case rel => exact ⟨(true), (wrap64 (x18_6 + 1)), (by first | rfl | (simp; done) | (simp [*]; done)), (by first | rfl | (simp; done) | (simp [*]; done)), H', ⟨by have := HJ3.out; have := HJ12.out; have := HJ40.out; have := HK4.out; have := HK5.out; have := HK6.out; omega⟩, ⟨by (with_reducible repeat (first | apply Kd.V_alloc | apply Kd.V_drewN | apply Kd.V_drew)); exact HO_12.out⟩, ⟨by repeat (first | (with_reducible first | exact HB.out | apply below_alloc | apply pw_below_drewN | apply below_drew1) | exact HB.out)⟩⟩
                       ·replace c94 := Bool.eq_false_iff.mpr c94
                        subst c94
                        have H1 : (if 0 ≤ x18_6 then (if 0 ≤ x16_5 then (if x16_5 < (t277.length : Int) then (forebaylaw06_TagOnce.l4 k6 l0 t277 x16_5 ((((rd_T34 l0 x18_6).f0).toList) == (((rd_T34 t277 x16_5).f0).toList) && ((((rd_T34 l0 x18_6).f1).toList) == (((rd_T34 t277 x16_5).f1).toList))) (wrap64 (x18_6 + 1))) else (none)) else (none)) else (none)) = some r := by rw [if_neg (show ¬ (false = true) by decide)] at H; exact H
                        clear H
                        have H := H1
                        clear H1
                        by_cases c96 : 0 ≤ x18_6
                        ·rw [if_pos c96] at H
                         have c96b0 : decide (0 ≤ x18_6) = true := decide_eq_true c96
                         clear c96
                         by_cases c97 : 0 ≤ x16_5
                         ·rw [if_pos c97] at H
                          have c97b0 : decide (0 ≤ x16_5) = true := decide_eq_true c97
                          clear c97
                          by_cases c98 : x16_5 < (t277.length : Int)
                          ·rw [if_pos c98] at H
                           have c98b0 : decide (x16_5 < (t277.length : Int)) = true := decide_eq_true c98
                           clear c98
                           have H' := Aside0.mk H
                           clear H
                           try go_wp2
                           have n0_ := Aside0.mk (Kd.V_drew HO_12.out)
                           have n1_ := Aside0.mk (below_drew1 HB.out)
                           clear HO_12
                           clear HB
                           have HO_12 := n0_
                           have HB := n1_
                           clear n0_ n1_
                           have p293 : 0 ≤ (x18_6 : Int) := of_decide_eq_true (by first | (with_reducible assumption) | assumption)
                           have q293 : x18_6 < (l0.length : Int) := of_decide_eq_true (by first | (with_reducible assumption) | assumption)
                           obtain ⟨ad293, e293, hx293_0, hx293_1⟩ := at_T34 HR0.out x18_6 p293 q293
                           have hw293_1 := hx293_1
                           have hw293_0 := hx293_0
                           cases e293
                           replace hx293_0 := (HB.out.cell (World.block_lt_of_cell? w _ hx293_0)).trans hx293_0
                           replace hx293_1 := (HB.out.cell (World.block_lt_of_cell? w _ hx293_1)).trans hx293_1
                           replace p293 := eq_true p293
                           replace q293 := eq_true q293
                           have p294 : 0 ≤ (x16_5 : Int) := of_decide_eq_true (by first | (with_reducible assumption) | assumption)
                           have q294 : x16_5 < (t277.length : Int) := of_decide_eq_true (by first | (with_reducible assumption) | assumption)
                           obtain ⟨ad294, e294, hx294_0, hx294_1⟩ := at_T34 (Kd.V_reads' HO_12.out).2.2 x16_5 p294 q294
                           cases e294
                           replace p294 := eq_true p294
                           replace q294 := eq_true q294
                           refine start_ (n := 13) (S := fun w' => w'.cell? (ad293.add ((x18_6).toNat * 2)) = some (.string ((rd_T34 l0 x18_6).f0)) ∧ w'.cell? ⟨(ad293.add ((x18_6).toNat * 2)).block, (ad293.add ((x18_6).toNat * 2)).off + 1, none⟩ = some (.string ((rd_T34 l0 x18_6).f1)) ∧ w'.cell? (ad294.add ((x16_5).toNat * 2)) = some (.string ((rd_T34 t277 x16_5).f0)) ∧ w'.cell? ⟨(ad294.add ((x16_5).toNat * 2)).block, (ad294.add ((x16_5).toNat * 2)).off + 1, none⟩ = some (.string ((rd_T34 t277 x16_5).f1))) (ds := []) #[false, false, false, false, false, false, false, false, false, false, false, false, false] (by kernel_rfl) rfl rfl ⟨((HB.out.cell (World.block_lt_of_cell? w _ hw293_0)).trans hw293_0), ((HB.out.cell (World.block_lt_of_cell? w _ hw293_1)).trans hw293_1), hx294_0, hx294_1⟩ (fun hHeld => ?_); refine with_tabW forebaylaw06_TagOnce.tab33 forebaylaw06_TagOnce.bits33 (fun HT_ HW_ => ?_)
                           generalize wr.drew = w99 at HO_12 HB hx293_0 hx293_1 hx294_0 hx294_1 hHeld ⊢
                           refine pure_ (i := 0) (N := some 164) (v := ?_) (a' := ?_) #[true, false, false, false, false, false, false, false, false, false, false, false, false] rfl rfl (any_of HT_.out (by kernel_rfl)) (fun _ _ _ h => h) (Or.inl ⟨by rfl, ?_⟩) ?_ ?_
                           rotate_left
                           ·intro w'
                            go_simp
                            with_reducible rfl
                           rotate_left
                           ·simp only [Act.put, List.setIfInBounds_toArray, List.set_cons_zero, List.set_cons_succ, i64_w, i32_w]
                            rfl
                           refine pure_ (i := 1) (N := some 165) (v := ?_) (a' := ?_) #[true, true, false, false, false, false, false, false, false, false, false, false, false] rfl rfl (any_of HT_.out (by kernel_rfl)) (fun _ _ _ h => h) (Or.inl ⟨by rfl, ?_⟩) ?_ ?_
                           rotate_left
                           ·intro w'
                            go_simp
                            with_reducible rfl
                           rotate_left
                           ·simp only [Act.put, List.setIfInBounds_toArray, List.set_cons_zero, List.set_cons_succ, i64_w, i32_w]
                            rfl
                           refine pure_ (i := 2) (N := some 166) (v := ?_) (a' := ?_) #[true, true, true, false, false, false, false, false, false, false, false, false, false] rfl rfl (any_of HT_.out (by kernel_rfl)) (fun _ _ _ h => h) (Or.inl ⟨by rfl, ?_⟩) ?_ ?_
                           rotate_left
                           ·intro w'
                            go_simp
                            with_reducible rfl
                           rotate_left
                           ·simp only [Act.put, List.setIfInBounds_toArray, List.set_cons_zero, List.set_cons_succ, i64_w, i32_w]
                            rfl
                           refine pure_ (i := 3) (N := some 167) (v := ?_) (a' := ?_) #[true, true, true, true, false, false, false, false, false, false, false, false, false] rfl rfl (any_of HT_.out (by kernel_rfl)) (fun _ _ _ h => h) (Or.inl ⟨by rfl, ?_⟩) ?_ ?_
                           rotate_left
                           ·intro w'
                            go_simp
                            with_reducible rfl
                           rotate_left
                           ·simp only [Act.put, List.setIfInBounds_toArray, List.set_cons_zero, List.set_cons_succ, i64_w, i32_w]
                            rfl
                           refine pure_ (i := 4) (N := some 168) (v := ?_) (a' := ?_) #[true, true, true, true, true, false, false, false, false, false, false, false, false] rfl rfl (any_of HT_.out (by kernel_rfl)) (fun _ _ _ h => h) (Or.inl ⟨by rfl, ?_⟩) ?_ ?_
                           rotate_left
                           ·intro w'
                            go_simp
                            with_reducible rfl
                           rotate_left
                           ·simp only [Act.put, List.setIfInBounds_toArray, List.set_cons_zero, List.set_cons_succ, i64_w, i32_w]
                            rfl
                           refine pure_ (i := 6) (N := some 170) (v := ?_) (a' := ?_) #[true, true, true, true, true, false, true, false, false, false, false, false, false] rfl rfl (any_of HT_.out (by kernel_rfl)) (fun _ _ _ h => h) (Or.inl ⟨by rfl, ?_⟩) ?_ ?_
                           rotate_left
                           ·intro w'
                            go_simp
                            with_reducible rfl
                           rotate_left
                           ·simp only [Act.put, List.setIfInBounds_toArray, List.set_cons_zero, List.set_cons_succ, i64_w, i32_w]
                            rfl
                           refine pure_ (i := 7) (N := some 171) (v := ?_) (a' := ?_) #[true, true, true, true, true, false, true, true, false, false, false, false, false] rfl rfl (any_of HT_.out (by kernel_rfl)) (fun _ _ _ h => h) (Or.inl ⟨by rfl, ?_⟩) ?_ ?_
                           rotate_left
                           ·intro w'
                            go_simp
                            with_reducible rfl
                           rotate_left
                           ·simp only [Act.put, List.setIfInBounds_toArray, List.set_cons_zero, List.set_cons_succ, i64_w, i32_w]
                            rfl
                           refine pure_ (i := 8) (N := some 172) (v := ?_) (a' := ?_) #[true, true, true, true, true, false, true, true, true, false, false, false, false] rfl rfl (any_of HT_.out (by kernel_rfl)) (fun _ _ _ h => h) (Or.inl ⟨by rfl, ?_⟩) ?_ ?_
                           rotate_left
                           ·intro w'
                            go_simp
                            with_reducible rfl
                           rotate_left
                           ·simp only [Act.put, List.setIfInBounds_toArray, List.set_cons_zero, List.set_cons_succ, i64_w, i32_w]
                            rfl
                           refine take_ (i := 5) (N := some 169) (v := ?_) (a' := ?_) #[true, true, true, true, true, true, true, true, true, false, false, false, false] rfl rfl (take_ofW HT_.out HW_.out (by kernel_rfl)) (fun _ _ _ h => h) (Or.inl ⟨by rfl, ?_⟩) hHeld ?_ ?_
                           rotate_left
                           ·rintro w' ⟨s0, s1, s2, s3⟩
                            go_simp
                            with_reducible rfl
                           rotate_left
                           ·simp only [Act.put, List.setIfInBounds_toArray, List.set_cons_zero, List.set_cons_succ, i64_w, i32_w]
                            rfl
                           refine take_ (i := 9) (N := some 173) (v := ?_) (a' := ?_) #[true, true, true, true, true, true, true, true, true, true, false, false, false] rfl rfl (take_ofW HT_.out HW_.out (by kernel_rfl)) (fun _ _ _ h => h) (Or.inl ⟨by rfl, ?_⟩) hHeld ?_ ?_
                           rotate_left
                           ·rintro w' ⟨s0, s1, s2, s3⟩
                            go_simp
                            with_reducible rfl
                           rotate_left
                           ·simp only [Act.put, List.setIfInBounds_toArray, List.set_cons_zero, List.set_cons_succ, i64_w, i32_w]
                            rfl
                           refine pure_ (i := 10) (N := some 174) (v := ?_) (a' := ?_) #[true, true, true, true, true, true, true, true, true, true, true, false, false] rfl rfl (any_of HT_.out (by kernel_rfl)) (fun _ _ _ h => h) (Or.inl ⟨by rfl, ?_⟩) ?_ ?_
                           rotate_left
                           ·intro w'
                            go_simp
                            with_reducible rfl
                           rotate_left
                           ·simp only [Act.put, List.setIfInBounds_toArray, List.set_cons_zero, List.set_cons_succ, i64_w, i32_w]
                            rfl
                           refine pure_ (i := 11) (N := some 175) (v := ?_) (a' := ?_) #[true, true, true, true, true, true, true, true, true, true, true, true, false] rfl rfl (any_of HT_.out (by kernel_rfl)) (fun _ _ _ h => h) (Or.inl ⟨by rfl, ?_⟩) ?_ ?_
                           rotate_left
                           ·intro w'
                            go_simp
                            with_reducible rfl
                           rotate_left
                           ·simp only [Act.put, List.setIfInBounds_toArray, List.set_cons_zero, List.set_cons_succ, i64_w, i32_w]
                            rfl
                           refine pure_ (i := 12) (N := some 17) (v := ?_) (a' := ?_) #[true, true, true, true, true, true, true, true, true, true, true, true, true] rfl rfl (any_of HT_.out (by kernel_rfl)) (fun _ _ _ h => h) (Or.inl ⟨by rfl, ?_⟩) ?_ ?_
                           rotate_left
                           ·intro w'
                            go_simp
                            with_reducible rfl
                           rotate_left
                           ·simp only [Act.put, List.setIfInBounds_toArray, List.set_cons_zero, List.set_cons_succ, i64_w, i32_w]
                            rfl
                           refine done_ (done_of HT_.out (by kernel_rfl)) ?_
                           try go_wp2
                           go_roundg k6
                           case measure => have := HJ3.out; have := HJ12.out; have := HJ40.out; have := HK4.out; have := HK5.out; have := HK6.out; omega
                           case rel => exact ⟨(((((rd_T34 l0 x18_6).f0).toList) == (((rd_T34 t277 x16_5).f0).toList) && ((((rd_T34 l0 x18_6).f1).toList) == (((rd_T34 t277 x16_5).f1).toList)))), (wrap64 (x18_6 + 1)), (by first | rfl | (simp; done) | (simp [*]; done)), (by first | rfl | (simp; done) | (simp [*]; done)), H', ⟨by have := HJ3.out; have := HJ12.out; have := HJ40.out; have := HK4.out; have := HK5.out; have := HK6.out; omega⟩, ⟨by (with_reducible repeat (first | apply Kd.V_alloc | apply Kd.V_drewN | apply Kd.V_drew)); exact HO_12.out⟩, ⟨by repeat (first | (with_reducible first | exact HB.out | apply below_alloc | apply pw_below_drewN | apply below_drew1) | exact HB.out)⟩⟩
                          ·rw [if_neg c98] at H
                           exact absurd H (by simp)
                         ·rw [if_neg c97] at H
                          exact absurd H (by simp)
                        ·rw [if_neg c96] at H
                         exact absurd H (by simp)
                      ·rw [if_neg c93] at H
                       have c93b0 : decide (x18_6 < (l0.length : Int)) = false := decide_eq_false c93
                       clear c93
                       by_cases c100 : x17_6 = true
                       ·subst c100
                        have H1 : (forebaylaw06_TagOnce.l3 k6 l0 t277 (wrap64 (x16_5 + 1))) = some r := by rw [if_pos rfl] at H; exact H
                        clear H
                        have H := H1
                        clear H1
                        have H' := Aside0.mk H
                        clear H
                        go_wp2
                        go_roundg k6
                        case measure => have := HJ3.out; have := HJ12.out; have := HJ40.out; have := HK4.out; have := HK5.out; have := HK6.out; omega
                        case rel => exact ⟨(wrap64 (x16_5 + 1)), (by first | rfl | (simp; done) | (simp [*]; done)), H', ⟨by have := HJ3.out; have := HJ12.out; have := HJ40.out; have := HK4.out; have := HK5.out; have := HK6.out; omega⟩, ⟨by (with_reducible repeat (first | apply Kd.V_alloc | apply Kd.V_drewN | apply Kd.V_drew)); exact HO_12.out⟩, ⟨by repeat (first | (with_reducible first | exact HB.out | apply below_alloc | apply pw_below_drewN | apply below_drew1) | exact HB.out)⟩⟩
                       ·replace c100 := Bool.eq_false_iff.mpr c100
                        subst c100
                        have H1 : (none) = some r := by rw [if_neg (show ¬ (false = true) by decide)] at H; exact H
                        clear H
                        have H := H1
                        clear H1
                        exact absurd H (by simp)
                   ·rw [if_neg c91] at H
                    have c91b0 : decide (x16_5 < (t277.length : Int)) = false := decide_eq_false c91
                    clear c91
                    replace H := Option.bind_eq_some_iff.mp H
                    obtain ⟨t292, A1010, H⟩ := H
                    replace H : (some t292) = some r := H
                    have A101 := Aside0.mk A1010
                    clear A1010
                    obtain rfl := Option.some.inj H
                    obtain ⟨Ao102, co102, eo102⟩ := Kd.V_slice HO_12.out
                    subst eo102
                    go_wp2_with (first | ((with_reducible refine gate_callee (f := 10) rfl ?_); refine goesL_ (some 178) rfl rfl Tryd.func10 (by kernel_rfl) rfl #[] rfl (by (try simp only [List.map_toArray, List.map_cons, List.map_nil]); first | done | rfl | (simp only [List.length_drop, List.length_take]; rfl)) ?_; (with_reducible refine (forebaylaw06_awake.calls k5  t292 _ A101.out (MaxAt.below HMX.out (by repeat (first | (with_reducible first | exact HB.out | apply below_alloc | apply pw_below_drewN | apply below_drew1) | exact HB.out)))).mono ?_); rintro e w103 ⟨rfl, hb⟩; refine ⟨_, rfl, ?_⟩; have n0_ := Aside0.mk (Kd.V_below (by (with_reducible repeat (first | apply Kd.V_alloc | apply Kd.V_drewN | apply Kd.V_drew)); exact HO_12.out) hb); have n1_ := Aside0.mk (below_step (by repeat (first | (with_reducible first | exact HB.out | apply below_alloc | apply pw_below_drewN | apply below_drew1) | exact HB.out)) hb); clear HO_12; clear HB; have HO_12 := n0_; have HB := n1_; clear n0_ n1_; (try clear hb); (try clear hb2); (try clear hk); (try clear hi)))
                    go_ret
                    exact ⟨by first | rfl | (simp [errW_none, errW_some] <;> rfl) | (simp [*, errW_none, errW_some] <;> rfl), by repeat (first | (with_reducible first | exact HB.out | apply below_alloc | apply pw_below_drewN | apply below_drew1) | exact HB.out)⟩
          ·rw [if_neg c39] at H
           exact absurd H (by simp)
         ·rw [if_neg c38] at H
          exact absurd H (by simp)
        ·rw [if_neg c37] at H
         exact absurd H (by simp)
       ·rw [if_neg c36] at H
        exact absurd H (by simp)
    ·rw [if_neg c12] at H
     exact absurd H (by simp)
end Go.Proofs.YthflkmgcifccjaaDoor.PE
