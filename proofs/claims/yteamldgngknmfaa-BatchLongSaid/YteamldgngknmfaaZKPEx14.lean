-- Printed by the kit's print.py over contracts of this session's own.
import Derived.Test.YteamldgngknmfaaZKInjN
import Derived.Test.YteamldgngknmfaaZKPEx0
import Derived.Test.YteamldgngknmfaaZKPEx4
import Derived.Test.YteamldgngknmfaaZKPEx8
import Derived.Test.YteamldgngknmfaaZKPEx10
namespace Go.Proofs.Yteamldgngknmfaa.PE
open Go.RowKit Go.Proofs.YteamldgngknmfaaW.PrintWords Go.Proofs.YteamldgngknmfaaW.PrintLast Go.Proofs.YteamldgngknmfaaW.PrintMore
attribute [local go_sem] max2_int min2_int max_two min_two max_three min_three max_four min_four   -- for this text's walks alone
set_option linter.unusedVariables false
set_option linter.unusedSimpArgs false
/-! ### forebaylaw08_Few: function 28 -/
mutual
def forebaylaw08_Few.l0 : Nat → List (S25) → Int → Option (Bool)
 | 0, _, _ => none
 | k + 1, x0, x3 => if x3 < (x0.length : Int) then (forebaylaw08_Few.j1 k x0 x3 (decide (x3 < 13))) else (forebaylaw08_Few.j1 k x0 x3 false)
def forebaylaw08_Few.j1 : Nat → List (S25) → Int → Bool → Option (Bool)
 | 0, _, _, _ => none
 | k + 1, x0, x3, x11 => if x11 = true then (if 0 ≤ x3 then (if x3 < (x0.length : Int) then ((forebaylaw07_Few.f k ((rd_T25 x0 x3).f0) ((rd_T25 x0 x3).f1) ((rd_T25 x0 x3).f2) ((rd_T25 x0 x3).f3) ((rd_T25 x0 x3).f4) ((rd_T25 x0 x3).f5)).bind fun t469 => (if t469 = true then (forebaylaw08_Few.l0 k x0 (wrap64 (x3 + 1))) else (some false))) else (none)) else (none)) else (some (decide ((x0.length : Int) ≤ 12)))
end
/-! ### forebaylaw08_texts: function 36 -/
def forebaylaw08_texts.l0 : Nat → List ByteArray → List ByteArray → Int → Option (Bool)
 | 0, _, _, _ => none
 | k + 1, x0, x1, x5 => if x5 < (x0.length : Int) then (if 0 ≤ x5 then (if x5 < (x1.length : Int) then (if (rdOf ByteArray.empty x0 x5).toList = (rdOf ByteArray.empty x1 x5).toList then (forebaylaw08_texts.l0 k x0 x1 (wrap64 (x5 + 1))) else (some false)) else (none)) else (none)) else (some true)
def forebaylaw08_texts.f (k : Nat) (l0 : List ByteArray) (l1 : List ByteArray) : Option (Bool) := if (l0.length : Int) = (l1.length : Int) then (forebaylaw08_texts.l0 k l0 l1 0) else (some false)
set_option maxHeartbeats 8000000 in
set_option maxRecDepth 100000 in
theorem forebaylaw08_texts.calls (k : Nat) (A0 : Option Addr) (c0 : Nat) (l0 : List ByteArray) (A1 : Option Addr) (c1 : Nat) (l1 : List ByteArray) (r : Bool) (w : World) (hr0 : Kd.C Kd.string w A0 l0.length l0) (hc0 : l0.length ≤ c0) (hr1 : Kd.C Kd.string w A1 l1.length l1) (hc1 : l1.length ≤ c1) (h : forebaylaw08_texts.f k l0 l1 = some r) :
  Calls Try.prog 36 #[.slice A0 l0.length c0, .slice A1 l1.length c1] w fun e w' => e = .returned (.bool r) ∧ Drawn0 w w' := by
 have HR0 := Aside0.mk hr0
 have HC0 := Aside0.mk hc0
 clear hr0 hc0
 have HR1 := Aside0.mk hr1
 have HC1 := Aside0.mk hc1
 clear hr1 hc1
 have H : (if (l0.length : Int) = (l1.length : Int) then (forebaylaw08_texts.l0 k l0 l1 0) else (some false)) = some r := h
 clear h
 by_cases c3 : (l0.length : Int) = (l1.length : Int)
 ·rw [if_pos c3] at H
  have c3b0 : ((l0.length : Int) == (l1.length : Int)) = true := beq_iff_eq.mpr c3
  have c3b1 : ((l0.length : Int) != (l1.length : Int)) = false := bne_eq_false_iff_eq.mpr c3
  have c3b2 : (l0.length == l1.length) = true := by first | simpa using c3 | (simp at c3 ⊢; omega)
  clear c3
  have H' := Aside0.mk H
  clear H
  go_enter Try.func36, Try.ntmps36
  go_wp2
  repeat (go_quiet (fail); try go_wp2)
  go_loopg [5] k (fun kq v5 w' => ∃ (x5_1 : Int), v5 = .int .i64 x5_1 ∧ Aside0 (forebaylaw08_texts.l0 kq l0 l1 x5_1 = some r) ∧ Aside0 (kq ≤ k) ∧ Drawn0 w w')
  case atStart => exact ⟨(0), (by first | rfl | (simp; done) | (simp [*]; done)), H', ⟨Nat.le_refl _⟩, by repeat (first | exact Drawn0.refl _ | apply Drawn0.step)⟩
  case round =>
   clear H'
   try clear c1
   try clear p2
   try clear c3
   try clear c3b0
   try clear c3b1
   try clear c3b2
   obtain ⟨x5_1, rfl, HA, HK1, ⟨m1, rfl⟩⟩ := hrel
   cases gk with
   | zero => exact absurd HA.out (by simp [forebaylaw08_texts.l0])
   | succ k1 =>
    have H := HA.out
    clear HA
    simp only [forebaylaw08_texts.l0] at H
    by_cases c4 : x5_1 < (l0.length : Int)
    ·rw [if_pos c4] at H
     have c4b0 : decide (x5_1 < (l0.length : Int)) = true := decide_eq_true c4
     clear c4
     by_cases c5 : 0 ≤ x5_1
     ·rw [if_pos c5] at H
      have c5b0 : decide (0 ≤ x5_1) = true := decide_eq_true c5
      clear c5
      by_cases c6 : x5_1 < (l1.length : Int)
      ·rw [if_pos c6] at H
       have c6b0 : decide (x5_1 < (l1.length : Int)) = true := decide_eq_true c6
       clear c6
       by_cases c7 : (rdOf ByteArray.empty l0 x5_1).toList = (rdOf ByteArray.empty l1 x5_1).toList
       ·rw [if_pos c7] at H
        have c7b0 : ((rdOf ByteArray.empty l0 x5_1).toList == (rdOf ByteArray.empty l1 x5_1).toList) = true := beq_iff_eq.mpr c7
        have c7b1 : ((rdOf ByteArray.empty l0 x5_1).toList != (rdOf ByteArray.empty l1 x5_1).toList) = false := bne_eq_false_iff_eq.mpr c7
        clear c7
        have H' := Aside0.mk H
        clear H
        have p470 : 0 ≤ (x5_1 : Int) := of_decide_eq_true (by first | (with_reducible assumption) | assumption)
        have q470 : x5_1 < (l0.length : Int) := of_decide_eq_true (by first | (with_reducible assumption) | assumption)
        obtain ⟨ad470, e470, hx470_0⟩ := Kd.at_string HR0.out x5_1 p470 q470
        cases e470
        replace p470 := eq_true p470
        replace q470 := eq_true q470
        have p471 : 0 ≤ (x5_1 : Int) := of_decide_eq_true (by first | (with_reducible assumption) | assumption)
        have q471 : x5_1 < (l1.length : Int) := of_decide_eq_true (by first | (with_reducible assumption) | assumption)
        obtain ⟨ad471, e471, hx471_0⟩ := Kd.at_string HR1.out x5_1 p471 q471
        cases e471
        replace p471 := eq_true p471
        replace q471 := eq_true q471
        go_wp2
        repeat (go_quiet (fail); try go_wp2)
        go_roundg k1
        case measure => have := HK1.out; omega
        case rel => exact ⟨(wrap64 (x5_1 + 1)), (by first | rfl | (simp; done) | (simp [*]; done)), H', ⟨by have := HK1.out; omega⟩, by repeat (first | exact Drawn0.refl _ | apply Drawn0.step)⟩
       ·rw [if_neg c7] at H
        have c7b0 : ((rdOf ByteArray.empty l0 x5_1).toList == (rdOf ByteArray.empty l1 x5_1).toList) = false := beq_eq_false_iff_ne.mpr c7
        have c7b1 : ((rdOf ByteArray.empty l0 x5_1).toList != (rdOf ByteArray.empty l1 x5_1).toList) = true := bne_iff_ne.mpr c7
        obtain rfl := Option.some.inj H
        have p470 : 0 ≤ (x5_1 : Int) := of_decide_eq_true (by first | (with_reducible assumption) | assumption)
        have q470 : x5_1 < (l0.length : Int) := of_decide_eq_true (by first | (with_reducible assumption) | assumption)
        obtain ⟨ad470, e470, hx470_0⟩ := Kd.at_string HR0.out x5_1 p470 q470
        cases e470
        replace p470 := eq_true p470
        replace q470 := eq_true q470
        have p471 : 0 ≤ (x5_1 : Int) := of_decide_eq_true (by first | (with_reducible assumption) | assumption)
        have q471 : x5_1 < (l1.length : Int) := of_decide_eq_true (by first | (with_reducible assumption) | assumption)
        obtain ⟨ad471, e471, hx471_0⟩ := Kd.at_string HR1.out x5_1 p471 q471
        cases e471
        replace p471 := eq_true p471
        replace q471 := eq_true q471
        go_wp2
        repeat (go_quiet (fail); try go_wp2)
        go_ret
        exact ⟨by first | rfl | (simp; done) | (simp [*]; done), by repeat (first | exact Drawn0.refl _ | apply Drawn0.step)⟩
      ·rw [if_neg c6] at H
       exact absurd H (by simp)
     ·rw [if_neg c5] at H
      exact absurd H (by simp)
    ·rw [if_neg c4] at H
     have c4b0 : decide (x5_1 < (l0.length : Int)) = false := decide_eq_false c4
     clear c4
     obtain rfl := Option.some.inj H
     go_wp2
     repeat (go_quiet (fail); try go_wp2)
     go_ret
     exact ⟨by first | rfl | (simp; done) | (simp [*]; done), by repeat (first | exact Drawn0.refl _ | apply Drawn0.step)⟩
 ·rw [if_neg c3] at H
  have c3b0 : ((l0.length : Int) == (l1.length : Int)) = false := beq_eq_false_iff_ne.mpr c3
  have c3b1 : ((l0.length : Int) != (l1.length : Int)) = true := bne_iff_ne.mpr c3
  have c3b2 : (l0.length == l1.length) = false := by first | simpa using c3 | (simp at c3 ⊢; omega)
  obtain rfl := Option.some.inj H
  go_enter Try.func36, Try.ntmps36
  go_wp2
  repeat (go_quiet (fail); try go_wp2)
  go_ret
  exact ⟨by first | rfl | (simp; done) | (simp [*]; done), by repeat (first | exact Drawn0.refl _ | apply Drawn0.step)⟩
/-! ### forebaylaw08_awake: function 29 -/
def forebaylaw08_awake.f (k : Nat)  : Option (Bool) := (batch_Check.f (([(⟨(⟨#[97]⟩ : ByteArray), 1, (([(⟨false, 0, 0⟩ : S40)] : List (S40))), 1000000, ([] : List (S37)), 0⟩ : S25), (⟨(⟨#[97]⟩ : ByteArray), 1, ([] : List (S40)), 1000000, ([] : List (S37)), 0⟩ : S25)] : List (S25)))).bind fun bt478 => ((batch_Names.f (([(⟨(⟨#[98]⟩ : ByteArray), 0, ([] : List (S40)), 0, ([] : List (S37)), 0⟩ : S25), (⟨(⟨#[97]⟩ : ByteArray), 0, ([] : List (S40)), 0, ([] : List (S37)), 0⟩ : S25), (⟨(⟨#[98]⟩ : ByteArray), 0, ([] : List (S40)), 0, ([] : List (S37)), 0⟩ : S25)] : List (S25)))).bind fun t483 => ((forebaylaw08_texts.f k t483 (([(⟨#[98]⟩ : ByteArray), (⟨#[97]⟩ : ByteArray)] : List ByteArray))).bind fun t489 => (if t489 = true then (if bt478.1 = 1 then (some (bt478.2 == 17)) else (none)) else (none))))
set_option maxHeartbeats 8000000 in
set_option maxRecDepth 100000 in
theorem forebaylaw08_awake.calls (k : Nat)  (r : Bool) (w : World) (h : forebaylaw08_awake.f k  = some r) :
  Calls Try.prog 29 #[] w fun e w' => e = .returned (.bool r) ∧ Below w.heap.size w w' := by
 have hu40 := Try.underlying40
 have hu25 := Try.underlying25
 have HB := Aside0.mk (Below.refl w.heap.size w)
 have H : ((batch_Check.f (([(⟨(⟨#[97]⟩ : ByteArray), 1, (([(⟨false, 0, 0⟩ : S40)] : List (S40))), 1000000, ([] : List (S37)), 0⟩ : S25), (⟨(⟨#[97]⟩ : ByteArray), 1, ([] : List (S40)), 1000000, ([] : List (S37)), 0⟩ : S25)] : List (S25)))).bind fun bt478 => ((batch_Names.f (([(⟨(⟨#[98]⟩ : ByteArray), 0, ([] : List (S40)), 0, ([] : List (S37)), 0⟩ : S25), (⟨(⟨#[97]⟩ : ByteArray), 0, ([] : List (S40)), 0, ([] : List (S37)), 0⟩ : S25), (⟨(⟨#[98]⟩ : ByteArray), 0, ([] : List (S40)), 0, ([] : List (S37)), 0⟩ : S25)] : List (S25)))).bind fun t483 => ((forebaylaw08_texts.f k t483 (([(⟨#[98]⟩ : ByteArray), (⟨#[97]⟩ : ByteArray)] : List ByteArray))).bind fun t489 => (if t489 = true then (if bt478.1 = 1 then (some (bt478.2 == 17)) else (none)) else (none))))) = some r := h
 clear h
 obtain ⟨y472, hy472⟩ : ∃ y_ : List (S40), y_ = (([(⟨false, 0, 0⟩ : S40)] : List (S40))) := ⟨_, rfl⟩
 replace H : ((batch_Check.f (([(⟨(⟨#[97]⟩ : ByteArray), 1, y472, 1000000, ([] : List (S37)), 0⟩ : S25), (⟨(⟨#[97]⟩ : ByteArray), 1, ([] : List (S40)), 1000000, ([] : List (S37)), 0⟩ : S25)] : List (S25)))).bind fun bt478 => ((batch_Names.f (([(⟨(⟨#[98]⟩ : ByteArray), 0, ([] : List (S40)), 0, ([] : List (S37)), 0⟩ : S25), (⟨(⟨#[97]⟩ : ByteArray), 0, ([] : List (S40)), 0, ([] : List (S37)), 0⟩ : S25), (⟨(⟨#[98]⟩ : ByteArray), 0, ([] : List (S40)), 0, ([] : List (S37)), 0⟩ : S25)] : List (S25)))).bind fun t483 => ((forebaylaw08_texts.f k t483 (([(⟨#[98]⟩ : ByteArray), (⟨#[97]⟩ : ByteArray)] : List ByteArray))).bind fun t489 => (if t489 = true then (if bt478.1 = 1 then (some (bt478.2 == 17)) else (none)) else (none))))) = some r := by first | (rw [hy472]; with_reducible exact H) | (have H2_ := (Option.bind_some _ _).symm.trans H; rw [hy472]; with_reducible exact H2_) | (have H2_ := (Option.bind_some _ _).symm.trans H; with_reducible exact H2_) | with_reducible exact H | (rw [hy472]; exact H) | exact H
 have Ny472 := Aside0.mk hy472
 clear hy472
 obtain ⟨y475, hy475⟩ : ∃ y_ : List (S25), y_ = (([(⟨(⟨#[97]⟩ : ByteArray), 1, y472, 1000000, ([] : List (S37)), 0⟩ : S25), (⟨(⟨#[97]⟩ : ByteArray), 1, ([] : List (S40)), 1000000, ([] : List (S37)), 0⟩ : S25)] : List (S25))) := ⟨_, rfl⟩
 replace H : ((batch_Check.f y475).bind fun bt478 => ((batch_Names.f (([(⟨(⟨#[98]⟩ : ByteArray), 0, ([] : List (S40)), 0, ([] : List (S37)), 0⟩ : S25), (⟨(⟨#[97]⟩ : ByteArray), 0, ([] : List (S40)), 0, ([] : List (S37)), 0⟩ : S25), (⟨(⟨#[98]⟩ : ByteArray), 0, ([] : List (S40)), 0, ([] : List (S37)), 0⟩ : S25)] : List (S25)))).bind fun t483 => ((forebaylaw08_texts.f k t483 (([(⟨#[98]⟩ : ByteArray), (⟨#[97]⟩ : ByteArray)] : List ByteArray))).bind fun t489 => (if t489 = true then (if bt478.1 = 1 then (some (bt478.2 == 17)) else (none)) else (none))))) = some r := by first | (rw [hy475]; with_reducible exact H) | (have H2_ := (Option.bind_some _ _).symm.trans H; rw [hy475]; with_reducible exact H2_) | (have H2_ := (Option.bind_some _ _).symm.trans H; with_reducible exact H2_) | with_reducible exact H | (rw [hy475]; exact H) | exact H
 have Ny475 := Aside0.mk hy475
 clear hy475
 replace H := Option.bind_eq_some_iff.mp H
 obtain ⟨⟨t478, t479⟩, A10, H⟩ := H
 replace H : ((batch_Names.f (([(⟨(⟨#[98]⟩ : ByteArray), 0, ([] : List (S40)), 0, ([] : List (S37)), 0⟩ : S25), (⟨(⟨#[97]⟩ : ByteArray), 0, ([] : List (S40)), 0, ([] : List (S37)), 0⟩ : S25), (⟨(⟨#[98]⟩ : ByteArray), 0, ([] : List (S40)), 0, ([] : List (S37)), 0⟩ : S25)] : List (S25)))).bind fun t483 => ((forebaylaw08_texts.f k t483 (([(⟨#[98]⟩ : ByteArray), (⟨#[97]⟩ : ByteArray)] : List ByteArray))).bind fun t489 => (if t489 = true then (if t478 = 1 then (some (t479 == 17)) else (none)) else (none)))) = some r := H
 have A1 := Aside0.mk A10
 clear A10
 obtain ⟨y480, hy480⟩ : ∃ y_ : List (S25), y_ = (([(⟨(⟨#[98]⟩ : ByteArray), 0, ([] : List (S40)), 0, ([] : List (S37)), 0⟩ : S25), (⟨(⟨#[97]⟩ : ByteArray), 0, ([] : List (S40)), 0, ([] : List (S37)), 0⟩ : S25), (⟨(⟨#[98]⟩ : ByteArray), 0, ([] : List (S40)), 0, ([] : List (S37)), 0⟩ : S25)] : List (S25))) := ⟨_, rfl⟩
 replace H : ((batch_Names.f y480).bind fun t483 => ((forebaylaw08_texts.f k t483 (([(⟨#[98]⟩ : ByteArray), (⟨#[97]⟩ : ByteArray)] : List ByteArray))).bind fun t489 => (if t489 = true then (if t478 = 1 then (some (t479 == 17)) else (none)) else (none)))) = some r := by first | (rw [hy480]; with_reducible exact H) | (have H2_ := (Option.bind_some _ _).symm.trans H; rw [hy480]; with_reducible exact H2_) | (have H2_ := (Option.bind_some _ _).symm.trans H; with_reducible exact H2_) | with_reducible exact H | (rw [hy480]; exact H) | exact H
 have Ny480 := Aside0.mk hy480
 clear hy480
 replace H := Option.bind_eq_some_iff.mp H
 obtain ⟨t483, A20, H⟩ := H
 replace H : ((forebaylaw08_texts.f k t483 (([(⟨#[98]⟩ : ByteArray), (⟨#[97]⟩ : ByteArray)] : List ByteArray))).bind fun t489 => (if t489 = true then (if t478 = 1 then (some (t479 == 17)) else (none)) else (none))) = some r := H
 have A2 := Aside0.mk A20
 clear A20
 obtain ⟨y486, hy486⟩ : ∃ y_ : List ByteArray, y_ = (([(⟨#[98]⟩ : ByteArray), (⟨#[97]⟩ : ByteArray)] : List ByteArray)) := ⟨_, rfl⟩
 replace H : ((forebaylaw08_texts.f k t483 y486).bind fun t489 => (if t489 = true then (if t478 = 1 then (some (t479 == 17)) else (none)) else (none))) = some r := by first | (rw [hy486]; with_reducible exact H) | (have H2_ := (Option.bind_some _ _).symm.trans H; rw [hy486]; with_reducible exact H2_) | (have H2_ := (Option.bind_some _ _).symm.trans H; with_reducible exact H2_) | with_reducible exact H | (rw [hy486]; exact H) | exact H
 have Ny486 := Aside0.mk hy486
 clear hy486
 replace H := Option.bind_eq_some_iff.mp H
 obtain ⟨t489, A30, H⟩ := H
 replace H : (if t489 = true then (if t478 = 1 then (some (t479 == 17)) else (none)) else (none)) = some r := H
 have A3 := Aside0.mk A30
 clear A30
 by_cases c4 : t489 = true
 ·subst c4
  have H1 : (if t478 = 1 then (some (t479 == 17)) else (none)) = some r := by rw [if_pos rfl] at H; exact H
  clear H
  have H := H1
  clear H1
  by_cases c5 : t478 = 1
  ·rw [if_pos c5] at H
   have c5b0 : (t478 == 1) = true := beq_iff_eq.mpr c5
   have c5b1 : (t478 != 1) = false := bne_eq_false_iff_eq.mpr c5
   clear c5
   obtain rfl := Option.some.inj H
   go_enter Try.func29, Try.ntmps29
   go_wp2_with (first | ((with_reducible refine gate_dst (N := 5) rfl ?_); refine Kd.R_lit k40 _ 40 ?hg (N := 5) ?hd (xs := ([(⟨false, 0, 0⟩ : S40)] : List (S40))) (inner := [.bool false, .int .u64 0, .int .i64 0]) (ok := fun _ => True) (okp := fun _ => True) ?hr ?hp (fun _ hk => hk) trivial (Below.refl _ _) (Nat.le_refl _) (by simp) ?_; (case hd => rfl); (case hg => rfl); (case hr => first | (go_simp; done) | (go_simp; rfl)); (case hp => exact (Reps.c3 (show Kd.M k40 _ _ _ (⟨false, 0, 0⟩ : S40) [.bool false, .int .u64 0, .int .i64 0] from (k40_mkM _ _ _ (⟨false, 0, 0⟩ : S40) )) (Reps.none _ _))); intro v473 w6 ho7 hb hg_ hnew_; clear hg_ hnew_; (first | rw [← Ny472.out] at ho7 | (simp only [Int.reduceToNat] at ho7; rw [← Ny472.out] at ho7)); have n0_ := Aside0.mk (Kd.R_lower ho7 (below_size (by repeat (first | (with_reducible first | exact HB.out | apply below_alloc | apply pw_below_drewN | apply below_drew1) | exact HB.out)))); have n1_ := Aside0.mk (below_step (by repeat (first | (with_reducible first | exact HB.out | apply below_alloc | apply pw_below_drewN | apply below_drew1) | exact HB.out)) hb); clear HB; have HO474 := n0_; have HB := n1_; clear n0_ n1_; clear hb ho7; obtain ⟨Ao8, co8, eo8⟩ := Kd.R_slice HO474.out; subst eo8) | ((with_reducible refine gate_dst (N := 8) rfl ?_); refine Kd.N_lit k25 _ 25 ?hg (N' := 8) ?hd (xs := ([(⟨(⟨#[97]⟩ : ByteArray), 1, y472, 1000000, ([] : List (S37)), 0⟩ : S25), (⟨(⟨#[97]⟩ : ByteArray), 1, ([] : List (S40)), 1000000, ([] : List (S37)), 0⟩ : S25)] : List (S25))) (inner := [.string (⟨#[97]⟩ : ByteArray), .int .i64 1, .slice Ao8 y472.length co8, .int .i64 1000000, .slice none 0 0, .int .i64 0, .string (⟨#[97]⟩ : ByteArray), .int .i64 1, .slice none 0 0, .int .i64 1000000, .slice none 0 0, .int .i64 0]) (ok := (fun _ => True)) (okp := (fun _ => True)) ?hr ?hp (fun _ hk => hk) ((show ∀ k_, w6.heap.size ≤ k_ → (fun _ => True) k_ from fun k_ hk => trivial) _ (Nat.le_refl _)) (Below.refl _ _) (Nat.le_refl _) (by simp) ?_; (case hd => rfl); (case hg => rfl); (case hr => first | (go_simp; done) | (go_simp; rfl)); (case hp => exact (Reps.c6 (show Kd.FK k25 _ _ (⟨(⟨#[97]⟩ : ByteArray), 1, y472, 1000000, ([] : List (S37)), 0⟩ : S25) [.string (⟨#[97]⟩ : ByteArray), .int .i64 1, .slice Ao8 y472.length co8, .int .i64 1000000, .slice none 0 0, .int .i64 0] from (k25_mkF _ _ (⟨(⟨#[97]⟩ : ByteArray), 1, y472, 1000000, ([] : List (S37)), 0⟩ : S25) (Kd.R_reads' (Kd.R_mono (ok' := (fun _ => True)) (HO474.out) (fun k_ hk => trivial))).2.1 (Kd.R_F (Kd.R_mono (ok' := (fun _ => True)) (HO474.out) (fun k_ hk => trivial))) (Nat.le_refl _) (Kd.F_nil _ _ _))) (Reps.c6 (show Kd.FK k25 _ _ (⟨(⟨#[97]⟩ : ByteArray), 1, ([] : List (S40)), 1000000, ([] : List (S37)), 0⟩ : S25) [.string (⟨#[97]⟩ : ByteArray), .int .i64 1, .slice none 0 0, .int .i64 1000000, .slice none 0 0, .int .i64 0] from (k25_mkF _ _ (⟨(⟨#[97]⟩ : ByteArray), 1, ([] : List (S40)), 1000000, ([] : List (S37)), 0⟩ : S25) (Nat.le_refl _) (Kd.F_nil _ _ _) (Nat.le_refl _) (Kd.F_nil _ _ _))) (Reps.none _ _)))); intro v476 w9 ho10 hb hg_ hnew_; clear hg_ hnew_; (first | rw [← Ny475.out] at ho10 | (simp only [Int.reduceToNat] at ho10; rw [← Ny475.out] at ho10)); have n0_ := Aside0.mk (Kd.N_lower ho10 (below_size (by repeat (first | (with_reducible first | exact HB.out | apply below_alloc | apply pw_below_drewN | apply below_drew1) | exact HB.out)))); have n1_ := Aside0.mk (below_step (by repeat (first | (with_reducible first | exact HB.out | apply below_alloc | apply pw_below_drewN | apply below_drew1) | exact HB.out)) hb); clear HB; clear HO474; have HO477 := n0_; have HB := n1_; clear n0_ n1_; clear hb ho10; obtain ⟨Ao11, co11, eo11⟩ := Kd.N_slice HO477.out; subst eo11) | ((with_reducible refine gate_callee (f := 30) rfl ?_); refine goesL_ (some 9) rfl rfl Try.func30 (by kernel_rfl) rfl #[.slice Ao11 y475.length co11] rfl (by (try simp only [List.map_toArray, List.map_cons, List.map_nil]); first | done | rfl | (simp only [List.length_drop, List.length_take]; rfl)) ?_; (with_reducible refine (batch_Check.calls _ _ y475 t478 t479 _ ?side1 ?side2 A1.out).mono ?_); (case side1 => repeat (first | exact (Kd.N_reads' HO477.out).2.2 | (with_reducible refine Kd.C_alloc ?_ _) | (with_reducible refine Kd.C_drewN ?_ _) | (with_reducible refine Kd.C_drew ?_))); (case side2 => exact (Kd.N_reads' HO477.out).2.1); rintro e w12 ⟨rfl, hb⟩; refine ⟨_, rfl, ?_⟩; have n0_ := Aside0.mk (Kd.N_below (by (with_reducible repeat (first | apply Kd.N_alloc | apply Kd.N_drewN | apply Kd.N_drew)); exact HO477.out) hb); have n1_ := Aside0.mk (below_step (by repeat (first | (with_reducible first | exact HB.out | apply below_alloc | apply pw_below_drewN | apply below_drew1) | exact HB.out)) hb); clear HO477; clear HB; have HO477 := n0_; have HB := n1_; clear n0_ n1_; (try clear hb); (try clear hb2); (try clear hk); (try clear hi)) | ((with_reducible refine gate_dst (N := 15) rfl ?_); refine Kd.N_lit k25 _ 25 ?hg (N' := 15) ?hd (xs := ([(⟨(⟨#[98]⟩ : ByteArray), 0, ([] : List (S40)), 0, ([] : List (S37)), 0⟩ : S25), (⟨(⟨#[97]⟩ : ByteArray), 0, ([] : List (S40)), 0, ([] : List (S37)), 0⟩ : S25), (⟨(⟨#[98]⟩ : ByteArray), 0, ([] : List (S40)), 0, ([] : List (S37)), 0⟩ : S25)] : List (S25))) (inner := [.string (⟨#[98]⟩ : ByteArray), .int .i64 0, .slice none 0 0, .int .i64 0, .slice none 0 0, .int .i64 0, .string (⟨#[97]⟩ : ByteArray), .int .i64 0, .slice none 0 0, .int .i64 0, .slice none 0 0, .int .i64 0, .string (⟨#[98]⟩ : ByteArray), .int .i64 0, .slice none 0 0, .int .i64 0, .slice none 0 0, .int .i64 0]) (ok := (fun k_ => some k_ ≠ (.slice Ao11 y475.length co11 : Value).ownBlock)) (okp := (fun k_ => some k_ ≠ (.slice Ao11 y475.length co11 : Value).ownBlock)) ?hr ?hp (fun _ hk => hk) ((show ∀ k_, w12.heap.size ≤ k_ → (fun k_ => some k_ ≠ (.slice Ao11 y475.length co11 : Value).ownBlock) k_ from fun k_ hk => Kd.fresh' (Kd.N_lt (by (with_reducible repeat (first | apply Kd.N_alloc | apply Kd.N_drewN | apply Kd.N_drew)); exact HO477.out)) k_ hk) _ (Nat.le_refl _)) (Below.refl _ _) (Nat.le_refl _) (by simp) ?_; (case hd => rfl); (case hg => rfl); (case hr => first | (go_simp; done) | (go_simp; rfl)); (case hp => exact (Reps.c6 (show Kd.FK k25 _ _ (⟨(⟨#[98]⟩ : ByteArray), 0, ([] : List (S40)), 0, ([] : List (S37)), 0⟩ : S25) [.string (⟨#[98]⟩ : ByteArray), .int .i64 0, .slice none 0 0, .int .i64 0, .slice none 0 0, .int .i64 0] from (k25_mkF _ _ (⟨(⟨#[98]⟩ : ByteArray), 0, ([] : List (S40)), 0, ([] : List (S37)), 0⟩ : S25) (Nat.le_refl _) (Kd.F_nil _ _ _) (Nat.le_refl _) (Kd.F_nil _ _ _))) (Reps.c6 (show Kd.FK k25 _ _ (⟨(⟨#[97]⟩ : ByteArray), 0, ([] : List (S40)), 0, ([] : List (S37)), 0⟩ : S25) [.string (⟨#[97]⟩ : ByteArray), .int .i64 0, .slice none 0 0, .int .i64 0, .slice none 0 0, .int .i64 0] from (k25_mkF _ _ (⟨(⟨#[97]⟩ : ByteArray), 0, ([] : List (S40)), 0, ([] : List (S37)), 0⟩ : S25) (Nat.le_refl _) (Kd.F_nil _ _ _) (Nat.le_refl _) (Kd.F_nil _ _ _))) (Reps.c6 (show Kd.FK k25 _ _ (⟨(⟨#[98]⟩ : ByteArray), 0, ([] : List (S40)), 0, ([] : List (S37)), 0⟩ : S25) [.string (⟨#[98]⟩ : ByteArray), .int .i64 0, .slice none 0 0, .int .i64 0, .slice none 0 0, .int .i64 0] from (k25_mkF _ _ (⟨(⟨#[98]⟩ : ByteArray), 0, ([] : List (S40)), 0, ([] : List (S37)), 0⟩ : S25) (Nat.le_refl _) (Kd.F_nil _ _ _) (Nat.le_refl _) (Kd.F_nil _ _ _))) (Reps.none _ _))))); intro v481 w13 ho14 hb hg_ hnew_; clear hg_ hnew_; (first | rw [← Ny480.out] at ho14 | (simp only [Int.reduceToNat] at ho14; rw [← Ny480.out] at ho14)); have n0_ := Aside0.mk (Kd.N_elder' (by (with_reducible repeat (first | apply Kd.N_alloc | apply Kd.N_drewN | apply Kd.N_drew)); exact HO477.out) (Kd.N_base ho14) hb); have n1_ := Aside0.mk (Kd.N_lower ho14 (below_size (by repeat (first | (with_reducible first | exact HB.out | apply below_alloc | apply pw_below_drewN | apply below_drew1) | exact HB.out)))); have n2_ := Aside0.mk (below_step (by repeat (first | (with_reducible first | exact HB.out | apply below_alloc | apply pw_below_drewN | apply below_drew1) | exact HB.out)) hb); clear HO477; clear HB; have HO477 := n0_; have HO482 := n1_; have HB := n2_; clear n0_ n1_ n2_; clear hb ho14; obtain ⟨Ao15, co15, eo15⟩ := Kd.N_slice HO482.out; subst eo15) | ((with_reducible refine gate_callee (f := 35) rfl ?_); refine goesL_ (some 16) rfl rfl Try.func35 (by kernel_rfl) rfl #[.slice Ao15 y480.length co15] rfl (by (try simp only [List.map_toArray, List.map_cons, List.map_nil]); first | done | rfl | (simp only [List.length_drop, List.length_take]; rfl)) ?_; (with_reducible refine (batch_Names.calls _ _ y480 t483 _ ?side1 ?side2 A2.out).mono ?_); (case side1 => repeat (first | exact (Kd.N_reads' HO482.out).2.2 | (with_reducible refine Kd.C_alloc ?_ _) | (with_reducible refine Kd.C_drewN ?_ _) | (with_reducible refine Kd.C_drew ?_))); (case side2 => exact (Kd.N_reads' HO482.out).2.1); rintro e w16 ⟨v484, rfl, ho0, hb⟩; refine ⟨_, rfl, ?_⟩; have n0_ := Aside0.mk (Kd.N_elder' (by (with_reducible repeat (first | apply Kd.N_alloc | apply Kd.N_drewN | apply Kd.N_drew)); exact HO477.out) (Kd.R_base ho0) hb); have n1_ := Aside0.mk (Kd.N_elder' (by (with_reducible repeat (first | apply Kd.N_alloc | apply Kd.N_drewN | apply Kd.N_drew)); exact HO482.out) (Kd.R_base ho0) hb); have n2_ := Aside0.mk (Kd.R_lower ho0 (below_size (by repeat (first | (with_reducible first | exact HB.out | apply below_alloc | apply pw_below_drewN | apply below_drew1) | exact HB.out)))); have n3_ := Aside0.mk (below_step (by repeat (first | (with_reducible first | exact HB.out | apply below_alloc | apply pw_below_drewN | apply below_drew1) | exact HB.out)) hb); clear HO477; clear HO482; clear HB; have HO477 := n0_; have HO482 := n1_; have HO485 := n2_; have HB := n3_; clear n0_ n1_ n2_ n3_; (try clear hb); (try clear hb2); (try clear hk); (try clear hi); (try clear ho0)) | ((with_reducible refine gate_dst (N := 17) rfl ?_); refine Kd.R_lit Kd.string _ 9 ?hg (N := 17) ?hd (xs := ([(⟨#[98]⟩ : ByteArray), (⟨#[97]⟩ : ByteArray)] : List ByteArray)) (inner := [.string (⟨#[98]⟩ : ByteArray), .string (⟨#[97]⟩ : ByteArray)]) (ok := fun _ => True) (okp := fun _ => True) ?hr ?hp (fun _ hk => hk) trivial (Below.refl _ _) (Nat.le_refl _) (by simp) ?_; (case hd => rfl); (case hg => rfl); (case hr => first | (go_simp; done) | (go_simp; rfl)); (case hp => exact (Reps.one (show Kd.M Kd.string _ _ _ (⟨#[98]⟩ : ByteArray) [.string (⟨#[98]⟩ : ByteArray)] from rfl) (Reps.one (show Kd.M Kd.string _ _ _ (⟨#[97]⟩ : ByteArray) [.string (⟨#[97]⟩ : ByteArray)] from rfl) (Reps.none _ _)))); intro v487 w17 ho18 hb hg_ hnew_; clear hg_ hnew_; (first | rw [← Ny486.out] at ho18 | (simp only [Int.reduceToNat] at ho18; rw [← Ny486.out] at ho18)); have n0_ := Aside0.mk (Kd.N_elder' (by (with_reducible repeat (first | apply Kd.N_alloc | apply Kd.N_drewN | apply Kd.N_drew)); exact HO477.out) (Kd.R_base ho18) hb); have n1_ := Aside0.mk (Kd.N_elder' (by (with_reducible repeat (first | apply Kd.N_alloc | apply Kd.N_drewN | apply Kd.N_drew)); exact HO482.out) (Kd.R_base ho18) hb); have n2_ := Aside0.mk (Kd.R_elder' (by (with_reducible repeat (first | apply Kd.R_alloc | apply Kd.R_drewN | apply Kd.R_drew)); exact HO485.out) (Kd.R_base ho18) hb); have n3_ := Aside0.mk (Kd.R_lower (Kd.R_new' ho18 (Kd.R_lt (by (with_reducible repeat (first | apply Kd.R_alloc | apply Kd.R_drewN | apply Kd.R_drew)); exact HO485.out))) (below_size (by repeat (first | (with_reducible first | exact HB.out | apply below_alloc | apply pw_below_drewN | apply below_drew1) | exact HB.out)))); have n4_ := Aside0.mk (below_step (by repeat (first | (with_reducible first | exact HB.out | apply below_alloc | apply pw_below_drewN | apply below_drew1) | exact HB.out)) hb); clear HO477; clear HO482; clear HO485; clear HB; have HO477 := n0_; have HO482 := n1_; have HO485 := n2_; have HO488 := n3_; have HB := n4_; clear n0_ n1_ n2_ n3_ n4_; clear hb ho18; obtain ⟨Ao19, co19, eo19⟩ := Kd.R_slice HO485.out; subst eo19; obtain ⟨Ao20, co20, eo20⟩ := Kd.R_slice HO488.out; subst eo20) | ((with_reducible refine gate_callee (f := 36) rfl ?_); refine goesL_ (some 18) rfl rfl Try.func36 (by kernel_rfl) rfl #[.slice Ao19 t483.length co19, .slice Ao20 y486.length co20] rfl (by (try simp only [List.map_toArray, List.map_cons, List.map_nil]); first | done | rfl | (simp only [List.length_drop, List.length_take]; rfl)) ?_; (with_reducible refine (forebaylaw08_texts.calls k _ _ t483 _ _ y486 true _ ?side1 ?side2 ?side3 ?side4 A3.out).mono ?_); (case side1 => repeat (first | exact (Kd.R_reads' HO485.out).2.2 | (with_reducible refine Kd.C_alloc ?_ _) | (with_reducible refine Kd.C_drewN ?_ _) | (with_reducible refine Kd.C_drew ?_))); (case side2 => exact (Kd.R_reads' HO485.out).2.1); (case side3 => repeat (first | exact (Kd.R_reads' HO488.out).2.2 | (with_reducible refine Kd.C_alloc ?_ _) | (with_reducible refine Kd.C_drewN ?_ _) | (with_reducible refine Kd.C_drew ?_))); (case side4 => exact (Kd.R_reads' HO488.out).2.1); rintro e w' ⟨rfl, ⟨nd, rfl⟩⟩; refine ⟨_, rfl, ?_⟩))
   go_ret
   exact ⟨by first | rfl | (simp [errW_none, errW_some] <;> rfl) | (simp [*, errW_none, errW_some] <;> rfl), by repeat (first | (with_reducible first | exact HB.out | apply below_alloc | apply pw_below_drewN | apply below_drew1) | exact HB.out)⟩
  ·rw [if_neg c5] at H
   exact absurd H (by simp)
 ·replace c4 := Bool.eq_false_iff.mpr c4
  subst c4
  have H1 : (none) = some r := by rw [if_neg (show ¬ (false = true) by decide)] at H; exact H
  clear H
  have H := H1
  clear H1
  exact absurd H (by simp)
/-! ### forebayref08_Check: function 31 -/
def forebayref08_Check.l0 : Nat → List (S25) → Int → Option (Int × Int)
 | 0, _, _ => none
 | k + 1, x0, x4 => if x4 < (x0.length : Int) then (if 0 ≤ x4 then ((forebayref07_Check.f k ((rd_T25 x0 x4).f0) ((rd_T25 x0 x4).f1) ((rd_T25 x0 x4).f2) ((rd_T25 x0 x4).f3) ((rd_T25 x0 x4).f4) ((rd_T25 x0 x4).f5)).bind fun t491 => (if t491 = 0 then (forebayref08_Check.l0 k x0 (wrap64 (x4 + 1))) else (some (x4, t491)))) else (none)) else (some (0, 0))
def forebayref08_Check.f (k : Nat) (l0 : List (S25)) : Option (Int × Int) := if (l0.length : Int) > 1000 then (some (1000, 12)) else (forebayref08_Check.l0 k l0 0)
/-! ### forebayref08_Normal: function 33 -/
def forebayref08_Normal.l0 : Nat → List (S25) → List (S25) → Int → Option ((List (S25)) × Int × Int)
 | 0, _, _, _ => none
 | k + 1, x0, x5, x6 => if x6 < (x0.length : Int) then (if 0 ≤ x6 then ((forebayref07_Normal.f k ((rd_T25 x0 x6).f0) ((rd_T25 x0 x6).f1) ((rd_T25 x0 x6).f2) ((rd_T25 x0 x6).f3) ((rd_T25 x0 x6).f4) ((rd_T25 x0 x6).f5)).bind fun bt493 => (if bt493.2.2.2.2.2.2 = 0 then (if x5.length < 1599289640401 then (forebayref08_Normal.l0 k x0 (x5 ++ [(⟨bt493.1, bt493.2.1, bt493.2.2.1, bt493.2.2.2.1, bt493.2.2.2.2.1, bt493.2.2.2.2.2.1⟩ : S25)]) (wrap64 (x6 + 1))) else (none)) else (some (([] : List (S25)), x6, bt493.2.2.2.2.2.2)))) else (none)) else (some (x5, 0, 0))
/-! ### forebayref08_Equal: function 34 -/
def forebayref08_Equal.l0 : Nat → List (S25) → List (S25) → Int → Option (Bool)
 | 0, _, _, _ => none
 | k + 1, x0, x1, x5 => if x5 < (x0.length : Int) then (if 0 ≤ x5 then (if x5 < (x1.length : Int) then ((forebayref07_Equal.f k ((rd_T25 x0 x5).f0) ((rd_T25 x0 x5).f1) ((rd_T25 x0 x5).f2) ((rd_T25 x0 x5).f3) ((rd_T25 x0 x5).f4) ((rd_T25 x0 x5).f5) ((rd_T25 x1 x5).f0) ((rd_T25 x1 x5).f1) ((rd_T25 x1 x5).f2) ((rd_T25 x1 x5).f3) ((rd_T25 x1 x5).f4) ((rd_T25 x1 x5).f5)).bind fun t510 => (if t510 = true then (forebayref08_Equal.l0 k x0 x1 (wrap64 (x5 + 1))) else (some false))) else (none)) else (none)) else (some true)
/-! ### forebaylaw08_BatchChecks: function 9 -/
-- NOT PRINTED: function 10 (forebaylaw08_BatchBehind)
/-! ### batch_Same: function 38 -/
/-! ### forebayref08_Names: function 39 -/
mutual
def forebayref08_Names.l0 : Nat → List (S25) → List ByteArray → Int → Option (List ByteArray)
 | 0, _, _, _ => none
 | k + 1, x0, x3, x4 => if x4 < (x0.length : Int) then (forebayref08_Names.l1 k x0 x3 x4 false 0) else (some x3)
def forebayref08_Names.l1 : Nat → List (S25) → List ByteArray → Int → Bool → Int → Option (List ByteArray)
 | 0, _, _, _, _, _ => none
 | k + 1, x0, x3, x4, x5, x6 => if x6 < x4 then (if x5 = true then (forebayref08_Names.l1 k x0 x3 x4 true (wrap64 (x6 + 1))) else (if 0 ≤ x6 then (if x6 < (x0.length : Int) then (if 0 ≤ x4 then (if x4 < (x0.length : Int) then (forebayref08_Names.l1 k x0 x3 x4 (((rd_T25 x0 x6).f0).toList == ((rd_T25 x0 x4).f0).toList) (wrap64 (x6 + 1))) else (none)) else (none)) else (none)) else (none))) else (if x5 = true then (forebayref08_Names.l0 k x0 x3 (wrap64 (x4 + 1))) else (if 0 ≤ x4 then (if x4 < (x0.length : Int) then (if x3.length < 8796093022208 then (forebayref08_Names.l0 k x0 (x3 ++ [(rd_T25 x0 x4).f0]) (wrap64 (x4 + 1))) else (none)) else (none)) else (none)))
end
end Go.Proofs.Yteamldgngknmfaa.PE
