/- The laws of classes: what they share; no condition. -/
import Derived.Test.YtgaboaeeodiadaaClsR
namespace Go.Proofs.Ytgaboaeeodiadaa
open Go.RowKit Go.Proofs.YtgaboaeeodiadaaW.PrintWords Go.Proofs.YtgaboaeeodiadaaW.PrintLast Go.Proofs.YtgaboaeeodiadaaW.PrintMore
set_option linter.unusedVariables false
set_option linter.unusedSimpArgs false
/-- How many bytes from one on, of so many, are of a class, and so many more. -/
def cntF (f : Int → Bool) : Nat → Int → Int → Int
  | 0, _, n => n
  | k + 1, i, n => cntF f k (i + 1) (if f i = true then n + 1 else n)
def cntI (c : Int) : Int := cntF (clsB c) 256 0 0
theorem cntF_succ (f : Int → Bool) (x n : Int) (h0 : 0 ≤ x) (h : x < 256) : cntF f (256 - x.toNat) x n = cntF f (256 - (x + 1).toNat) (x + 1) (if f x = true then n + 1 else n) := by
  have e : 256 - x.toNat = (256 - (x + 1).toNat) + 1 := by omega
  rw [e]
  rfl
set_option maxHeartbeats 2000000 in
set_option maxRecDepth 100000 in
theorem count_calls (c : Int) (w : World) (hc : betB c 1 4 = true) : Calls Try.prog 21 #[.int .i64 c] w fun e w' => e = .returned (.tuple #[.int .i64 (cntI c), .int .i64 0]) ∧ Drawn0 w w' := by
  have H := Aside0.mk hc
  clear hc
  go_enter Try.func21, Try.ntmps21
  go_wp2_with (first | (go_at_call 45; with_reducible refine Calls.stepEq (may_calls c _) ?_; rw [H.out]))
  go_loopw [4, 9] (fun v4 v9 w' => ∃ n x : Int, v4 = .int .i64 n ∧ v9 = .int .i64 x ∧ 0 ≤ n ∧ n ≤ x ∧ 0 ≤ x ∧ x ≤ 256 ∧ Aside0 (cntF (clsB c) (256 - x.toNat) x n = cntI c) ∧ Drawn0 w w') (fun _ v9 _ => 256 - (intOf v9).toNat)
  case atStart => exact ⟨0, 0, rfl, rfl, by omega, by omega, by omega, by omega, ⟨rfl⟩, by repeat (first | exact Drawn0.refl _ | apply Drawn0.step)⟩
  case round =>
    obtain ⟨n, x, rfl, rfl, hn0, hn1, h0, hi, HT, ⟨m1, rfl⟩⟩ := hrel
    by_cases hlt : x < 256
    · have hd : decide (x < 256) = true := decide_eq_true hlt
      have HT1 := HT.out
      rw [cntF_succ _ _ _ h0 hlt] at HT1
      have hm : x % 256 = x := Int.emod_eq_of_lt h0 hlt
      have HM := Aside0.mk hm
      have HK := Aside0.mk (show (0 ≤ n ∧ n ≤ x) ∧ 0 ≤ x ∧ x < 256 by omega)
      cases hq : clsB c x with
      | true =>
        rw [hq, if_pos rfl] at HT1
        have HT2 := Aside0.mk HT1
        have HQ := Aside0.mk hq
        clear hq HT1 h0 hlt hn0 hn1 hm hi
        go_wp2_with (first | (go_at_call 23; with_reducible refine Calls.stepEq (is_calls c (x % 256) _) ?_; rw [HM.out, HQ.out]))
        have hk := HK.out
        have hw := IntWalk.wrap64_in (x + 1) (by omega)
        have hw2 := IntWalk.wrap64_in (n + 1) (by omega)
        go_roundw
        case rel => exact ⟨n + 1, x + 1, by rw [hw2], by rw [hw], by omega, by omega, by omega, by omega, HT2, by repeat (first | exact Drawn0.refl _ | apply Drawn0.step)⟩
        case measure => simp [intOf, hw]; omega
      | false =>
        rw [hq, if_neg (by decide)] at HT1
        have HT2 := Aside0.mk HT1
        have HQ := Aside0.mk hq
        clear hq HT1 h0 hlt hn0 hn1 hm hi
        go_wp2_with (first | (go_at_call 23; with_reducible refine Calls.stepEq (is_calls c (x % 256) _) ?_; rw [HM.out, HQ.out]))
        have hk := HK.out
        have hw := IntWalk.wrap64_in (x + 1) (by omega)
        go_roundw
        case rel => exact ⟨n, x + 1, rfl, by rw [hw], by omega, by omega, by omega, by omega, HT2, by repeat (first | exact Drawn0.refl _ | apply Drawn0.step)⟩
        case measure => simp [intOf, hw]; omega
    · have hd : decide (x < 256) = false := decide_eq_false hlt
      have HE := Aside0.mk (show cntI c = n by rw [← HT.out, show 256 - x.toNat = 0 by omega]; rfl)
      go_wp2
      go_ret2
      exact ⟨by rw [HE.out]; rfl, by repeat (first | exact Drawn0.refl _ | apply Drawn0.step)⟩
def s_ab : ByteArray := ⟨#[97, 47, 98]⟩
def s_12a : ByteArray := ⟨#[49, 50, 97]⟩
def s_1234 : ByteArray := ⟨#[49, 50, 51, 52]⟩
theorem bad1 : badI (clsB 1) ⟨#[97, 47, 98]⟩ = 1 := by decide +kernel
theorem bad2 : badI (clsB 2) ⟨#[97, 47, 98]⟩ = -1 := by decide +kernel
theorem cnt1 : cntI 1 = 65 := by decide +kernel
theorem cnt3 : cntI 3 = 92 := by decide +kernel
theorem text1 : textW 4 ⟨#[49, 50, 97]⟩ 1 3 = (14, 2) := by decide +kernel
theorem text2 : textW 4 ⟨#[49, 50, 51, 52]⟩ 1 3 = (12, 3) := by decide +kernel
theorem text3 : textW 4 ⟨#[]⟩ 1 3 = (13, 0) := by decide +kernel
set_option maxHeartbeats 2000000 in
set_option maxRecDepth 100000 in
theorem number_calls (c k : Int) (w : World) (hk : k = if betB c 1 4 = true then c else 0) : Calls Try.prog 22 #[.int .i64 c] w fun e w' => e = .returned (.int .i64 k) ∧ w = w' := by
  by_cases h1 : c = 1
  · subst h1
    obtain rfl : k = 1 := hk
    go_enter Try.func22, Try.ntmps22
    go_wp2
    go_ret
    exact ⟨rfl, rfl⟩
  by_cases h2 : c = 2
  · subst h2
    obtain rfl : k = 2 := hk
    go_enter Try.func22, Try.ntmps22
    go_wp2
    go_ret
    exact ⟨rfl, rfl⟩
  by_cases h3 : c = 3
  · subst h3
    obtain rfl : k = 3 := hk
    go_enter Try.func22, Try.ntmps22
    go_wp2
    go_ret
    exact ⟨rfl, rfl⟩
  by_cases h4 : c = 4
  · subst h4
    obtain rfl : k = 4 := hk
    go_enter Try.func22, Try.ntmps22
    go_wp2
    go_ret
    exact ⟨rfl, rfl⟩
  obtain rfl : k = 0 := by rw [hk, if_neg]; simp only [betB, Bool.and_eq_true, decide_eq_true_eq]; omega
  clear hk
  have b1 : (c == 1) = false := beq_eq_false_iff_ne.mpr h1
  have b2 : (c == 2) = false := beq_eq_false_iff_ne.mpr h2
  have b3 : (c == 3) = false := beq_eq_false_iff_ne.mpr h3
  have b4 : (c == 4) = false := beq_eq_false_iff_ne.mpr h4
  clear h1 h2 h3 h4
  go_enter Try.func22, Try.ntmps22
  go_wp2
  go_ret
  exact ⟨rfl, rfl⟩
theorem number_yes (c : Int) (w : World) (h : betB c 1 4 = true) : Calls Try.prog 22 #[.int .i64 c] w fun e w' => e = .returned (.int .i64 c) ∧ w = w' := number_calls c c w (by rw [if_pos h])
theorem number_no (c : Int) (w : World) (h : betB c 1 4 = false) : Calls Try.prog 22 #[.int .i64 c] w fun e w' => e = .returned (.int .i64 0) ∧ w = w' := number_calls c 0 w (by rw [if_neg (by rw [h]; decide)])
set_option maxHeartbeats 4000000 in
set_option maxRecDepth 100000 in
theorem awake04_calls (w : World) : Calls Try.prog 25 #[] w fun e w' => e = .returned (.bool true) ∧ Below w.heap.size w w' := by
  have hu40 := Try.underlying40
  have HB := Aside0.mk (Below.refl w.heap.size w)
  go_enter Try.func25, Try.ntmps25
  go_wp2_with fail
  with_reducible refine (bad_yes 1 ⟨#[97, 47, 98]⟩ _ rfl (by decide)).mono ?_
  rintro e w_ ⟨rfl, ⟨nd, rfl⟩⟩
  rw [bad1]
  go_wp2_with fail
  with_reducible refine (bad_yes 2 ⟨#[97, 47, 98]⟩ _ rfl (by decide)).mono ?_
  rintro e w_ ⟨rfl, ⟨nd, rfl⟩⟩
  rw [bad2]
  go_wp2_with fail
  with_reducible refine (count_calls 1 _ rfl).mono ?_
  rintro e w_ ⟨rfl, ⟨nd, rfl⟩⟩
  rw [cnt1]
  go_wp2_with fail
  with_reducible refine (count_calls 3 _ rfl).mono ?_
  rintro e w_ ⟨rfl, ⟨nd, rfl⟩⟩
  rw [cnt3]
  go_wp2_with fail
  with_reducible refine Calls.stepB (text_calls 4 ⟨#[49, 50, 97]⟩ 1 3 _ (by decide)) ⟨(by repeat (first | (with_reducible first | exact HB.out | apply below_alloc | apply pw_below_drewN | apply below_drew1) | exact HB.out))⟩ ?_
  clear HB
  intro w_ HK HB
  clear HK
  rw [text1]
  go_wp2_with fail
  with_reducible refine Calls.stepB (text_calls 4 ⟨#[49, 50, 51, 52]⟩ 1 3 _ (by decide)) ⟨(by repeat (first | (with_reducible first | exact HB.out | apply below_alloc | apply pw_below_drewN | apply below_drew1) | exact HB.out))⟩ ?_
  clear HB
  intro w_ HK HB
  clear HK
  rw [text2]
  go_wp2_with fail
  with_reducible refine Calls.stepB (text_calls 4 ⟨#[]⟩ 1 3 _ (by decide)) ⟨(by repeat (first | (with_reducible first | exact HB.out | apply below_alloc | apply pw_below_drewN | apply below_drew1) | exact HB.out))⟩ ?_
  clear HB
  intro w_ HK HB
  clear HK
  rw [text3]
  go_wp2
  go_ret
  exact ⟨rfl, (by repeat (first | (with_reducible first | exact HB.out | apply below_alloc | apply pw_below_drewN | apply below_drew1) | exact HB.out))⟩
end Go.Proofs.Ytgaboaeeodiadaa
