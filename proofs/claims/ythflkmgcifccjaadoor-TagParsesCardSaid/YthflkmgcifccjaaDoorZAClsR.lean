/- The document's answer for classes; no condition. -/
import Derived.Test.YthflkmgcifccjaaDoorZAClsB
namespace Go.Proofs.YthflkmgcifccjaaDoor
open Go.RowKit Go.Proofs.YthflkmgcifccjaaDoorW.PrintWords Go.Proofs.YthflkmgcifccjaaDoorW.PrintLast Go.Proofs.YthflkmgcifccjaaDoorW.PrintMore
set_option linter.unusedVariables false
set_option linter.unusedSimpArgs false
def refBname : ByteArray := ((⟨#[65, 66, 67, 68, 69, 70, 71, 72, 73, 74, 75, 76, 77, 78, 79, 80, 81, 82, 83, 84, 85, 86, 87, 88, 89, 90, 97, 98, 99, 100, 101, 102, 103, 104, 105, 106, 107, 108, 109, 110, 111, 112, 113, 114, 115, 116, 117, 118, 119, 120, 121, 122]⟩ : ByteArray) ++ (⟨#[48, 49, 50, 51, 52, 53, 54, 55, 56, 57]⟩ : ByteArray)) ++ (⟨#[95, 46, 45]⟩ : ByteArray)
def refB (c : Int) : ByteArray := if c = 1 then refBname else if c = 2 then refBname ++ (⟨#[47]⟩ : ByteArray) else if c = 3 then refBname ++ (⟨#[47, 33, 34, 35, 36, 37, 38, 39, 40, 41, 42, 43, 58, 59, 60, 61, 62, 63, 64, 91, 92, 93, 94, 96, 123, 125, 126]⟩ : ByteArray) else if c = 4 then (⟨#[48, 49, 50, 51, 52, 53, 54, 55, 56, 57]⟩ : ByteArray) else (⟨#[]⟩ : ByteArray)
theorem refB_size (c : Int) : (refB c).size ≤ 92 := by
  unfold refB
  repeat' split
  all_goals decide +kernel
set_option maxHeartbeats 2000000 in
set_option maxRecDepth 100000 in
theorem refbytes_calls (c : Int) (w : World) : Calls Tryd.prog 72 #[.int .i64 c] w fun e w' => e = .returned (.string (refB c)) ∧ w = w' := by
  by_cases h1 : c = 1
  · have HE := Aside0.mk (show refB c = refBname by unfold refB; rw [if_pos h1])
    have b1 : (c == 1) = true := beq_iff_eq.mpr h1
    clear h1
    go_enter Tryd.func72, Tryd.ntmps72
    go_wp2
    go_ret
    exact ⟨by rw [HE.out]; rfl, rfl⟩
  have b1 : (c == 1) = false := beq_eq_false_iff_ne.mpr h1
  by_cases h2 : c = 2
  · have HE := Aside0.mk (show refB c = refBname ++ (⟨#[47]⟩ : ByteArray) by unfold refB; rw [if_neg h1, if_pos h2])
    have b2 : (c == 2) = true := beq_iff_eq.mpr h2
    clear h1 h2
    go_enter Tryd.func72, Tryd.ntmps72
    go_wp2
    go_ret
    exact ⟨by rw [HE.out]; rfl, rfl⟩
  have b2 : (c == 2) = false := beq_eq_false_iff_ne.mpr h2
  by_cases h3 : c = 3
  · have HE := Aside0.mk (show refB c = refBname ++ (⟨#[47, 33, 34, 35, 36, 37, 38, 39, 40, 41, 42, 43, 58, 59, 60, 61, 62, 63, 64, 91, 92, 93, 94, 96, 123, 125, 126]⟩ : ByteArray) by unfold refB; rw [if_neg h1, if_neg h2, if_pos h3])
    have b3 : (c == 3) = true := beq_iff_eq.mpr h3
    clear h1 h2 h3
    go_enter Tryd.func72, Tryd.ntmps72
    go_wp2
    go_ret
    exact ⟨by rw [HE.out]; rfl, rfl⟩
  have b3 : (c == 3) = false := beq_eq_false_iff_ne.mpr h3
  by_cases h4 : c = 4
  · have HE := Aside0.mk (show refB c = (⟨#[48, 49, 50, 51, 52, 53, 54, 55, 56, 57]⟩ : ByteArray) by unfold refB; rw [if_neg h1, if_neg h2, if_neg h3, if_pos h4])
    have b4 : (c == 4) = true := beq_iff_eq.mpr h4
    clear h1 h2 h3 h4
    go_enter Tryd.func72, Tryd.ntmps72
    go_wp2
    go_ret
    exact ⟨by rw [HE.out]; rfl, rfl⟩
  have b4 : (c == 4) = false := beq_eq_false_iff_ne.mpr h4
  have HE := Aside0.mk (show refB c = (⟨#[]⟩ : ByteArray) by unfold refB; rw [if_neg h1, if_neg h2, if_neg h3, if_neg h4])
  clear h1 h2 h3 h4
  go_enter Tryd.func72, Tryd.ntmps72
  go_wp2
  go_ret
  exact ⟨by rw [HE.out]; rfl, rfl⟩
def refIsB (c b : Int) : Bool := decide (badI (fun x => x != b) (refB c) ≠ -1)
set_option maxHeartbeats 2000000 in
set_option maxRecDepth 100000 in
theorem refis_calls (c b : Int) (w : World) : Calls Tryd.prog 50 #[.int .i64 c, .int .u8 b] w fun e w' => e = .returned (.bool (refIsB c b)) ∧ Drawn0 w w' := by
  have hs := refB_size c
  have HR := Aside0.mk (fun w : World => refbytes_calls c w)
  obtain ⟨s, hse⟩ : ∃ s, s = refB c := ⟨_, rfl⟩
  have HD := Aside0.mk (show refIsB c b = decide (badI (fun x => x != b) s ≠ -1) by rw [hse]; rfl)
  rw [← hse] at HR hs
  clear hse
  go_enter Tryd.func50, Tryd.ntmps50
  go_wp2_with (first | (go_at_call 72; with_reducible refine Calls.stepEq (HR.out _) ?_))
  go_loopw [6] (fun v6 w' => ∃ x : Int, v6 = .int .i64 x ∧ 0 ≤ x ∧ x ≤ (s.size : Int) ∧ Aside0 (badF (fun x => x != b) s (s.size - x.toNat) x.toNat = badI (fun x => x != b) s) ∧ Drawn0 w w') (fun v6 _ => s.size - (intOf v6).toNat)
  case atStart => exact ⟨0, rfl, by omega, by omega, ⟨rfl⟩, by repeat (first | exact Drawn0.refl _ | apply Drawn0.step)⟩
  case round =>
    obtain ⟨x, rfl, h0, hi, HT, ⟨m1, rfl⟩⟩ := hrel
    by_cases hlt : x < (s.size : Int)
    · have hd : decide (x < (s.size : Int)) = true := decide_eq_true hlt
      have hd0 : decide ((0 : Int) ≤ x) = true := decide_eq_true h0
      have hx8 := bt_at s x
      have HT1 := HT.out
      rw [badF_succ _ _ _ (by omega), Int.toNat_of_nonneg h0] at HT1
      have e1 : (x + 1).toNat = x.toNat + 1 := by omega
      rw [← e1] at HT1
      clear e1
      by_cases hq : bt s x = b
      · have hqb : (bt s x == b) = true := beq_iff_eq.mpr hq
        rw [if_neg (by simp [hq])] at HT1
        have HT2 := Aside0.mk HT1
        have H0 := Aside0.mk h0
        have p8 := eq_true h0
        have q8 := eq_true hlt
        clear hq HT1 h0 hlt
        go_wp2
        go_ret
        exact ⟨by rw [HD.out, ← HT2.out, decide_eq_true (by have := H0.out; omega)]; rfl, by repeat (first | exact Drawn0.refl _ | apply Drawn0.step)⟩
      · have hqb : (bt s x == b) = false := beq_eq_false_iff_ne.mpr hq
        rw [if_pos (by simp [hq])] at HT1
        have HT2 := Aside0.mk HT1
        have p8 := eq_true h0
        have q8 := eq_true hlt
        have h0' := Aside0.mk h0
        have hlt' := Aside0.mk hlt
        clear hq HT1 h0 hlt
        go_wp2
        have h0 := h0'.out
        have hlt := hlt'.out
        have hw := IntWalk.wrap64_in (x + 1) (by omega)
        go_roundw
        case rel => exact ⟨x + 1, by rw [hw], by omega, by omega, HT2, by repeat (first | exact Drawn0.refl _ | apply Drawn0.step)⟩
        case measure => simp [intOf, hw]; omega
    · have hd : decide (x < (s.size : Int)) = false := decide_eq_false hlt
      have HE := Aside0.mk (show badI (fun x => x != b) s = -1 by rw [← HT.out, show s.size - x.toNat = 0 by omega]; rfl)
      go_wp2
      go_ret
      exact ⟨by rw [HD.out, HE.out]; rfl, by repeat (first | exact Drawn0.refl _ | apply Drawn0.step)⟩
theorem ref_is_fin : ∀ k : Fin 5, ∀ n : Fin 256, refIsB (k.val : Int) (n.val : Int) = clsB (k.val : Int) (n.val : Int) := by decide +kernel
theorem ref_is (c b : Int) (hc : 0 ≤ c ∧ c ≤ 4) (hb : 0 ≤ b ∧ b ≤ 255) : refIsB c b = clsB c b := by
  obtain ⟨k, rfl⟩ := Int.eq_ofNat_of_zero_le hc.1
  obtain ⟨n, rfl⟩ := Int.eq_ofNat_of_zero_le hb.1
  exact ref_is_fin ⟨k, by omega⟩ ⟨n, by omega⟩
theorem bt_byte (s : ByteArray) (i : Int) : 0 ≤ bt s i ∧ bt s i ≤ 255 := by
  unfold bt
  split
  · rename_i h
    have := (s[i.toNat]'h).toNat_lt
    omega
  · omega
theorem refis_cls (c b : Int) (w : World) (hc : 0 ≤ c ∧ c ≤ 4) (hb : 0 ≤ b ∧ b ≤ 255) : Calls Tryd.prog 50 #[.int .i64 c, .int .u8 b] w fun e w' => e = .returned (.bool (clsB c b)) ∧ Drawn0 w w' := by
  rw [← ref_is c b hc hb]
  exact refis_calls c b w
set_option maxHeartbeats 2000000 in
set_option maxRecDepth 100000 in
theorem refbad_calls (c : Int) (s : ByteArray) (w : World) (hc : 0 ≤ c ∧ c ≤ 4) (hs : s.size ≤ 9223372036854775807) : Calls Tryd.prog 38 #[.int .i64 c, .string s] w fun e w' => e = .returned (.int .i64 (badI (clsB c) s)) ∧ Drawn0 w w' := by
  have H := Aside0.mk hc
  clear hc
  go_enter Tryd.func38, Tryd.ntmps38
  go_wp2_with (fail)
  go_loopw [5] (fun v5 w' => ∃ x : Int, v5 = .int .i64 x ∧ 0 ≤ x ∧ x ≤ (s.size : Int) ∧ Aside0 (badF (clsB c) s (s.size - x.toNat) x.toNat = badI (clsB c) s) ∧ Drawn0 w w') (fun v5 _ => s.size - (intOf v5).toNat)
  case atStart => exact ⟨0, rfl, by omega, by omega, ⟨rfl⟩, by repeat (first | exact Drawn0.refl _ | apply Drawn0.step)⟩
  case round =>
    obtain ⟨x, rfl, h0, hi, HT, ⟨m1, rfl⟩⟩ := hrel
    by_cases hlt : x < (s.size : Int)
    · have hd : decide (x < (s.size : Int)) = true := decide_eq_true hlt
      have hd0 : decide ((0 : Int) ≤ x) = true := decide_eq_true h0
      have hx8 := bt_at s x
      have HT1 := HT.out
      rw [badF_succ _ _ _ (by omega), Int.toNat_of_nonneg h0] at HT1
      have e1 : (x + 1).toNat = x.toNat + 1 := by omega
      rw [← e1] at HT1
      clear e1
      have HY := Aside0.mk (bt_byte s x)
      cases hq : clsB c (bt s x) with
      | true =>
        rw [hq, if_pos rfl] at HT1
        have HT2 := Aside0.mk HT1
        have HQ := Aside0.mk hq
        have p8 := eq_true h0
        have q8 := eq_true hlt
        have h0' := Aside0.mk h0
        have hlt' := Aside0.mk hlt
        clear hq HT1 h0 hlt
        go_wp2_with (first | (go_at_call 50; with_reducible refine (refis_cls c (bt s x) _ H.out HY.out).mono ?_; rintro e w_ ⟨rfl, ⟨nd, rfl⟩⟩; rw [HQ.out]))
        have h0 := h0'.out
        have hlt := hlt'.out
        have hw := IntWalk.wrap64_in (x + 1) (by omega)
        go_roundw
        case rel => exact ⟨x + 1, by rw [hw], by omega, by omega, HT2, by repeat (first | exact Drawn0.refl _ | apply Drawn0.step)⟩
        case measure => simp [intOf, hw]; omega
      | false =>
        rw [hq, if_neg (by decide)] at HT1
        have HT2 := Aside0.mk HT1
        have HQ := Aside0.mk hq
        have p8 := eq_true h0
        have q8 := eq_true hlt
        clear hq HT1 h0 hlt
        go_wp2_with (first | (go_at_call 50; with_reducible refine (refis_cls c (bt s x) _ H.out HY.out).mono ?_; rintro e w_ ⟨rfl, ⟨nd, rfl⟩⟩; rw [HQ.out]))
        go_ret
        exact ⟨by rw [← HT2.out]; rfl, by repeat (first | exact Drawn0.refl _ | apply Drawn0.step)⟩
    · have hd : decide (x < (s.size : Int)) = false := decide_eq_false hlt
      have HE := Aside0.mk (show badI (clsB c) s = -1 by rw [← HT.out, show s.size - x.toNat = 0 by omega]; rfl)
      go_wp2
      go_ret
      exact ⟨by rw [HE.out]; rfl, by repeat (first | exact Drawn0.refl _ | apply Drawn0.step)⟩
set_option maxHeartbeats 2000000 in
set_option maxRecDepth 100000 in
theorem reftext_calls (c : Int) (s : ByteArray) (lo hi : Int) (w : World) (hc : betB c 1 4 = true) (hl : 0 ≤ lo ∧ lo ≤ hi) (hs : s.size ≤ 9223372036854775807) : Calls Tryd.prog 26 #[.int .i64 c, .string s, .int .i64 lo, .int .i64 hi] w fun e w' => e = .returned (.agg #[.int .i64 (textW c s lo hi).1, .int .i64 (textW c s lo hi).2]) ∧ Below w.heap.size w w' := by
  have HS := Aside0.mk hs
  have hno : ¬ (betB c 1 4 = false ∨ lo < 0 ∨ hi < lo) := fun h => h.elim (by rw [hc]; decide) (fun h => h.elim (fun h => by omega) (fun h => by omega))
  have H := Aside0.mk (show 0 ≤ c ∧ c ≤ 4 by have := hc; simp only [betB, Bool.and_eq_true, decide_eq_true_eq] at this; omega)
  clear hs hc hl
  by_cases h3 : (s.size : Int) < lo
  · have HT := Aside0.mk (show textW c s lo hi = (13, (s.size : Int)) by unfold textW; rw [if_neg hno, if_pos h3])
    have b3 : decide ((s.size : Int) < lo) = true := decide_eq_true h3
    clear h3 hno
    go_enter Tryd.func26, Tryd.ntmps26
    go_wp2_with (first | (go_at_call 38; with_reducible refine (refbad_calls c s _ H.out HS.out).mono ?_; rintro e w_ ⟨rfl, ⟨nd, rfl⟩⟩))
    exact bodyPost_ret (v := .agg #[.int .i64 13, .int .i64 s.size]) (by simp [results, Tryd.results26, go_sem]) rfl ⟨by rw [HT.out], by with_reducible repeat (first | exact Below.refl _ _ | apply below_alloc | apply pw_below_drewN | apply below_drew1 | refine Below.setCell ?_ (by simp) _)⟩
  have b3 : decide ((s.size : Int) < lo) = false := decide_eq_false h3
  by_cases h4 : hi < (s.size : Int)
  · have HT := Aside0.mk (show textW c s lo hi = (12, hi) by unfold textW; rw [if_neg hno, if_neg h3, if_pos h4])
    have b4 : decide (hi < (s.size : Int)) = true := decide_eq_true h4
    clear h3 h4 hno
    go_enter Tryd.func26, Tryd.ntmps26
    go_wp2_with (first | (go_at_call 38; with_reducible refine (refbad_calls c s _ H.out HS.out).mono ?_; rintro e w_ ⟨rfl, ⟨nd, rfl⟩⟩))
    exact bodyPost_ret (v := .agg #[.int .i64 12, .int .i64 hi]) (by simp [results, Tryd.results26, go_sem]) rfl ⟨by rw [HT.out], by with_reducible repeat (first | exact Below.refl _ _ | apply below_alloc | apply pw_below_drewN | apply below_drew1 | refine Below.setCell ?_ (by simp) _)⟩
  have b4 : decide (hi < (s.size : Int)) = false := decide_eq_false h4
  by_cases h5 : 0 ≤ badI (clsB c) s
  · have HT := Aside0.mk (show textW c s lo hi = (14, badI (clsB c) s) by unfold textW; rw [if_neg hno, if_neg h3, if_neg h4, if_pos h5])
    have b5 : decide (0 ≤ badI (clsB c) s) = true := decide_eq_true h5
    clear h3 h4 h5 hno
    go_enter Tryd.func26, Tryd.ntmps26
    go_wp2_with (first | (go_at_call 38; with_reducible refine (refbad_calls c s _ H.out HS.out).mono ?_; rintro e w_ ⟨rfl, ⟨nd, rfl⟩⟩))
    exact bodyPost_ret (v := .agg #[.int .i64 14, .int .i64 (badI (clsB c) s)]) (by simp [results, Tryd.results26, go_sem]) rfl ⟨by rw [HT.out], by with_reducible repeat (first | exact Below.refl _ _ | apply below_alloc | apply pw_below_drewN | apply below_drew1 | refine Below.setCell ?_ (by simp) _)⟩
  · have HT := Aside0.mk (show textW c s lo hi = (0, 0) by unfold textW; rw [if_neg hno, if_neg h3, if_neg h4, if_neg h5])
    have b5 : decide (0 ≤ badI (clsB c) s) = false := decide_eq_false h5
    clear h3 h4 h5 hno
    go_enter Tryd.func26, Tryd.ntmps26
    go_wp2_with (first | (go_at_call 38; with_reducible refine (refbad_calls c s _ H.out HS.out).mono ?_; rintro e w_ ⟨rfl, ⟨nd, rfl⟩⟩))
    exact bodyPost_ret (v := .agg #[.int .i64 0, .int .i64 0]) (by simp [results, Tryd.results26, go_sem]) rfl ⟨by rw [HT.out], by with_reducible repeat (first | exact Below.refl _ _ | apply below_alloc | apply pw_below_drewN | apply below_drew1 | refine Below.setCell ?_ (by simp) _)⟩
end Go.Proofs.YthflkmgcifccjaaDoor
