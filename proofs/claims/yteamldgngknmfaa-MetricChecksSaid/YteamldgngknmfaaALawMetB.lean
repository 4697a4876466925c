/- The document's answer for classes; no condition. -/
import Derived.Test.YteamldgngknmfaaAClsB
import Derived.Test.YteamldgngknmfaaABase
import Derived.Test.YteamldgngknmfaaAPEx0
import Derived.Test.YteamldgngknmfaaAMetB
import Derived.ProofKit
import Derived.ShutString
import Derived.ChangeOld
import Derived.SizedLaws
import Derived.ChangeSlices
import Derived.SliceStrings
import Derived.ChangeMaps5
import Derived.Deep.Slices
import Derived.Deep.Strs
import Derived.Deep.Fields
import Derived.ChangeArms
namespace Go.Proofs.Yteamldgngknmfaa
open Go.RowKit Go.Proofs.YteamldgngknmfaaW.PrintWords Go.Proofs.YteamldgngknmfaaW.PrintLast Go.Proofs.YteamldgngknmfaaW.PrintMore
set_option linter.unusedVariables false
set_option linter.unusedSimpArgs false
def refBname : ByteArray := ((⟨#[65, 66, 67, 68, 69, 70, 71, 72, 73, 74, 75, 76, 77, 78, 79, 80, 81, 82, 83, 84, 85, 86, 87, 88, 89, 90, 97, 98, 99, 100, 101, 102, 103, 104, 105, 106, 107, 108, 109, 110, 111, 112, 113, 114, 115, 116, 117, 118, 119, 120, 121, 122]⟩ : ByteArray) ++ (⟨#[48, 49, 50, 51, 52, 53, 54, 55, 56, 57]⟩ : ByteArray)) ++ (⟨#[95, 46, 45]⟩ : ByteArray)
def refB (c : Int) : ByteArray := if c = 1 then refBname else if c = 2 then refBname ++ (⟨#[47]⟩ : ByteArray) else if c = 3 then refBname ++ (⟨#[47, 33, 34, 35, 36, 37, 38, 39, 40, 41, 42, 43, 58, 59, 60, 61, 62, 63, 64, 91, 92, 93, 94, 96, 123, 125, 126]⟩ : ByteArray) else if c = 4 then (⟨#[48, 49, 50, 51, 52, 53, 54, 55, 56, 57]⟩ : ByteArray) else (⟨#[]⟩ : ByteArray)
theorem refB_size (c : Int) : (refB c).size ≤ 92 := by
  unfold refB
  repeat' split
  all_goals decide +kernel
set_option maxHeartbeats 2000000 in
set_option maxRecDepth 100000 in
theorem refbytes_calls (c : Int) (w : World) : Calls Try.prog 121 #[.int .i64 c] w fun e w' => e = .returned (.string (refB c)) ∧ w = w' := by
  by_cases h1 : c = 1
  · have HE := Aside0.mk (show refB c = refBname by unfold refB; rw [if_pos h1])
    have b1 : (c == 1) = true := beq_iff_eq.mpr h1
    clear h1
    go_enter Try.func121, Try.ntmps121
    go_wp2
    go_ret
    exact ⟨by rw [HE.out]; rfl, rfl⟩
  have b1 : (c == 1) = false := beq_eq_false_iff_ne.mpr h1
  by_cases h2 : c = 2
  · have HE := Aside0.mk (show refB c = refBname ++ (⟨#[47]⟩ : ByteArray) by unfold refB; rw [if_neg h1, if_pos h2])
    have b2 : (c == 2) = true := beq_iff_eq.mpr h2
    clear h1 h2
    go_enter Try.func121, Try.ntmps121
    go_wp2
    go_ret
    exact ⟨by rw [HE.out]; rfl, rfl⟩
  have b2 : (c == 2) = false := beq_eq_false_iff_ne.mpr h2
  by_cases h3 : c = 3
  · have HE := Aside0.mk (show refB c = refBname ++ (⟨#[47, 33, 34, 35, 36, 37, 38, 39, 40, 41, 42, 43, 58, 59, 60, 61, 62, 63, 64, 91, 92, 93, 94, 96, 123, 125, 126]⟩ : ByteArray) by unfold refB; rw [if_neg h1, if_neg h2, if_pos h3])
    have b3 : (c == 3) = true := beq_iff_eq.mpr h3
    clear h1 h2 h3
    go_enter Try.func121, Try.ntmps121
    go_wp2
    go_ret
    exact ⟨by rw [HE.out]; rfl, rfl⟩
  have b3 : (c == 3) = false := beq_eq_false_iff_ne.mpr h3
  by_cases h4 : c = 4
  · have HE := Aside0.mk (show refB c = (⟨#[48, 49, 50, 51, 52, 53, 54, 55, 56, 57]⟩ : ByteArray) by unfold refB; rw [if_neg h1, if_neg h2, if_neg h3, if_pos h4])
    have b4 : (c == 4) = true := beq_iff_eq.mpr h4
    clear h1 h2 h3 h4
    go_enter Try.func121, Try.ntmps121
    go_wp2
    go_ret
    exact ⟨by rw [HE.out]; rfl, rfl⟩
  have b4 : (c == 4) = false := beq_eq_false_iff_ne.mpr h4
  have HE := Aside0.mk (show refB c = (⟨#[]⟩ : ByteArray) by unfold refB; rw [if_neg h1, if_neg h2, if_neg h3, if_neg h4])
  clear h1 h2 h3 h4
  go_enter Try.func121, Try.ntmps121
  go_wp2
  go_ret
  exact ⟨by rw [HE.out]; rfl, rfl⟩
def refIsB (c b : Int) : Bool := decide (badI (fun x => x != b) (refB c) ≠ -1)
set_option maxHeartbeats 2000000 in
set_option maxRecDepth 100000 in
theorem refis_calls (c b : Int) (w : World) : Calls Try.prog 119 #[.int .i64 c, .int .u8 b] w fun e w' => e = .returned (.bool (refIsB c b)) ∧ Drawn0 w w' := by
  have hs := refB_size c
  have HR := Aside0.mk (fun w : World => refbytes_calls c w)
  obtain ⟨s, hse⟩ : ∃ s, s = refB c := ⟨_, rfl⟩
  have HD := Aside0.mk (show refIsB c b = decide (badI (fun x => x != b) s ≠ -1) by rw [hse]; rfl)
  rw [← hse] at HR hs
  clear hse
  go_enter Try.func119, Try.ntmps119
  go_wp2_with (first | (go_at_call 121; with_reducible refine Calls.stepEq (HR.out _) ?_))
  go_loopw [6] (fun v6 w' => ∃ x : Int, v6 = .int .i64 x ∧ 0 ≤ x ∧ x ≤ (s.size : Int) ∧ Aside0 (badF (fun x => x != b) s (s.size - x.toNat) x.toNat = badI (fun x => x != b) s) ∧ Drawn0 w w') (fun v6 _ => s.size - (intOf v6).toNat)
  case atStart => exact ⟨0, rfl, by omega, by omega, ⟨rfl⟩, by repeat (first | exact Drawn0.refl _ | apply Drawn0.step)⟩
  case round =>
    obtain ⟨x, rfl, h0, hi, HT, ⟨m1, rfl⟩⟩ := hrel
    by_cases hlt : x < (s.size : Int)
    · have hd : decide (x < (s.size : Int)) = true := decide_eq_true hlt
      have hd0 : decide ((0 : Int) ≤ x) = true := decide_eq_true h0
      have hx8 := bt_at s x
      have HT1 := HT.out
      rw [badF_succ _ _ _ (by omega), Int.toNat_of_nonneg h0] at HT1
      have e1 : (x + 1).toNat = x.toNat + 1 := by omega
      rw [← e1] at HT1
      clear e1
      by_cases hq : bt s x = b
      · have hqb : (bt s x == b) = true := beq_iff_eq.mpr hq
        rw [if_neg (by simp [hq])] at HT1
        have HT2 := Aside0.mk HT1
        have H0 := Aside0.mk h0
        have p8 := eq_true h0
        have q8 := eq_true hlt
        clear hq HT1 h0 hlt
        go_wp2
        go_ret
        exact ⟨by rw [HD.out, ← HT2.out, decide_eq_true (by have := H0.out; omega)]; rfl, by repeat (first | exact Drawn0.refl _ | apply Drawn0.step)⟩
      · have hqb : (bt s x == b) = false := beq_eq_false_iff_ne.mpr hq
        rw [if_pos (by simp [hq])] at HT1
        have HT2 := Aside0.mk HT1
        have p8 := eq_true h0
        have q8 := eq_true hlt
        have h0' := Aside0.mk h0
        have hlt' := Aside0.mk hlt
        clear hq HT1 h0 hlt
        go_wp2
        have h0 := h0'.out
        have hlt := hlt'.out
        have hw := IntWalk.wrap64_in (x + 1) (by omega)
        go_roundw
        case rel => exact ⟨x + 1, by rw [hw], by omega, by omega, HT2, by repeat (first | exact Drawn0.refl _ | apply Drawn0.step)⟩
        case measure => simp [intOf, hw]; omega
    · have hd : decide (x < (s.size : Int)) = false := decide_eq_false hlt
      have HE := Aside0.mk (show badI (fun x => x != b) s = -1 by rw [← HT.out, show s.size - x.toNat = 0 by omega]; rfl)
      go_wp2
      go_ret
      exact ⟨by rw [HD.out, HE.out]; rfl, by repeat (first | exact Drawn0.refl _ | apply Drawn0.step)⟩
theorem ref_is_fin : ∀ k : Fin 5, ∀ n : Fin 256, refIsB (k.val : Int) (n.val : Int) = clsB (k.val : Int) (n.val : Int) := by decide +kernel
theorem ref_is (c b : Int) (hc : 0 ≤ c ∧ c ≤ 4) (hb : 0 ≤ b ∧ b ≤ 255) : refIsB c b = clsB c b := by
  obtain ⟨k, rfl⟩ := Int.eq_ofNat_of_zero_le hc.1
  obtain ⟨n, rfl⟩ := Int.eq_ofNat_of_zero_le hb.1
  exact ref_is_fin ⟨k, by omega⟩ ⟨n, by omega⟩
theorem bt_byte (s : ByteArray) (i : Int) : 0 ≤ bt s i ∧ bt s i ≤ 255 := by
  unfold bt
  split
  · rename_i h
    have := (s[i.toNat]'h).toNat_lt
    omega
  · omega
theorem refis_cls (c b : Int) (w : World) (hc : 0 ≤ c ∧ c ≤ 4) (hb : 0 ≤ b ∧ b ≤ 255) : Calls Try.prog 119 #[.int .i64 c, .int .u8 b] w fun e w' => e = .returned (.bool (clsB c b)) ∧ Drawn0 w w' := by
  rw [← ref_is c b hc hb]
  exact refis_calls c b w
set_option maxHeartbeats 2000000 in
set_option maxRecDepth 100000 in
theorem refbad_calls (c : Int) (s : ByteArray) (w : World) (hc : 0 ≤ c ∧ c ≤ 4) (hs : s.size ≤ 9223372036854775807) : Calls Try.prog 113 #[.int .i64 c, .string s] w fun e w' => e = .returned (.int .i64 (badI (clsB c) s)) ∧ Drawn0 w w' := by
  have H := Aside0.mk hc
  clear hc
  go_enter Try.func113, Try.ntmps113
  go_wp2_with (fail)
  go_loopw [5] (fun v5 w' => ∃ x : Int, v5 = .int .i64 x ∧ 0 ≤ x ∧ x ≤ (s.size : Int) ∧ Aside0 (badF (clsB c) s (s.size - x.toNat) x.toNat = badI (clsB c) s) ∧ Drawn0 w w') (fun v5 _ => s.size - (intOf v5).toNat)
  case atStart => exact ⟨0, rfl, by omega, by omega, ⟨rfl⟩, by repeat (first | exact Drawn0.refl _ | apply Drawn0.step)⟩
  case round =>
    obtain ⟨x, rfl, h0, hi, HT, ⟨m1, rfl⟩⟩ := hrel
    by_cases hlt : x < (s.size : Int)
    · have hd : decide (x < (s.size : Int)) = true := decide_eq_true hlt
      have hd0 : decide ((0 : Int) ≤ x) = true := decide_eq_true h0
      have hx8 := bt_at s x
      have HT1 := HT.out
      rw [badF_succ _ _ _ (by omega), Int.toNat_of_nonneg h0] at HT1
      have e1 : (x + 1).toNat = x.toNat + 1 := by omega
      rw [← e1] at HT1
      clear e1
      have HY := Aside0.mk (bt_byte s x)
      cases hq : clsB c (bt s x) with
      | true =>
        rw [hq, if_pos rfl] at HT1
        have HT2 := Aside0.mk HT1
        have HQ := Aside0.mk hq
        have p8 := eq_true h0
        have q8 := eq_true hlt
        have h0' := Aside0.mk h0
        have hlt' := Aside0.mk hlt
        clear hq HT1 h0 hlt
        go_wp2_with (first | (go_at_call 119; with_reducible refine (refis_cls c (bt s x) _ H.out HY.out).mono ?_; rintro e w_ ⟨rfl, ⟨nd, rfl⟩⟩; rw [HQ.out]))
        have h0 := h0'.out
        have hlt := hlt'.out
        have hw := IntWalk.wrap64_in (x + 1) (by omega)
        go_roundw
        case rel => exact ⟨x + 1, by rw [hw], by omega, by omega, HT2, by repeat (first | exact Drawn0.refl _ | apply Drawn0.step)⟩
        case measure => simp [intOf, hw]; omega
      | false =>
        rw [hq, if_neg (by decide)] at HT1
        have HT2 := Aside0.mk HT1
        have HQ := Aside0.mk hq
        have p8 := eq_true h0
        have q8 := eq_true hlt
        clear hq HT1 h0 hlt
        go_wp2_with (first | (go_at_call 119; with_reducible refine (refis_cls c (bt s x) _ H.out HY.out).mono ?_; rintro e w_ ⟨rfl, ⟨nd, rfl⟩⟩; rw [HQ.out]))
        go_ret
        exact ⟨by rw [← HT2.out]; rfl, by repeat (first | exact Drawn0.refl _ | apply Drawn0.step)⟩
    · have hd : decide (x < (s.size : Int)) = false := decide_eq_false hlt
      have HE := Aside0.mk (show badI (clsB c) s = -1 by rw [← HT.out, show s.size - x.toNat = 0 by omega]; rfl)
      go_wp2
      go_ret
      exact ⟨by rw [HE.out]; rfl, by repeat (first | exact Drawn0.refl _ | apply Drawn0.step)⟩
set_option maxHeartbeats 2000000 in
set_option maxRecDepth 100000 in
theorem reftext_calls (c : Int) (s : ByteArray) (lo hi : Int) (w : World) (hc : betB c 1 4 = true) (hl : 0 ≤ lo ∧ lo ≤ hi) (hs : s.size ≤ 9223372036854775807) : Calls Try.prog 101 #[.int .i64 c, .string s, .int .i64 lo, .int .i64 hi] w fun e w' => e = .returned (.agg #[.int .i64 (textW c s lo hi).1, .int .i64 (textW c s lo hi).2]) ∧ Below w.heap.size w w' := by
  have HS := Aside0.mk hs
  have hno : ¬ (betB c 1 4 = false ∨ lo < 0 ∨ hi < lo) := fun h => h.elim (by rw [hc]; decide) (fun h => h.elim (fun h => by omega) (fun h => by omega))
  have H := Aside0.mk (show 0 ≤ c ∧ c ≤ 4 by have := hc; simp only [betB, Bool.and_eq_true, decide_eq_true_eq] at this; omega)
  clear hs hc hl
  by_cases h3 : (s.size : Int) < lo
  · have HT := Aside0.mk (show textW c s lo hi = (13, (s.size : Int)) by unfold textW; rw [if_neg hno, if_pos h3])
    have b3 : decide ((s.size : Int) < lo) = true := decide_eq_true h3
    clear h3 hno
    go_enter Try.func101, Try.ntmps101
    go_wp2_with (first | (go_at_call 113; with_reducible refine (refbad_calls c s _ H.out HS.out).mono ?_; rintro e w_ ⟨rfl, ⟨nd, rfl⟩⟩))
    exact bodyPost_ret (v := .agg #[.int .i64 13, .int .i64 s.size]) (by simp [results, Try.results101, go_sem]) rfl ⟨by rw [HT.out], by with_reducible repeat (first | exact Below.refl _ _ | apply below_alloc | apply pw_below_drewN | apply below_drew1 | refine Below.setCell ?_ (by simp) _)⟩
  have b3 : decide ((s.size : Int) < lo) = false := decide_eq_false h3
  by_cases h4 : hi < (s.size : Int)
  · have HT := Aside0.mk (show textW c s lo hi = (12, hi) by unfold textW; rw [if_neg hno, if_neg h3, if_pos h4])
    have b4 : decide (hi < (s.size : Int)) = true := decide_eq_true h4
    clear h3 h4 hno
    go_enter Try.func101, Try.ntmps101
    go_wp2_with (first | (go_at_call 113; with_reducible refine (refbad_calls c s _ H.out HS.out).mono ?_; rintro e w_ ⟨rfl, ⟨nd, rfl⟩⟩))
    exact bodyPost_ret (v := .agg #[.int .i64 12, .int .i64 hi]) (by simp [results, Try.results101, go_sem]) rfl ⟨by rw [HT.out], by with_reducible repeat (first | exact Below.refl _ _ | apply below_alloc | apply pw_below_drewN | apply below_drew1 | refine Below.setCell ?_ (by simp) _)⟩
  have b4 : decide (hi < (s.size : Int)) = false := decide_eq_false h4
  by_cases h5 : 0 ≤ badI (clsB c) s
  · have HT := Aside0.mk (show textW c s lo hi = (14, badI (clsB c) s) by unfold textW; rw [if_neg hno, if_neg h3, if_neg h4, if_pos h5])
    have b5 : decide (0 ≤ badI (clsB c) s) = true := decide_eq_true h5
    clear h3 h4 h5 hno
    go_enter Try.func101, Try.ntmps101
    go_wp2_with (first | (go_at_call 113; with_reducible refine (refbad_calls c s _ H.out HS.out).mono ?_; rintro e w_ ⟨rfl, ⟨nd, rfl⟩⟩))
    exact bodyPost_ret (v := .agg #[.int .i64 14, .int .i64 (badI (clsB c) s)]) (by simp [results, Try.results101, go_sem]) rfl ⟨by rw [HT.out], by with_reducible repeat (first | exact Below.refl _ _ | apply below_alloc | apply pw_below_drewN | apply below_drew1 | refine Below.setCell ?_ (by simp) _)⟩
  · have HT := Aside0.mk (show textW c s lo hi = (0, 0) by unfold textW; rw [if_neg hno, if_neg h3, if_neg h4, if_neg h5])
    have b5 : decide (0 ≤ badI (clsB c) s) = false := decide_eq_false h5
    clear h3 h4 h5 hno
    go_enter Try.func101, Try.ntmps101
    go_wp2_with (first | (go_at_call 113; with_reducible refine (refbad_calls c s _ H.out HS.out).mono ?_; rintro e w_ ⟨rfl, ⟨nd, rfl⟩⟩))
    exact bodyPost_ret (v := .agg #[.int .i64 0, .int .i64 0]) (by simp [results, Try.results101, go_sem]) rfl ⟨by rw [HT.out], by with_reducible repeat (first | exact Below.refl _ _ | apply below_alloc | apply pw_below_drewN | apply below_drew1 | refine Below.setCell ?_ (by simp) _)⟩
end Go.Proofs.Yteamldgngknmfaa
/- Package slices: Clone of rows of numbers and of tags; no condition. -/
namespace Go.Proofs.Yteamldgngknmfaa.PE
open Go.RowKit Go.Proofs.YteamldgngknmfaaW.PrintWords Go.Proofs.YteamldgngknmfaaW.PrintLast Go.Proofs.YteamldgngknmfaaW.PrintMore
set_option linter.unusedVariables false
set_option linter.unusedSimpArgs false
def slices_Clone_d.f (l0 : List S40) : Option (List S40) := if l0.length < 5864062014805 then some l0 else none
set_option maxHeartbeats 4000000 in
set_option maxRecDepth 100000 in
theorem slices_Clone_d.calls (A0 : Option Addr) (c0 : Nat) (l0 : List S40) (r : List S40) (w : World) (hr0 : Kd.C k40 w A0 l0.length l0) (hc0 : l0.length ≤ c0) (h : slices_Clone_d.f l0 = some r) :
    Calls Try.prog 49 #[.slice A0 l0.length c0] w fun e w' => ∃ v0_ : Value, e = .returned (v0_) ∧ Kd.R k40 40 w' w.heap.size (fun _ => True) v0_ r ∧ Below w.heap.size w w' := by
  have HR := Aside0.mk hr0
  have HL := Aside0.mk (show l0.length < 5864062014805 by unfold slices_Clone_d.f at h; split at h; assumption; cases h)
  obtain rfl : l0 = r := by
    unfold slices_Clone_d.f at h
    rw [if_pos HL.out] at h
    exact Option.some.inj h
  have HB := Aside0.mk (Below.refl w.heap.size w)
  clear h hc0
  cases A0 with
  | none =>
    have h0 : l0 = [] := by
      cases l0 with
      | nil => rfl
      | cons x l => obtain ⟨ad, h, _⟩ := hr0.2.2 (by simp); cases h
    subst h0
    clear hr0 HR HL
    have hq : ∀ w, (binOp .eql 22 (.slice none 0 c0) (.slice none 0 0)).run Try.prog w = .ok (.bool true) w := fun w => Lib.run_eql_slice_nil w 22 40 none 0 c0 0 0 Try.underlying22
    go_enter Try.func49, Try.ntmps49
    go_wp2
    go_ret
    exact ⟨_, rfl, Kd.R_nil _ _ _ _ _, HB.out⟩
  | some ad =>
    have hq : ∀ w, (binOp .eql 22 (.slice (some ad) l0.length c0) (.slice none 0 0)).run Try.prog w = .ok (.bool false) w := fun w => Lib.run_eql_slice_nil w 22 40 (some ad) l0.length c0 0 0 Try.underlying22
    clear hr0
    go_enter Try.func49, Try.ntmps49
    go_wp2_with (first
      | ((with_reducible refine gate_dst (N := 5) rfl ?_); refine Kd.R_lit k40 _ 40 ?hg (N := 5) ?hd (xs := ([] : List S40)) (inner := []) (ok := fun _ => True) (okp := fun _ => True) ?hr ?hp (fun _ hk => hk) trivial (Below.refl _ _) (Nat.le_refl _) (by simp) ?_; (case hd => rfl); (case hg => rfl); (case hr => first | (go_simp; done) | (go_simp; rfl)); (case hp => exact (Reps.none _ _)); intro v1 w1 ho hb hg_ hnew_; clear hg_ hnew_; have HO := Aside0.mk (Kd.R_lower ho (Nat.le_refl _)); have HR2 := Aside0.mk (Kd.C_below HR.out hb); have HB := Aside0.mk hb; clear hb ho HR)
      | ((with_reducible refine gate_builtin (b := .append) (xs := #[.tmp 5, .tmp 6]) rfl ?_); at_builtin; refine Kd.R_append_rows k40 (w0 := w) w.heap.size rfl (.tmp 5) (.tmp 6) 22 40 (.agg #[(.bool false), (.int .u64 0), (.int .i64 0)]) 24 rfl Try.underlying22 info40 rfl (by decide) (by omega) v1 [] l0 _ _ _ (fun _ => True) (fun _ => False) rfl rfl ?aO ?aR (fun _ _ h => h) (fun _ h => h.elim) ?aF ?aB ?aS ?aL ?_; (case aR => exact HR2.out); (case aB => exact HB.out); (case aF => exact (fun _ _ => trivial)); (case aO => exact HO.out); (case aS => exact (below_size HB.out)); (case aL => have := HL.out; simp; omega); intro v2 w2 ho2 hb2 hg2 hat2; have HO2 := Aside0.mk ho2; have HB2 := Aside0.mk hb2; clear ho2 hb2 hg2 hat2))
    go_ret
    exact ⟨_, rfl, by have := HO2.out; simpa using this, HB2.out⟩
def slices_Clone_t.f (l0 : List S37) : Option (List S37) := if l0.length < 4398046511104 then some l0 else none
set_option maxHeartbeats 4000000 in
set_option maxRecDepth 100000 in
theorem slices_Clone_t.calls (A0 : Option Addr) (c0 : Nat) (l0 : List S37) (r : List S37) (w : World) (hr0 : Kd.C k37 w A0 l0.length l0) (hc0 : l0.length ≤ c0) (h : slices_Clone_t.f l0 = some r) :
    Calls Try.prog 56 #[.slice A0 l0.length c0] w fun e w' => ∃ v0_ : Value, e = .returned (v0_) ∧ Kd.R k37 37 w' w.heap.size (fun _ => True) v0_ r ∧ Below w.heap.size w w' := by
  have HR := Aside0.mk hr0
  have HL := Aside0.mk (show l0.length < 4398046511104 by unfold slices_Clone_t.f at h; split at h; assumption; cases h)
  obtain rfl : l0 = r := by
    unfold slices_Clone_t.f at h
    rw [if_pos HL.out] at h
    exact Option.some.inj h
  have HB := Aside0.mk (Below.refl w.heap.size w)
  clear h hc0
  cases A0 with
  | none =>
    have h0 : l0 = [] := by
      cases l0 with
      | nil => rfl
      | cons x l => obtain ⟨ad, h, _⟩ := hr0.2.2 (by simp); cases h
    subst h0
    clear hr0 HR HL
    have hq : ∀ w, (binOp .eql 23 (.slice none 0 c0) (.slice none 0 0)).run Try.prog w = .ok (.bool true) w := fun w => Lib.run_eql_slice_nil w 23 37 none 0 c0 0 0 Try.underlying23
    go_enter Try.func56, Try.ntmps56
    go_wp2
    go_ret
    exact ⟨_, rfl, Kd.R_nil _ _ _ _ _, HB.out⟩
  | some ad =>
    have hq : ∀ w, (binOp .eql 23 (.slice (some ad) l0.length c0) (.slice none 0 0)).run Try.prog w = .ok (.bool false) w := fun w => Lib.run_eql_slice_nil w 23 37 (some ad) l0.length c0 0 0 Try.underlying23
    clear hr0
    go_enter Try.func56, Try.ntmps56
    go_wp2_with (first
      | ((with_reducible refine gate_dst (N := 5) rfl ?_); refine Kd.R_lit k37 _ 37 ?hg (N := 5) ?hd (xs := ([] : List S37)) (inner := []) (ok := fun _ => True) (okp := fun _ => True) ?hr ?hp (fun _ hk => hk) trivial (Below.refl _ _) (Nat.le_refl _) (by simp) ?_; (case hd => rfl); (case hg => rfl); (case hr => first | (go_simp; done) | (go_simp; rfl)); (case hp => exact (Reps.none _ _)); intro v1 w1 ho hb hg_ hnew_; clear hg_ hnew_; have HO := Aside0.mk (Kd.R_lower ho (Nat.le_refl _)); have HR2 := Aside0.mk (Kd.C_below HR.out hb); have HB := Aside0.mk hb; clear hb ho HR)
      | ((with_reducible refine gate_builtin (b := .append) (xs := #[.tmp 5, .tmp 6]) rfl ?_); at_builtin; refine Kd.R_append_rows k37 (w0 := w) w.heap.size rfl (.tmp 5) (.tmp 6) 23 37 (.agg #[(.string ⟨#[]⟩), (.string ⟨#[]⟩)]) 32 rfl Try.underlying23 info37 rfl (by decide) (by omega) v1 [] l0 _ _ _ (fun _ => True) (fun _ => False) rfl rfl ?aO ?aR (fun _ _ h => h) (fun _ h => h.elim) ?aF ?aB ?aS ?aL ?_; (case aR => exact HR2.out); (case aB => exact HB.out); (case aF => exact (fun _ _ => trivial)); (case aO => exact HO.out); (case aS => exact (below_size HB.out)); (case aL => have := HL.out; simp; omega); intro v2 w2 ho2 hb2 hg2 hat2; have HO2 := Aside0.mk ho2; have HB2 := Aside0.mk hb2; clear ho2 hb2 hg2 hat2))
    go_ret
    exact ⟨_, rfl, by have := HO2.out; simpa using this, HB2.out⟩
end Go.Proofs.Yteamldgngknmfaa.PE
/- The contract of package metric's Check in the printed form; no condition. -/
namespace Go.Proofs.Yteamldgngknmfaa.PE
open Go.RowKit Go.Proofs.YteamldgngknmfaaW.PrintWords Go.Proofs.YteamldgngknmfaaW.PrintLast Go.Proofs.YteamldgngknmfaaW.PrintMore
set_option linter.unusedVariables false
set_option linter.unusedSimpArgs false
def decIn (d : S40) : Bool := (decide (0 ≤ d.f1) && decide (d.f1 < 18446744073709551616)) && (decide (-9223372036854775808 ≤ d.f2) && decide (d.f2 ≤ 9223372036854775807))
def tagIn (t : S37) : Bool := decide (t.f0.size ≤ 9223372036854775807) && decide (t.f1.size ≤ 9223372036854775807)
def metIn (m : S25) : Bool := decide (m.f0.size ≤ 9223372036854775807) && (m.f2.all decIn && m.f4.all tagIn)
theorem metC_of {m : S25} {Av At : Option Addr} {cv ct : Nat} {w : World} (hv : Kd.C k40 w Av m.f2.length m.f2) (hvc : m.f2.length ≤ cv) (ht : Kd.C k37 w At m.f4.length m.f4) (htc : m.f4.length ≤ ct) (h : metIn m = true) : MetC m Av cv At ct w := by
  unfold metIn at h
  simp only [Bool.and_eq_true, decide_eq_true_eq, List.all_eq_true] at h
  refine ⟨hv, hvc, ht, htc, fun x hx => ?_, fun x hx => ?_, h.1⟩
  · have := h.2.1 x hx
    unfold decIn at this
    simp only [Bool.and_eq_true, decide_eq_true_eq] at this
    exact this.1
  · have := h.2.2 x hx
    unfold tagIn at this
    simpa using this
def metric_Check.f (a0_0 : ByteArray) (a0_1 : Int) (l0_2 : List S40) (a0_3 : Int) (l0_4 : List S37) (a0_5 : Int) : Option Int := if metIn (⟨a0_0, a0_1, l0_2, a0_3, l0_4, a0_5⟩ : S25) = true then some (metBad (⟨a0_0, a0_1, l0_2, a0_3, l0_4, a0_5⟩ : S25)) else none
theorem metric_Check.calls (a0_0 : ByteArray) (a0_1 : Int) (A0_2 : Option Addr) (c0_2 : Nat) (l0_2 : List S40) (a0_3 : Int) (A0_4 : Option Addr) (c0_4 : Nat) (l0_4 : List S37) (a0_5 : Int) (r : Int) (w : World) (hr0_2 : Kd.C k40 w A0_2 l0_2.length l0_2) (hc0_2 : l0_2.length ≤ c0_2) (hr0_4 : Kd.C k37 w A0_4 l0_4.length l0_4) (hc0_4 : l0_4.length ≤ c0_4) (h : metric_Check.f a0_0 a0_1 l0_2 a0_3 l0_4 a0_5 = some r) :
    Calls Try.prog 16 #[.agg #[.string a0_0, .int .i64 a0_1, .slice A0_2 l0_2.length c0_2, .int .i64 a0_3, .slice A0_4 l0_4.length c0_4, .int .i64 a0_5]] w fun e w' => e = .returned (.int .i64 r) ∧ Below w.heap.size w w' := by
  unfold metric_Check.f at h
  split at h
  · rename_i hq
    cases h
    exact mcheck_calls (⟨a0_0, a0_1, l0_2, a0_3, l0_4, a0_5⟩ : S25) A0_2 c0_2 A0_4 c0_4 w (metC_of hr0_2 hc0_2 hr0_4 hc0_4 hq)
  · cases h
def forebayref04_Text.f (a0 : Int) (a1 : ByteArray) (a2 : Int) (a3 : Int) : Option (Int × Int) := if betB a0 1 4 = true ∧ (0 ≤ a2 ∧ a2 ≤ a3) ∧ a1.size ≤ 9223372036854775807 then some (textW a0 a1 a2 a3) else none
theorem forebayref04_Text.calls (a0 : Int) (a1 : ByteArray) (a2 : Int) (a3 : Int) (r1 : Int) (r2 : Int) (w : World) (h : forebayref04_Text.f a0 a1 a2 a3 = some (r1, r2)) :
    Calls Try.prog 101 #[.int .i64 a0, .string a1, .int .i64 a2, .int .i64 a3] w fun e w' => e = .returned (.agg #[.int .i64 r1, .int .i64 r2]) ∧ Below w.heap.size w w' := by
  unfold forebayref04_Text.f at h
  split at h
  · rename_i hq
    have h2 := Option.some.inj h
    have e1 : (textW a0 a1 a2 a3).1 = r1 := by rw [h2]
    have e2 : (textW a0 a1 a2 a3).2 = r2 := by rw [h2]
    rw [← e1, ← e2]
    exact reftext_calls a0 a1 a2 a3 w hq.1 hq.2.1 hq.2.2
  · cases h
end Go.Proofs.Yteamldgngknmfaa.PE
/- What the laws' rows open: a struct of slices of structs, by value; no condition. -/
namespace Go.Proofs.Yteamldgngknmfaa
open Go.RowKit Go.ChangeShapes Go.WideShapes Go.Proofs.YteamldgngknmfaaW.PrintWords
section
variable {H : Type} {enc : TypeId × Value → H} {P : Program} {w : World} {base b0 : Nat} {spare : Nat → Bool} {held : Bool} {t e f : TypeId} {v : Value} {d : DataW H} {ps : List MemPlace} {r : Reach}
theorem one_bool {n : Nat} {cs : List Value} {y : DataW H × List MemPlace} (hu : P.underlying t = some .bool) (h : DataW.trod enc P w base spare held n t cs = some y) : ∃ b, cs = [.bool b] := by
  cases n with
  | zero => simp [DataW.trod] at h
  | succ n =>
    unfold DataW.trod at h
    rw [hu] at h
    split at h <;> simp_all
theorem one_int {k : IntKind} {n : Nat} {cs : List Value} {y : DataW H × List MemPlace} (hu : P.underlying t = some (.int k)) (h : DataW.trod enc P w base spare held n t cs = some y) : ∃ x, cs = [.int k x] ∧ (Lit.int k x).wf = true := by
  cases n with
  | zero => simp [DataW.trod] at h
  | succ n =>
    unfold DataW.trod at h
    rw [hu] at h
    split at h <;> simp_all
theorem one_str {n : Nat} {cs : List Value} {y : DataW H × List MemPlace} (hu : P.underlying t = some .string) (h : DataW.trod enc P w base spare held n t cs = some y) : ∃ s, cs = [.string s] ∧ s.size ≤ maxLen := by
  cases n with
  | zero => simp [DataW.trod] at h
  | succ n =>
    unfold DataW.trod at h
    rw [hu] at h
    split at h <;> simp_all
theorem one_rowK {α : Type} {dk : Kd α} (z : α) {Q : α → Prop} (hu : P.underlying t = some (.slice e)) (hc : P.cellsOf e = dk.sz)
    (hel : ∀ n cs y, DataW.trod enc P w base spare held n e cs = some y → ∃ x, dk.K w x cs ∧ Q x) {n : Nat} {cs : List Value} {y : DataW H × List MemPlace} (h : DataW.trod enc P w base spare held n t cs = some y) :
    ∃ A c, ∃ xs : List α, cs = [.slice A xs.length c] ∧ dk.C w A xs.length xs ∧ (∀ x ∈ xs, Q x) ∧ xs.length ≤ c ∧ xs.length ≤ maxLen := by
  rcases Deep.open_slice hu h with ⟨rfl, _⟩ | ⟨a, len, cap, m, n1, D, Pl, rfl, _, hl, hm, hmm, _, hx⟩
  · exact ⟨none, 0, [], rfl, Kd.C_nil _ _, by simp, Nat.le_refl _, by simp⟩
  have hlm : len ≤ m := by rw [hmm]; split <;> omega
  have : Inhabited α := ⟨z⟩
  obtain ⟨X, hX⟩ := Deep.choose_lt (α := α) (n := len) (p := fun i x => Q x ∧ ∃ c, c.length = dk.sz ∧ dk.K w x c ∧ ∀ j u, c[j]? = some u → w.cell? (a.add (i * dk.sz + j)) = some u) (fun i hi => by
    obtain ⟨cs', h1, h2⟩ := hx i (by omega)
    obtain ⟨x, hK, hQ⟩ := hel _ _ _ h2
    rw [hc] at h1
    obtain ⟨_, hlen, hcell⟩ := World.cells?_some h1
    refine ⟨x, hQ, cs', hlen, hK, fun j u hj => ?_⟩
    have hjl : j < dk.sz := by
      obtain ⟨hj', _⟩ := List.getElem?_eq_some_iff.1 hj
      omega
    have := hcell j hjl
    rw [Deep.add_add] at this
    rw [this, hj])
  refine ⟨some a, cap, (List.range len).map X, by simp, ⟨rfl, by simp only [maxLen] at hm; simp; omega, fun _ => ⟨a, rfl, fun j p hj => ?_⟩⟩, ?_, by simpa using hl, by simp; omega⟩
  · obtain ⟨hj', rfl⟩ := List.getElem?_eq_some_iff.1 hj
    have hj2 : j < len := by simpa using hj'
    obtain ⟨_, c, h1, h2, h3⟩ := hX j hj2
    simp only [List.getElem_map, List.getElem_range]
    exact ⟨c, h1, h2, h3⟩
  · intro x hxm
    obtain ⟨i, hi, rfl⟩ := List.mem_map.1 hxm
    exact (hX i (List.mem_range.1 hi)).1
end
end Go.Proofs.Yteamldgngknmfaa
/- What the laws' rows open: a metric, by value or in a row; no condition. -/
namespace Go.Proofs.Yteamldgngknmfaa
open Go.RowKit Go.ChangeShapes Go.WideShapes Go.Deep Go.Proofs.YteamldgngknmfaaW.PrintWords Go.Proofs.Yteamldgngknmfaa.PE
set_option linter.unusedVariables false
section
variable {H : Type} {enc : TypeId × Value → H} {P : Program} {w : World} {base b0 : Nat} {spare : Nat → Bool} {held : Bool} {t e : TypeId} {v : Value} {d : DataW H} {ps : List MemPlace} {r : Reach}
theorem fields_of {fs : Array Field} {fuel : Nat} {cs : List Value} {x : DataW H × List MemPlace} (ht : P.underlying t = some (.struct fs)) (hone : oneCellFields P fs = true) (h : DataW.trod enc P w base spare held fuel t cs = some x) :
    cs.length = P.cellsOf t ∧ ∃ n, ∀ (i : Nat) (f : Field) (c : Value), fs[i]? = some f → cs[i]? = some c → ∃ y, DataW.trod enc P w base spare held n f.type [c] = some y := by
  obtain ⟨xs, n, _, _, hl, hx, hf⟩ := DataW.trod_struct ht h
  refine ⟨hl, n, fun i f c hi hc => ?_⟩
  obtain ⟨ho, hk⟩ := hone_of hone i f hi
  have h1 := hf i f hi
  obtain ⟨hlt, hc'⟩ := List.getElem?_eq_some_iff.1 hc
  rw [ho, hk, List.drop_eq_getElem_cons hlt, hc'] at h1
  have hlx : i < xs.length := by rw [hx]; exact (Array.getElem?_eq_some_iff.1 hi).1
  rw [List.getElem?_eq_getElem hlx] at h1
  exact ⟨_, h1⟩
end
section
variable {H : Type} {enc : TypeId × Value → H} {w : World} {base b0 : Nat} {spare : Nat → Bool} {held : Bool} {v : Value} {d : DataW H} {ps : List MemPlace} {r : Reach}
theorem dec_cells (n : Nat) (cs : List Value) (y : DataW H × List MemPlace) (h : DataW.trod enc Try.prog w base spare held n 40 cs = some y) : ∃ x : S40, k40.K w x cs ∧ decIn x = true := by
  obtain ⟨hl, n1, hf⟩ := fields_of Try.underlying40 (by kernel_rfl) h
  rw [show Try.prog.cellsOf 40 = 3 from by kernel_rfl] at hl
  match cs, hl with
  | [c0, c1, c2], _ =>
    obtain ⟨y0, h0⟩ := hf 0 _ c0 rfl rfl
    obtain ⟨y1, h1⟩ := hf 1 _ c1 rfl rfl
    obtain ⟨y2, h2⟩ := hf 2 _ c2 rfl rfl
    obtain ⟨b, hb⟩ := one_bool Try.underlying4 h0
    obtain ⟨x1, hx1, hw1⟩ := one_int Try.underlying38 h1
    obtain ⟨x2, hx2, hw2⟩ := one_int Try.underlying3 h2
    injection hb with hb _
    injection hx1 with hx1 _
    injection hx2 with hx2 _
    subst hb hx1 hx2
    refine ⟨⟨b, x1, x2⟩, k40_mk w _, ?_⟩
    have := bounds_u64 hw1
    have := bounds_i64 hw2
    unfold decIn
    simp
    omega
theorem tag_cells (n : Nat) (cs : List Value) (y : DataW H × List MemPlace) (h : DataW.trod enc Try.prog w base spare held n 37 cs = some y) : ∃ x : S37, k37.K w x cs ∧ tagIn x = true := by
  obtain ⟨hl, n1, hf⟩ := fields_of Try.underlying37 (by kernel_rfl) h
  rw [show Try.prog.cellsOf 37 = 2 from by kernel_rfl] at hl
  match cs, hl with
  | [c0, c1], _ =>
    obtain ⟨y0, h0⟩ := hf 0 _ c0 rfl rfl
    obtain ⟨y1, h1⟩ := hf 1 _ c1 rfl rfl
    obtain ⟨s0, hs0, hw0⟩ := one_str Try.underlying9 h0
    obtain ⟨s1, hs1, hw1⟩ := one_str Try.underlying9 h1
    injection hs0 with hs0 _
    injection hs1 with hs1 _
    subst hs0 hs1
    refine ⟨⟨s0, s1⟩, k37_mk w _, ?_⟩
    unfold maxLen at hw0 hw1
    unfold tagIn
    simp
    omega
theorem met_cells (n : Nat) (cs : List Value) (y : DataW H × List MemPlace) (h : DataW.trod enc Try.prog w base spare held n 25 cs = some y) :
    ∃ (m : S25) (Av : Option Addr) (cv : Nat) (At : Option Addr) (ct : Nat), cs = [.string m.f0, .int .i64 m.f1, .slice Av m.f2.length cv, .int .i64 m.f3, .slice At m.f4.length ct, .int .i64 m.f5] ∧ MetC m Av cv At ct w ∧ metIn m = true := by
  obtain ⟨hl, n1, hf⟩ := fields_of Try.underlying25 (by kernel_rfl) h
  rw [show Try.prog.cellsOf 25 = 6 from by kernel_rfl] at hl
  match cs, hl with
  | [c0, c1, c2, c3, c4, c5], _ =>
    obtain ⟨y0, h0⟩ := hf 0 _ c0 rfl rfl
    obtain ⟨y1, h1⟩ := hf 1 _ c1 rfl rfl
    obtain ⟨y2, h2⟩ := hf 2 _ c2 rfl rfl
    obtain ⟨y3, h3⟩ := hf 3 _ c3 rfl rfl
    obtain ⟨y4, h4⟩ := hf 4 _ c4 rfl rfl
    obtain ⟨y5, h5⟩ := hf 5 _ c5 rfl rfl
    obtain ⟨s0, hs0, hw0⟩ := one_str Try.underlying9 h0
    obtain ⟨x1, hx1, _⟩ := one_int Try.underlying3 h1
    obtain ⟨Av, cv, vs, hx2, hC2, hq2, hl2, _⟩ := one_rowK (dk := k40) z40 (Q := fun x => decIn x = true) Try.underlying22 (by kernel_rfl) dec_cells h2
    obtain ⟨x3, hx3, _⟩ := one_int Try.underlying3 h3
    obtain ⟨At, ct, ts, hx4, hC4, hq4, hl4, _⟩ := one_rowK (dk := k37) z37 (Q := fun x => tagIn x = true) Try.underlying23 (by kernel_rfl) tag_cells h4
    obtain ⟨x5, hx5, _⟩ := one_int Try.underlying3 h5
    injection hs0 with hs0 _
    injection hx1 with hx1 _
    injection hx2 with hx2 _
    injection hx3 with hx3 _
    injection hx4 with hx4 _
    injection hx5 with hx5 _
    subst hs0 hx1 hx2 hx3 hx4 hx5
    have hin : metIn (⟨s0, x1, vs, x3, ts, x5⟩ : S25) = true := by
      unfold metIn
      unfold maxLen at hw0
      simp only [Bool.and_eq_true, decide_eq_true_eq, List.all_eq_true]
      exact ⟨by omega, hq2, hq4⟩
    exact ⟨⟨s0, x1, vs, x3, ts, x5⟩, Av, cv, At, ct, rfl, metC_of hC2 hl2 hC4 hl4 hin, hin⟩
set_option maxRecDepth 100000 in
theorem open_metric (hv : Value.okWide Try.prog w r b0 25 v) (h : DataW.Trod enc Try.prog w base spare held 25 v d ps) :
    ∃ (m : S25) (Av : Option Addr) (cv : Nat) (At : Option Addr) (ct : Nat), v = .agg #[.string m.f0, .int .i64 m.f1, .slice Av m.f2.length cv, .int .i64 m.f3, .slice At m.f4.length ct, .int .i64 m.f5] ∧ MetC m Av cv At ct w ∧ metIn m = true := by
  obtain ⟨cs, rfl, _⟩ := okWide_struct Try.underlying25 hv
  obtain ⟨fuel, hf⟩ := h
  obtain ⟨m, Av, cv, At, ct, hcs, h1, h2⟩ := met_cells _ _ _ hf
  refine ⟨m, Av, cv, At, ct, ?_, h1, h2⟩
  exact congrArg Value.agg (Array.ext' hcs)
end
end Go.Proofs.Yteamldgngknmfaa
