/- The laws of dictionaries: what they share; no condition. -/
import Derived.Test.YtmbfjaogimkncaaDictGet
import Derived.Test.YtmbfjaogimkncaaClsR
namespace Go.Proofs.Ytmbfjaogimkncaa
open Go.RowKit Go.Proofs.YtmbfjaogimkncaaW.PrintWords Go.Proofs.YtmbfjaogimkncaaW.PrintLast Go.Proofs.YtmbfjaogimkncaaW.PrintMore
set_option linter.unusedVariables false
set_option linter.unusedSimpArgs false
theorem lit_C {w : World} (e : TypeId) (xs : List Int) (hl : xs.length ≤ 9223372036854775807) : (Kd.int .u8).C (w.alloc (.cells (nums .u8 xs).toArray e)) (some ⟨w.heap.size, 0, none⟩) xs.length xs := by
  obtain ⟨A, c, e1, _, h⟩ := Kd.R_reads (R_lit_u8 (w := w) (base := 0) e (Nat.zero_le _) xs hl)
  injection e1 with e1
  subst e1
  exact h
theorem take_rd {l0 l1 : List Int} {i : Int} (hi : 0 ≤ i) (h0 : i < (l0.length : Int)) (h1 : i < (l1.length : Int)) (h : l0.take i.toNat = l1.take i.toNat) (hq : rd l0 i = rd l1 i) : l0.take (i + 1).toNat = l1.take (i + 1).toNat := by
  obtain ⟨n, rfl⟩ := Int.eq_ofNat_of_zero_le hi
  have e : ((n : Int) + 1).toNat = n + 1 := by omega
  rw [Int.toNat_natCast] at h
  have h0' : n < l0.length := by omega
  have h1' : n < l1.length := by omega
  rw [e, List.take_succ_eq_append_getElem h0', List.take_succ_eq_append_getElem h1', h]
  unfold rd at hq
  rw [Int.toNat_natCast, List.getD_eq_getElem?_getD, List.getD_eq_getElem?_getD, List.getElem?_eq_getElem h0', List.getElem?_eq_getElem h1'] at hq
  have hq' : l0[n] = l1[n] := hq
  rw [hq']
set_option maxHeartbeats 1000000 in
set_option maxRecDepth 100000 in
theorem same15_calls (A0 : Option Addr) (c0 : Nat) (l0 : List Int) (A1 : Option Addr) (c1 : Nat) (l1 : List Int) (w : World) (hr0 : (Kd.int .u8).C w A0 l0.length l0) (hr1 : (Kd.int .u8).C w A1 l1.length l1) :
    Calls Try.prog 42 #[.slice A0 l0.length c0, .slice A1 l1.length c1] w fun e w' => e = .returned (.bool (decide (l0 = l1))) ∧ Drawn0 w w' := by
  have HR0 := Aside0.mk hr0
  have HR1 := Aside0.mk hr1
  have hm0 : l0.length ≤ 9223372036854775807 := hr0.2.1
  clear hr0 hr1
  by_cases hlen : l0.length = l1.length
  · have hb : ((l0.length : Int) != (l1.length : Int)) = false := by simp [hlen]
    have hb2 : ((l0.length : Int) == (l1.length : Int)) = true := by simp [hlen]
    have HLE := Aside0.mk hlen
    have hle1 : l0.length ≤ l1.length := by omega
    have hle2 : l1.length ≤ l0.length := by omega
    clear hlen
    go_enter Try.func42, Try.ntmps42
    go_wp2
    repeat (go_quiet (fail); try go_wp2)
    go_loopw [5] (fun v5 w' => ∃ i : Int, v5 = .int .i64 i ∧ 0 ≤ i ∧ i ≤ (l0.length : Int) ∧ Aside0 (l0.take i.toNat = l1.take i.toNat) ∧ Drawn0 w w') (fun v5 _ => l0.length - (intOf v5).toNat)
    case atStart => exact ⟨0, rfl, by omega, by omega, ⟨by simp⟩, by repeat (first | exact Drawn0.refl _ | apply Drawn0.step)⟩
    case round =>
      obtain ⟨i, rfl, h0, hi, HT, ⟨m1, rfl⟩⟩ := hrel
      by_cases hlt : i < (l0.length : Int)
      · obtain ⟨ad0, e0, hx0⟩ := Kd.at_int HR0.out i h0 hlt
        cases e0
        have hlt1 : i < (l1.length : Int) := by omega
        obtain ⟨ad1, e1, hx1⟩ := Kd.at_int HR1.out i h0 hlt1
        cases e1
        by_cases hq : rd l0 i = rd l1 i
        · have hq1 : (rd l0 i == rd l1 i) = true := beq_iff_eq.mpr hq
          have hq2 : (rd l0 i != rd l1 i) = false := bne_eq_false_iff_eq.mpr hq
          have HQ := Aside0.mk (take_rd (i := i) h0 hlt hlt1 HT.out hq)
          clear hq
          go_wp2
          repeat (go_quiet (fail); try go_wp2)
          go_roundw
          case rel => exact ⟨i + 1, by go_num, by omega, by omega, HQ, by repeat (first | exact Drawn0.refl _ | apply Drawn0.step)⟩
          case measure => simp [intOf]; omega
        · have hq1 : (rd l0 i == rd l1 i) = false := beq_eq_false_iff_ne.mpr hq
          have hq2 : (rd l0 i != rd l1 i) = true := bne_iff_ne.mpr hq
          have HQ := Aside0.mk hq
          clear hq
          go_wp2
          repeat (go_quiet (fail); try go_wp2)
          go_ret
          exact ⟨by rw [decide_eq_false (fun e => HQ.out (by rw [e]))]; rfl, by repeat (first | exact Drawn0.refl _ | apply Drawn0.step)⟩
      · have HE := Aside0.mk (show l0 = l1 by
          have h := HT.out
          rw [List.take_of_length_le (by omega), List.take_of_length_le (by omega)] at h
          exact h)
        go_wp2
        repeat (go_quiet (fail); try go_wp2)
        go_ret
        exact ⟨by rw [decide_eq_true HE.out]; rfl, by repeat (first | exact Drawn0.refl _ | apply Drawn0.step)⟩
  · have hb : ((l0.length : Int) != (l1.length : Int)) = true := by simp; omega
    have hb2 : ((l0.length : Int) == (l1.length : Int)) = false := by simp; omega
    have HLE := Aside0.mk hlen
    clear hlen
    go_enter Try.func42, Try.ntmps42
    go_wp2
    repeat (go_quiet (fail); try go_wp2)
    go_ret
    exact ⟨by rw [decide_eq_false (fun e => HLE.out (by rw [e]))]; rfl, by repeat (first | exact Drawn0.refl _ | apply Drawn0.step)⟩
theorem same15_n (A0 : Option Addr) (n0 c0 : Nat) (l0 : List Int) (A1 : Option Addr) (n1 c1 : Nat) (l1 : List Int) (w : World) (hr0 : (Kd.int .u8).C w A0 n0 l0) (hr1 : (Kd.int .u8).C w A1 n1 l1) :
    Calls Try.prog 42 #[.slice A0 n0 c0, .slice A1 n1 c1] w fun e w' => e = .returned (.bool (decide (l0 = l1))) ∧ Drawn0 w w' := by
  obtain rfl := hr0.1
  obtain rfl := hr1.1
  exact same15_calls A0 c0 l0 A1 c1 l1 w hr0 hr1
theorem take_rds {l0 l1 : List ByteArray} {i : Int} (hi : 0 ≤ i) (h0 : i < (l0.length : Int)) (h1 : i < (l1.length : Int)) (h : l0.take i.toNat = l1.take i.toNat) (hq : l0.getD i.toNat ByteArray.empty = l1.getD i.toNat ByteArray.empty) : l0.take (i + 1).toNat = l1.take (i + 1).toNat := by
  obtain ⟨n, rfl⟩ := Int.eq_ofNat_of_zero_le hi
  have e : ((n : Int) + 1).toNat = n + 1 := by omega
  rw [Int.toNat_natCast] at h hq
  have h0' : n < l0.length := by omega
  have h1' : n < l1.length := by omega
  rw [e, List.take_succ_eq_append_getElem h0', List.take_succ_eq_append_getElem h1', h]
  rw [List.getD_eq_getElem?_getD, List.getD_eq_getElem?_getD, List.getElem?_eq_getElem h0', List.getElem?_eq_getElem h1'] at hq
  have hq' : l0[n] = l1[n] := hq
  rw [hq']
theorem str_ne {s t : ByteArray} (h : s ≠ t) : (s.toList == t.toList) = false := by
  refine beq_eq_false_iff_ne.mpr (fun e => h ?_)
  rw [Go.Lib.toList_data, Go.Lib.toList_data] at e
  exact Go.WideShapes.bytes_inj e
theorem str_eqB (s t : ByteArray) : (s.toList == t.toList) = decide (s = t) := by
  by_cases h : s = t
  · subst h; simp
  · rw [str_ne h, decide_eq_false h]
set_option maxHeartbeats 2000000 in
set_option maxRecDepth 100000 in
theorem words15_calls (A0 : Option Addr) (n0 c0 : Nat) (l0 : List ByteArray) (A1 : Option Addr) (n1 c1 : Nat) (l1 : List ByteArray) (w : World) (hr0 : Kd.string.C w A0 n0 l0) (hr1 : Kd.string.C w A1 n1 l1) :
    Calls Try.prog 40 #[.slice A0 n0 c0, .slice A1 n1 c1] w fun e w' => e = .returned (.bool (decide (l0 = l1))) ∧ Drawn0 w w' := by
  obtain rfl := hr0.1
  obtain rfl := hr1.1
  have HR0 := Aside0.mk hr0
  have HR1 := Aside0.mk hr1
  have hm0 : l0.length ≤ 9223372036854775807 := hr0.2.1
  clear hr0 hr1
  by_cases hlen : l0.length = l1.length
  · have hb : ((l0.length : Int) != (l1.length : Int)) = false := by simp [hlen]
    have hb2 : ((l0.length : Int) == (l1.length : Int)) = true := by simp [hlen]
    have HLE := Aside0.mk hlen
    have hle1 : l0.length ≤ l1.length := by omega
    have hle2 : l1.length ≤ l0.length := by omega
    clear hlen
    go_enter Try.func40, Try.ntmps40
    go_wp2
    repeat (go_quiet (fail); try go_wp2)
    go_loopw [5] (fun v5 w' => ∃ i : Int, v5 = .int .i64 i ∧ 0 ≤ i ∧ i ≤ (l0.length : Int) ∧ Aside0 (l0.take i.toNat = l1.take i.toNat) ∧ Drawn0 w w') (fun v5 _ => l0.length - (intOf v5).toNat)
    case atStart => exact ⟨0, rfl, by omega, by omega, ⟨by simp⟩, by repeat (first | exact Drawn0.refl _ | apply Drawn0.step)⟩
    case round =>
      obtain ⟨i, rfl, h0, hi, HT, ⟨m1, rfl⟩⟩ := hrel
      by_cases hlt : i < (l0.length : Int)
      · obtain ⟨ad0, e0, hx0⟩ := str_at HR0.out i h0 hlt
        cases e0
        have hlt1 : i < (l1.length : Int) := by omega
        obtain ⟨ad1, e1, hx1⟩ := str_at HR1.out i h0 hlt1
        cases e1
        obtain ⟨s0, hs0⟩ : ∃ s, l0.getD i.toNat ByteArray.empty = s := ⟨_, rfl⟩
        obtain ⟨s1, hs1⟩ : ∃ s, l1.getD i.toNat ByteArray.empty = s := ⟨_, rfl⟩
        rw [hs0] at hx0
        rw [hs1] at hx1
        by_cases hq : s0 = s1
        · subst hq
          have HQ := Aside0.mk (take_rds (i := i) h0 hlt hlt1 HT.out (hs0.trans hs1.symm))
          clear hs0 hs1
          go_wp2
          repeat (go_quiet (fail); try go_wp2)
          go_roundw
          case rel => exact ⟨i + 1, by go_num, by omega, by omega, HQ, by repeat (first | exact Drawn0.refl _ | apply Drawn0.step)⟩
          case measure => simp [intOf]; omega
        · have hq1 : (s0.toList == s1.toList) = false := str_ne hq
          have HQ := Aside0.mk (show l0 ≠ l1 from fun e => hq (by rw [← hs0, ← hs1, e]))
          clear hq hs0 hs1
          go_wp2
          repeat (go_quiet (fail); try go_wp2)
          go_ret
          exact ⟨by rw [decide_eq_false HQ.out]; rfl, by repeat (first | exact Drawn0.refl _ | apply Drawn0.step)⟩
      · have HE := Aside0.mk (show l0 = l1 by
          have h := HT.out
          rw [List.take_of_length_le (by omega), List.take_of_length_le (by omega)] at h
          exact h)
        go_wp2
        repeat (go_quiet (fail); try go_wp2)
        go_ret
        exact ⟨by rw [decide_eq_true HE.out]; rfl, by repeat (first | exact Drawn0.refl _ | apply Drawn0.step)⟩
  · have hb : ((l0.length : Int) != (l1.length : Int)) = true := by simp; omega
    have hb2 : ((l0.length : Int) == (l1.length : Int)) = false := by simp; omega
    have HLE := Aside0.mk hlen
    clear hlen
    go_enter Try.func40, Try.ntmps40
    go_wp2
    repeat (go_quiet (fail); try go_wp2)
    go_ret
    exact ⟨by rw [decide_eq_false (fun e => HLE.out (by rw [e]))]; rfl, by repeat (first | exact Drawn0.refl _ | apply Drawn0.step)⟩
def fewB (l : List ByteArray) : Bool := decide (l.length ≤ 80 ∧ ∀ s ∈ l, s.size ≤ 300)
theorem mem_getD {l : List ByteArray} {s : ByteArray} (h : s ∈ l) : ∃ i, i < l.length ∧ l.getD i ByteArray.empty = s := by
  obtain ⟨i, hi, e⟩ := List.getElem_of_mem h
  exact ⟨i, hi, by rw [List.getD_eq_getElem?_getD, List.getElem?_eq_getElem hi, e]; rfl⟩
theorem getD_mem {l : List ByteArray} {i : Nat} (h : i < l.length) : l.getD i ByteArray.empty ∈ l := by
  rw [List.getD_eq_getElem?_getD, List.getElem?_eq_getElem h]
  exact List.getElem_mem h
set_option maxHeartbeats 2000000 in
set_option maxRecDepth 100000 in
theorem few15_calls (A : Option Addr) (c : Nat) (l : List ByteArray) (w : World) (hr : Kd.string.C w A l.length l) (hs : ∀ s ∈ l, s.size ≤ 9223372036854775807) :
    Calls Try.prog 35 #[.slice A l.length c] w fun e w' => e = .returned (.bool (fewB l)) ∧ Drawn0 w w' := by
  have HR := Aside0.mk hr
  have HS := Aside0.mk hs
  have hm0 : l.length ≤ 9223372036854775807 := hr.2.1
  clear hr hs
  go_enter Try.func35, Try.ntmps35
  go_wp2
  go_loopw [3] (fun v3 w' => ∃ i : Int, v3 = .int .i64 i ∧ 0 ≤ i ∧ i ≤ (l.length : Int) ∧ i ≤ 81 ∧ Aside0 (∀ j : Nat, (j : Int) < i → (l.getD j ByteArray.empty).size ≤ 300) ∧ Drawn0 w w') (fun v3 _ => 81 - (intOf v3).toNat)
  case atStart => exact ⟨0, rfl, by omega, by omega, by omega, ⟨fun j hj => by omega⟩, by repeat (first | exact Drawn0.refl _ | apply Drawn0.step)⟩
  case round =>
    obtain ⟨i, rfl, h0, hi, h81, HT, ⟨m1, rfl⟩⟩ := hrel
    by_cases hlt : i < (l.length : Int)
    · have bl : decide (i < (l.length : Int)) = true := decide_eq_true hlt
      by_cases hl8 : i < 81
      · obtain ⟨ad0, e0, hx0⟩ := str_at HR.out i h0 hlt
        cases e0
        obtain ⟨s0, hs0⟩ : ∃ s, l.getD i.toNat ByteArray.empty = s := ⟨_, rfl⟩
        rw [hs0] at hx0
        have hsz := HS.out s0 (by rw [← hs0]; exact getD_mem (by omega))
        have HS0 := Aside0.mk hs0
        clear hs0
        by_cases hq : 300 < s0.size
        · have bq : decide (300 < (s0.size : Int)) = true := decide_eq_true (by omega)
          have HE := Aside0.mk (show fewB l = false from decide_eq_false (fun h => by
            have := h.2 s0 (by rw [← HS0.out]; exact getD_mem (by omega))
            omega))
          clear hq
          go_wp2
          go_ret
          exact ⟨by rw [HE.out]; rfl, by repeat (first | exact Drawn0.refl _ | apply Drawn0.step)⟩
        · have bq : decide (300 < (s0.size : Int)) = false := decide_eq_false (by omega)
          have HQ := Aside0.mk hq
          clear hq
          go_wp2
          go_roundw
          case rel => exact ⟨i + 1, by go_num, by omega, by omega, by omega, ⟨fun j hj => by
            by_cases e : (j : Int) = i
            · have e2 : j = i.toNat := by omega
              rw [e2, HS0.out]
              have := HQ.out
              omega
            · exact HT.out j (by omega)⟩, by repeat (first | exact Drawn0.refl _ | apply Drawn0.step)⟩
          case measure => simp [intOf]; omega
      · have hl9 : ¬ (l.length : Int) ≤ 80 := by omega
        have HE := Aside0.mk (show fewB l = false from decide_eq_false (fun h => by omega))
        go_wp2
        go_ret
        exact ⟨by rw [HE.out]; rfl, by repeat (first | exact Drawn0.refl _ | apply Drawn0.step)⟩
    · have HE := Aside0.mk (show fewB l = decide ((l.length : Int) ≤ 80) by
        unfold fewB
        refine decide_eq_decide.2 ⟨fun h => by omega, fun h => ⟨by omega, fun s hs => ?_⟩⟩
        obtain ⟨j, hj, e⟩ := mem_getD hs
        rw [← e]
        exact HT.out j (by omega))
      go_wp2
      go_ret
      exact ⟨by rw [HE.out]; rfl, by repeat (first | exact Drawn0.refl _ | apply Drawn0.step)⟩
end Go.Proofs.Ytmbfjaogimkncaa
