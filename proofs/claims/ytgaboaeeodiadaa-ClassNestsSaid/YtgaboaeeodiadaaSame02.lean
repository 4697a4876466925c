/- The statements' own 'same' of two rows of bytes; no condition. -/
import Derived.Test.YtgaboaeeodiadaaPlVar
namespace Go.Proofs.Ytgaboaeeodiadaa
open Go.RowKit Go.Proofs.YtgaboaeeodiadaaW.PrintWords Go.Proofs.YtgaboaeeodiadaaW.PrintLast Go.Proofs.YtgaboaeeodiadaaW.PrintMore
set_option linter.unusedVariables false
theorem take_rd {l0 l1 : List Int} {i : Int} (hi : 0 ≤ i) (h0 : i < (l0.length : Int)) (h1 : i < (l1.length : Int)) (h : l0.take i.toNat = l1.take i.toNat) (hq : rd l0 i = rd l1 i) : l0.take (i + 1).toNat = l1.take (i + 1).toNat := by
  obtain ⟨n, rfl⟩ := Int.eq_ofNat_of_zero_le hi
  have e : ((n : Int) + 1).toNat = n + 1 := by omega
  rw [Int.toNat_natCast] at h
  have h0' : n < l0.length := by omega
  have h1' : n < l1.length := by omega
  rw [e, List.take_succ_eq_append_getElem h0', List.take_succ_eq_append_getElem h1', h]
  unfold rd at hq
  rw [Int.toNat_natCast, List.getD_eq_getElem?_getD, List.getD_eq_getElem?_getD, List.getElem?_eq_getElem h0', List.getElem?_eq_getElem h1'] at hq
  have hq' : l0[n] = l1[n] := hq
  rw [hq']
set_option maxHeartbeats 1000000 in
set_option maxRecDepth 100000 in
theorem same02_calls (A0 : Option Addr) (c0 : Nat) (l0 : List Int) (A1 : Option Addr) (c1 : Nat) (l1 : List Int) (w : World) (hr0 : (Kd.int .u8).C w A0 l0.length l0) (hr1 : (Kd.int .u8).C w A1 l1.length l1) :
    Calls Try.prog 32 #[.slice A0 l0.length c0, .slice A1 l1.length c1] w fun e w' => e = .returned (.bool (decide (l0 = l1))) ∧ Drawn0 w w' := by
  have HR0 := Aside0.mk hr0
  have HR1 := Aside0.mk hr1
  have hm0 : l0.length ≤ 9223372036854775807 := hr0.2.1
  clear hr0 hr1
  by_cases hlen : l0.length = l1.length
  · have hb : ((l0.length : Int) != (l1.length : Int)) = false := by simp [hlen]
    have hb2 : ((l0.length : Int) == (l1.length : Int)) = true := by simp [hlen]
    have HLE := Aside0.mk hlen
    have hle1 : l0.length ≤ l1.length := by omega
    have hle2 : l1.length ≤ l0.length := by omega
    clear hlen
    go_enter Try.func32, Try.ntmps32
    go_wp2
    repeat (go_quiet (fail); try go_wp2)
    go_loopw [5] (fun v5 w' => ∃ i : Int, v5 = .int .i64 i ∧ 0 ≤ i ∧ i ≤ (l0.length : Int) ∧ Aside0 (l0.take i.toNat = l1.take i.toNat) ∧ Drawn0 w w') (fun v5 _ => l0.length - (intOf v5).toNat)
    case atStart => exact ⟨0, rfl, by omega, by omega, ⟨by simp⟩, by repeat (first | exact Drawn0.refl _ | apply Drawn0.step)⟩
    case round =>
      obtain ⟨i, rfl, h0, hi, HT, ⟨m1, rfl⟩⟩ := hrel
      by_cases hlt : i < (l0.length : Int)
      · obtain ⟨ad0, e0, hx0⟩ := Kd.at_int HR0.out i h0 hlt
        cases e0
        have hlt1 : i < (l1.length : Int) := by omega
        obtain ⟨ad1, e1, hx1⟩ := Kd.at_int HR1.out i h0 hlt1
        cases e1
        by_cases hq : rd l0 i = rd l1 i
        · have hq1 : (rd l0 i == rd l1 i) = true := beq_iff_eq.mpr hq
          have hq2 : (rd l0 i != rd l1 i) = false := bne_eq_false_iff_eq.mpr hq
          have HQ := Aside0.mk (take_rd (i := i) h0 hlt hlt1 HT.out hq)
          clear hq
          go_wp2
          repeat (go_quiet (fail); try go_wp2)
          go_roundw
          case rel => exact ⟨i + 1, by go_num, by omega, by omega, HQ, by repeat (first | exact Drawn0.refl _ | apply Drawn0.step)⟩
          case measure => simp [intOf]; omega
        · have hq1 : (rd l0 i == rd l1 i) = false := beq_eq_false_iff_ne.mpr hq
          have hq2 : (rd l0 i != rd l1 i) = true := bne_iff_ne.mpr hq
          have HQ := Aside0.mk hq
          clear hq
          go_wp2
          repeat (go_quiet (fail); try go_wp2)
          go_ret
          exact ⟨by rw [decide_eq_false (fun e => HQ.out (by rw [e]))]; rfl, by repeat (first | exact Drawn0.refl _ | apply Drawn0.step)⟩
      · have HE := Aside0.mk (show l0 = l1 by
          have h := HT.out
          rw [List.take_of_length_le (by omega), List.take_of_length_le (by omega)] at h
          exact h)
        go_wp2
        repeat (go_quiet (fail); try go_wp2)
        go_ret
        exact ⟨by rw [decide_eq_true HE.out]; rfl, by repeat (first | exact Drawn0.refl _ | apply Drawn0.step)⟩
  · have hb : ((l0.length : Int) != (l1.length : Int)) = true := by simp; omega
    have hb2 : ((l0.length : Int) == (l1.length : Int)) = false := by simp; omega
    have HLE := Aside0.mk hlen
    clear hlen
    go_enter Try.func32, Try.ntmps32
    go_wp2
    repeat (go_quiet (fail); try go_wp2)
    go_ret
    exact ⟨by rw [decide_eq_false (fun e => HLE.out (by rw [e]))]; rfl, by repeat (first | exact Drawn0.refl _ | apply Drawn0.step)⟩
theorem same02_n (A0 : Option Addr) (n0 c0 : Nat) (l0 : List Int) (A1 : Option Addr) (n1 c1 : Nat) (l1 : List Int) (w : World) (hr0 : (Kd.int .u8).C w A0 n0 l0) (hr1 : (Kd.int .u8).C w A1 n1 l1) :
    Calls Try.prog 32 #[.slice A0 n0 c0, .slice A1 n1 c1] w fun e w' => e = .returned (.bool (decide (l0 = l1))) ∧ Drawn0 w w' := by
  obtain rfl := hr0.1
  obtain rfl := hr1.1
  exact same02_calls A0 c0 l0 A1 c1 l1 w hr0 hr1
end Go.Proofs.Ytgaboaeeodiadaa
