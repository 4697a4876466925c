/- forebayref02.Get: what it tells; no condition. -/
import Derived.Test.YtmbfjaogimkncaaVarRefP
namespace Go.Proofs.Ytmbfjaogimkncaa
open Go.RowKit Go.Proofs.YtmbfjaogimkncaaW.PrintWords Go.Proofs.YtmbfjaogimkncaaW.PrintLast Go.Proofs.YtmbfjaogimkncaaW.PrintMore
set_option linter.unusedVariables false
set_option maxHeartbeats 2000000 in
set_option maxRecDepth 100000 in
theorem refget_calls (A : Option Addr) (c : Nat) (l : List Int) (w : World) (hC : (Kd.int .u8).C w A l.length l) (hl : ∀ x ∈ l, 0 ≤ x ∧ x < 256) :
    Calls Try.prog 84 #[.slice A l.length c] w fun e w' => e = .returned (.tuple #[.int .u64 ((vrd l 0 0).1 : Nat), .int .i64 ((vrd l 0 0).2.1 : Nat), .int .i64 (vrd l 0 0).2.2]) ∧ Drawn0 w w' := by
  have HR0 := Aside0.mk hC
  have HL := Aside0.mk hl
  have hm0 : l.length ≤ 9223372036854775807 := hC.2.1
  clear hC hl
  go_enter Try.func84, Try.ntmps84
  go_wp2
  go_loopw [5, 6, 7] (fun v5 v6 v7 w' => ∃ (i n p : Nat), v5 = .int .u64 n ∧ v6 = .int .u64 p ∧ v7 = .int .i64 i ∧ Aside0 (vrd (l.drop i) i n = vrd l 0 0) ∧ i ≤ l.length ∧ Aside0 (n < 128^i) ∧ Aside0 (p = 128 ^ i) ∧ i ≤ 9 ∧ Drawn0 w w') (fun _ _ v7 _ => l.length - (intOf v7).toNat)
  case atStart => exact ⟨0, 0, 1, rfl, rfl, rfl, ⟨rfl⟩, Nat.zero_le _, ⟨by decide⟩, ⟨rfl⟩, by omega, by repeat (first | exact Drawn0.refl _ | apply Drawn0.step)⟩
  case round =>
    obtain ⟨i, n, p, rfl, rfl, rfl, HD, hi, HN, HP, hi9, ⟨m1, rfl⟩⟩ := hrel
    by_cases hlt : i < l.length
    · obtain ⟨b, hbe⟩ : ∃ b : Int, b = l.getD i 0 := ⟨_, rfl⟩
      obtain ⟨hb0, hb1⟩ : 0 ≤ b ∧ b < 256 := by
        rw [hbe, List.getD_eq_getElem?_getD, List.getElem?_eq_getElem hlt]
        exact HL.out _ (List.getElem_mem hlt)
      have HV := Aside0.mk (vrd_at (n := n) hlt hbe)
      obtain ⟨ad, e, hx⟩ := Kd.at_int HR0.out (i : Int) (by omega) (by omega)
      cases e
      rw [← getD_rd, ← hbe, Int.toNat_natCast] at hx
      clear hbe
      by_cases h9 : i = 9 ∧ 1 < b
      · have hd : vrd l 0 0 = (0, i + 1, 10) := by rw [← HD.out, HV.out, if_pos h9]
        have HD2 := Aside0.mk hd
        clear hd HD HV
        obtain ⟨h9, hb9⟩ := h9
        have h9b : ((i : Int) == 9) = true := by simp; omega
        have H9 := Aside0.mk h9
        clear h9
        go_wp2
        repeat (go_quiet (fail); try go_wp2)
        go_ret3
        exact ⟨by rw [HD2.out]; rfl, by repeat (first | exact Drawn0.refl _ | apply Drawn0.step)⟩
      · have hd : vrd l 0 0 = (if b < 128 then (if b = 0 ∧ 0 < i then (0, i + 1, 21) else (n + b.toNat % 128 * 128 ^ i, i + 1, 0)) else vrd (l.drop (i + 1)) (i + 1) (n + b.toNat % 128 * 128 ^ i)) := by rw [← HD.out, HV.out, if_neg h9]
        have HVS := Aside0.mk (vref_step (p := p) HN.out HP.out hi9 hb0 hb1 (fun e => by omega))
        have HVB := Aside0.mk (vor_bound b.toNat HN.out)
        have HD2 := Aside0.mk hd
        clear hd HD HV
        have H9 := Aside0.mk h9
        clear h9
        have hi10 : ((i : Int) == 9) = true ∧ ¬ 1 < b ∨ ((i : Int) == 9) = false := by
          by_cases e : i = 9
          · exact .inl ⟨by simp; omega, fun h => H9.out ⟨e, h⟩⟩
          · exact .inr (by simp; omega)
        by_cases h128 : b < 128
        · have hd : vrd l 0 0 = (if b = 0 ∧ 0 < i then (0, i + 1, 21) else (n + b.toNat % 128 * 128 ^ i, i + 1, 0)) := by rw [HD2.out, if_pos h128]
          have HD3 := Aside0.mk hd
          clear hd HD2
          by_cases hz : b = 0 ∧ 0 < i
          · have hd : vrd l 0 0 = (0, i + 1, 21) := by rw [HD3.out, if_pos hz]
            have HD4 := Aside0.mk hd
            clear hd HD3
            obtain ⟨hz1, hz2⟩ := hz
            have hz3 : (b == 0) = true := by simp [hz1]
            have HZ := Aside0.mk hz1
            clear hz1
            rcases hi10 with ⟨hi10, hb2⟩ | hi10
            all_goals
              go_wp2
              repeat (go_quiet (fail); try go_wp2)
              go_ret3
              exact ⟨by rw [HD4.out]; rfl, by repeat (first | exact Drawn0.refl _ | apply Drawn0.step)⟩
          · have hd : vrd l 0 0 = (n + b.toNat % 128 * 128 ^ i, i + 1, 0) := by rw [HD3.out, if_neg hz]
            have HD4 := Aside0.mk hd
            clear hd HD3
            have hz3 : (b == 0) = true ∧ ¬ 0 < (i : Int) ∨ (b == 0) = false := by
              by_cases e : b = 0
              · exact .inl ⟨by simp [e], fun h => hz ⟨e, by omega⟩⟩
              · exact .inr (by simp [e])
            have HZ := Aside0.mk hz
            clear hz
            rcases hi10 with ⟨hi10, hb2⟩ | hi10
            all_goals rcases hz3 with ⟨hz3, hz4⟩ | hz3
            all_goals
              go_wp2
              repeat (go_quiet (fail); try go_wp2)
              go_ret3
              exact ⟨by rw [HD4.out, HVS.out]; rfl, by repeat (first | exact Drawn0.refl _ | apply Drawn0.step)⟩
        · have hd : vrd l 0 0 = vrd (l.drop (i + 1)) (i + 1) (n + b.toNat % 128 * 128 ^ i) := by rw [HD2.out, if_neg h128]
          have HD3 := Aside0.mk hd
          clear hd HD2
          have h9 : i < 9 := by
            by_cases e : i = 9
            · exact absurd ⟨e, by omega⟩ H9.out
            · omega
          have HPS := Aside0.mk (vref_pow HP.out h9)
          have h9b : ((i : Int) == 9) = false := by simp; omega
          clear hi10
          go_wp2
          repeat (go_quiet (fail); try go_wp2)
          go_roundw
          case rel => exact ⟨i + 1, n + b.toNat % 128 * 128 ^ i, 128 ^ (i + 1), by rw [← HVS.out], by rw [← HPS.out], by go_num, ⟨HD3.out.symm⟩, by omega, ⟨HVB.out⟩, ⟨rfl⟩, by omega, by repeat (first | exact Drawn0.refl _ | apply Drawn0.step)⟩
          case measure => simp [intOf]; omega
    · have hd : vrd l 0 0 = (0, i, 13) := by rw [← HD.out, vrd_end l i n (by omega)]
      have HD2 := Aside0.mk hd
      clear hd HD
      have he : l.length = i := by omega
      have HE := Aside0.mk he
      clear he
      go_wp2
      repeat (go_quiet (fail); try go_wp2)
      go_ret3
      exact ⟨by rw [HD2.out, ← HE.out]; rfl, by repeat (first | exact Drawn0.refl _ | apply Drawn0.step)⟩
theorem refget_n (A : Option Addr) (n c : Nat) (l : List Int) (w : World) (hC : (Kd.int .u8).C w A n l) (hl : ∀ x ∈ l, 0 ≤ x ∧ x < 256) :
    Calls Try.prog 84 #[.slice A n c] w fun e w' => e = .returned (.tuple #[.int .u64 ((vrd l 0 0).1 : Nat), .int .i64 ((vrd l 0 0).2.1 : Nat), .int .i64 (vrd l 0 0).2.2]) ∧ Drawn0 w w' := by
  obtain rfl := hC.1
  exact refget_calls A c l w hC hl
end Go.Proofs.Ytmbfjaogimkncaa
