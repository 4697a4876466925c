/- Package dec: times; no condition. -/
import Derived.Test.YteamldgngknmfaaZJLawArr
import Derived.Test.YteamldgngknmfaaZJShelf
import Derived.Laws.Externs
namespace Go.Proofs.Yteamldgngknmfaa
open Go.RowKit Go.Proofs.YteamldgngknmfaaW.PrintWords Go.Proofs.YteamldgngknmfaaW.PrintLast Go.Proofs.YteamldgngknmfaaW.PrintMore
set_option linter.unusedVariables false
set_option linter.unusedSimpArgs false
def dec_times.f (a0 : Int) (a1 : Int) : Option (Int × Bool) := if (0 ≤ a0 ∧ a0 < 18446744073709551616) ∧ (0 ≤ a1 ∧ a1 < 18446744073709551616) then some ((10 * a0 + a1) % 18446744073709551616, decide (10 * a0 + a1 < 18446744073709551616)) else none
theorem add64_run (x y : Int) (hx : 0 ≤ x) (hy : 0 ≤ y) (w : World) : Sem.run Try.prog (callFunc 92 #[.int .u64 x, .int .u64 y, .int .u64 0]) w = .ok (.value (.tuple #[.int .u64 ((x + y + 0) % 18446744073709551616), .int .u64 ((x + y + 0) / 18446744073709551616)])) w := by
  rw [run_callFunc_extern Try.func92 (by kernel_rfl) (by kernel_rfl) (by kernel_rfl) (e := add64Entry) (by kernel_rfl), run_add64 x y 0 hx hy (by omega) (by omega)]
  simp only [Result.andThen]
set_option maxHeartbeats 2000000 in
set_option maxRecDepth 100000 in
theorem times_calls (n d : Nat) (w : World) (hn : n < 18446744073709551616) (hd : d < 18446744073709551616) :
    Calls Try.prog 74 #[.int .u64 n, .int .u64 d] w fun e w' => e = .returned (.tuple #[.int .u64 ((10 * (n : Int) + d) % 18446744073709551616), .bool (decide (10 * (n : Int) + d < 18446744073709551616))]) ∧ ∃ nd, w' = w.drewN nd := by
  obtain ⟨hi, hhi⟩ : ∃ h : Int, ((n * 10 / 18446744073709551616 : Nat) : Int) = h := ⟨_, rfl⟩
  obtain ⟨lo, hlo⟩ : ∃ h : Int, ((n * 10 % 18446744073709551616 : Nat) : Int) = h := ⟨_, rfl⟩
  have HM : Aside0 (∀ w, Calls Try.prog 91 #[.int .u64 n, .int .u64 10] w fun e w' => e = .returned (.tuple #[.int .u64 hi, .int .u64 lo]) ∧ w' = w) := ⟨fun w => by rw [← hhi, ← hlo]; exact Try.bits_Mul64 n 10 hn (by decide) w⟩
  obtain ⟨s, hs⟩ : ∃ s : Int, (lo + (d : Int) + 0) % 18446744073709551616 = s := ⟨_, rfl⟩
  obtain ⟨c, hc⟩ : ∃ s : Int, (lo + (d : Int) + 0) / 18446744073709551616 = s := ⟨_, rfl⟩
  have hadd : ∀ w, Sem.run Try.prog (callFunc 92 #[.int .u64 lo, .int .u64 d, .int .u64 0]) w = .ok (.value (.tuple #[.int .u64 s, .int .u64 c])) w := fun w => by rw [← hs, ← hc]; exact add64_run lo d (by omega) (by omega) w
  have HS : Aside0 ((10 * (n : Int) + d) % 18446744073709551616 = s) := ⟨by omega⟩
  have HD : Aside0 (decide (10 * (n : Int) + d < 18446744073709551616) = (hi == 0 && (c == 0))) := ⟨by
    rw [Bool.eq_iff_iff, decide_eq_true_eq, Bool.and_eq_true, beq_iff_eq, beq_iff_eq]
    omega⟩
  rw [HS.out, HD.out]
  clear hhi hlo hs hc hn hd
  cases h1 : (hi == 0) with
  | false =>
    go_enter Try.func74, Try.ntmps74
    go_wp2_with fail
    refine (HM.out _).mono ?_
    rintro e w1 ⟨rfl, rfl⟩
    go_wp2
    go_ret2
    exact ⟨rfl, 0, rfl⟩
  | true =>
    go_enter Try.func74, Try.ntmps74
    go_wp2_with fail
    refine (HM.out _).mono ?_
    rintro e w1 ⟨rfl, rfl⟩
    go_wp2
    go_ret2
    exact ⟨rfl, 0, rfl⟩
theorem dec_times.calls (a0 a1 : Int) (r1 : Int) (r2 : Bool) (w : World) (h : dec_times.f a0 a1 = some (r1, r2)) : Calls Try.prog 74 #[.int .u64 a0, .int .u64 a1] w fun e w' => e = .returned (.tuple #[.int .u64 r1, .bool r2]) ∧ ∃ nd, w' = w.drewN nd := by
  unfold dec_times.f at h
  split at h
  · rename_i hq
    obtain ⟨n, rfl⟩ := Int.eq_ofNat_of_zero_le hq.1.1
    obtain ⟨d, rfl⟩ := Int.eq_ofNat_of_zero_le hq.2.1
    have h2 := Option.some.inj h
    have e1 : (10 * (n : Int) + d) % 18446744073709551616 = r1 := by rw [← (Prod.mk.inj h2).1]
    have e2 : decide (10 * (n : Int) + d < 18446744073709551616) = r2 := by rw [← (Prod.mk.inj h2).2]
    rw [← e1, ← e2]
    exact times_calls n d w (by omega) (by omega)
  · cases h
end Go.Proofs.Yteamldgngknmfaa
