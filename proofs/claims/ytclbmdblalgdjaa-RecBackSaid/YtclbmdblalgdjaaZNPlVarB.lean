/- Plain laws of numbers as bytes: there and back, and how many; no program in sight; no condition. -/
import Derived.Test.YtclbmdblalgdjaaZNInjV
import Derived.Lib.BitFns
namespace Go.Proofs.Ytclbmdblalgdjaa
open Go.RowKit Go.Proofs.YtclbmdblalgdjaaW.PrintWords
theorem vput_bytes (n : Nat) : ∀ x ∈ vput n, 0 ≤ x ∧ x < 256 := by
  induction n using Nat.strongRecOn with
  | _ n ih =>
    intro x hx
    by_cases hl : n < 128
    · rw [vput_lt hl] at hx
      have : x = n := by simpa using hx
      omega
    · rw [vput_ge hl] at hx
      rcases List.mem_cons.1 hx with h | h
      · omega
      · exact ih _ (by omega) x h
theorem vrd_put (b : List Int) (n : Nat) : ∀ i acc, n * 128 ^ i < 18446744073709551616 → (0 < i → 0 < n) → i ≤ 9 →
    vrd (vput n ++ b) i acc = (acc + n * 128 ^ i, i + (vput n).length, 0) := by
  induction n using Nat.strongRecOn with
  | _ n ih =>
    intro i acc h h0 hi
    by_cases hl : n < 128
    · rw [vput_lt hl]
      show vrd ((n : Int) :: b) i acc = _
      rw [vrd, if_neg, if_pos (by omega), if_neg]
      · rw [Int.toNat_natCast, Nat.mod_eq_of_lt hl]; rfl
      · intro hc; have := h0 hc.2; omega
      · intro hc
        obtain ⟨rfl, hc⟩ := hc
        have : 2 * 128 ^ 9 ≤ n * 128 ^ 9 := Nat.mul_le_mul (by omega) (Nat.le_refl _)
        have e : 2 * 128 ^ 9 = 18446744073709551616 := by decide
        omega
    · rw [vput_ge hl]
      have hi9 : i ≠ 9 := by
        rintro rfl
        have : 128 * 128 ^ 9 ≤ n * 128 ^ 9 := Nat.mul_le_mul (by omega) (Nat.le_refl _)
        have e : 18446744073709551616 ≤ 128 * 128 ^ 9 := by decide
        omega
      show vrd (((n % 128 + 128 : Nat) : Int) :: (vput (n / 128) ++ b)) i acc = _
      rw [vrd, if_neg (by omega), if_neg (by omega), Int.toNat_natCast]
      have e1 : (n % 128 + 128) % 128 = n % 128 := by omega
      have e2 : n / 128 * 128 ^ (i + 1) = n / 128 * 128 * 128 ^ i := by rw [Nat.pow_succ, Nat.mul_comm (128 ^ i) 128, ← Nat.mul_assoc]
      have e3 : n % 128 * 128 ^ i + n / 128 * 128 * 128 ^ i = n * 128 ^ i := by rw [← Nat.add_mul]; congr 1; omega
      rw [e1, ih (n / 128) (by omega) (i + 1) _ (by rw [e2]; omega) (fun _ => by omega) (by omega), e2]
      simp only [Prod.mk.injEq, List.length_cons]
      exact ⟨by omega, by omega, trivial⟩
end Go.Proofs.Ytclbmdblalgdjaa
