/- Plain laws of numbers as bytes: there and back, and how many; no program in sight; no condition. -/
import Derived.Test.YtclbmdblalgdjaaZMTimes
import Derived.Lib.BitFns
namespace Go.Proofs.Ytclbmdblalgdjaa
open Go.RowKit Go.Proofs.YtclbmdblalgdjaaW.PrintWords
theorem vrd_get (l : List Int) : ∀ i acc x j, (∀ y ∈ l, 0 ≤ y ∧ y < 256) → i ≤ 9 → acc < 128 ^ i → vrd l i acc = (x, j, 0) →
    ∃ m, x = acc + m * 128 ^ i ∧ i < j ∧ j ≤ i + l.length ∧ vput m = l.take (j - i) ∧ (0 < i → 0 < m) ∧ x < 18446744073709551616 := by
  induction l with
  | nil => intro i acc x j _ _ _ h; rw [vrd] at h; simp at h
  | cons b t ih =>
    intro i acc x j hb hi hacc h
    obtain ⟨hb0, hb1⟩ := hb b List.mem_cons_self
    rw [vrd] at h
    by_cases h9 : i = 9 ∧ 1 < b
    · rw [if_pos h9] at h; simp at h
    rw [if_neg h9] at h
    by_cases h128 : b < 128
    · rw [if_pos h128] at h
      by_cases hz : b = 0 ∧ 0 < i
      · rw [if_pos hz] at h; simp at h
      rw [if_neg hz] at h
      simp only [Prod.mk.injEq] at h
      obtain ⟨h1, h2, _⟩ := h
      have e : b.toNat % 128 = b.toNat := Nat.mod_eq_of_lt (by omega)
      rw [e] at h1
      refine ⟨b.toNat, h1.symm, by omega, by simp; omega, ?_, fun h => by omega, ?_⟩
      · rw [vput_lt (by omega), show j - i = 0 + 1 from by omega]
        simp
        omega
      · rw [← h1]
        rcases Nat.lt_or_ge i 9 with h8 | h8
        · have hx := vor_bound b.toNat hacc
          rw [e] at hx
          have h1 : 128 ^ (i + 1) ≤ 128 ^ 9 := Nat.pow_le_pow_right (by decide) (by omega)
          exact Nat.lt_of_lt_of_le hx (Nat.le_trans h1 (by decide))
        · have e9 : i = 9 := by omega
          subst e9
          have h3 : b.toNat * 128 ^ 9 ≤ 1 * 128 ^ 9 := Nat.mul_le_mul (by omega) (Nat.le_refl _)
          have h4 : acc + b.toNat * 128 ^ 9 < 128 ^ 9 + 1 * 128 ^ 9 := by omega
          exact Nat.lt_of_lt_of_le h4 (by decide)
    · rw [if_neg h128] at h
      have hi9 : i ≠ 9 := fun e => h9 ⟨e, by omega⟩
      obtain ⟨m, hx, hj1, hj2, hp, hm, hlt⟩ := ih (i + 1) _ x j (fun y hy => hb y (List.mem_cons_of_mem _ hy)) (by omega) (vor_bound b.toNat hacc) h
      have hm0 := hm (by omega)
      have ec : b.toNat % 128 = b.toNat - 128 := by omega
      refine ⟨m * 128 + b.toNat % 128, ?_, by omega, by simp; omega, ?_, fun _ => by omega, hlt⟩
      · rw [hx, Nat.pow_succ, Nat.add_mul, Nat.mul_comm (128 ^ i) 128, ← Nat.mul_assoc]
        omega
      · rw [vput_ge (by omega), show j - i = (j - (i + 1)) + 1 from by omega, List.take_succ_cons, ← hp]
        have e1 : (m * 128 + b.toNat % 128) / 128 = m := by omega
        have e2 : (m * 128 + b.toNat % 128) % 128 + 128 = b.toNat := by omega
        rw [e1, e2]
        congr 1
        omega
end Go.Proofs.Ytclbmdblalgdjaa
