/- Plain laws of numbers as bytes: there and back, and how many; no program in sight; no condition. -/
import Derived.Test.YtmbfjaogimkncaaPlVar
import Derived.Lib.BitFns
namespace Go.Proofs.Ytmbfjaogimkncaa
open Go.RowKit Go.Proofs.YtmbfjaogimkncaaW.PrintWords

theorem vput_bitLen (n : Nat) : n < 18446744073709551616 → (vput n).length = max 1 ((Lib.bitLen n + 6) / 7) := by
  induction n using Nat.strongRecOn with
  | _ n ih =>
    intro h
    by_cases hl : n < 128
    · rw [vput_lt hl]
      have h7 : ∀ x : Fin 128, Lib.bitLen x.val ≤ 7 := by decide +kernel
      have := h7 ⟨n, hl⟩
      simp only at this
      simp only [List.length_singleton]
      omega
    · rw [vput_ge hl, List.length_cons, ih (n / 128) (by omega) (by omega), Lib.bitLen_shift 7 n (by omega) (by omega)]
      have h1 : Lib.bitLen (n / 128) = 1 + Lib.bitLen (n / 128 / 2) := Lib.bitLen_half _ (by omega) (by omega)
      have e : n / 2 ^ 7 = n / 128 := rfl
      rw [e]
      omega

theorem vput_last (n : Nat) : ∀ i : Nat, i < (vput n).length → (128 ≤ (vput n).getD i 0 ↔ i + 1 < (vput n).length) := by
  induction n using Nat.strongRecOn with
  | _ n ih =>
    intro i hi
    by_cases hl : n < 128
    · rw [vput_lt hl] at hi ⊢
      have : i = 0 := by simpa using hi
      subst this
      simp
      omega
    · rw [vput_ge hl] at hi ⊢
      cases i with
      | zero =>
        have := vput_len1 (n / 128)
        simp
        omega
      | succ i =>
        have := ih (n / 128) (by omega) i (by simpa using hi)
        simpa using this
theorem vput_bytes (n : Nat) : ∀ x ∈ vput n, 0 ≤ x ∧ x < 256 := by
  induction n using Nat.strongRecOn with
  | _ n ih =>
    intro x hx
    by_cases hl : n < 128
    · rw [vput_lt hl] at hx
      have : x = n := by simpa using hx
      omega
    · rw [vput_ge hl] at hx
      rcases List.mem_cons.1 hx with h | h
      · omega
      · exact ih _ (by omega) x h
theorem vput_mono (m : Nat) : ∀ n, n ≤ m → (vput n).length ≤ (vput m).length := by
  induction m using Nat.strongRecOn with
  | _ m ih =>
    intro n h
    by_cases hl : n < 128
    · rw [vput_lt hl]
      exact vput_len1 m
    · rw [vput_ge hl, vput_ge (show ¬ m < 128 by omega)]
      have := ih (m / 128) (by omega) (n / 128) (by omega)
      simpa using this
theorem vput_mul (n : Nat) (h : 0 < n) : (vput (n * 128)).length = (vput n).length + 1 := by
  rw [vput_ge (show ¬ n * 128 < 128 by omega), List.length_cons, Nat.mul_div_cancel _ (by decide)]

/-- What was put is read. -/
theorem vrd_put (b : List Int) (n : Nat) : ∀ i acc, n * 128 ^ i < 18446744073709551616 → (0 < i → 0 < n) → i ≤ 9 →
    vrd (vput n ++ b) i acc = (acc + n * 128 ^ i, i + (vput n).length, 0) := by
  induction n using Nat.strongRecOn with
  | _ n ih =>
    intro i acc h h0 hi
    by_cases hl : n < 128
    · rw [vput_lt hl]
      show vrd ((n : Int) :: b) i acc = _
      rw [vrd, if_neg, if_pos (by omega), if_neg]
      · rw [Int.toNat_natCast, Nat.mod_eq_of_lt hl]; rfl
      · intro hc; have := h0 hc.2; omega
      · intro hc
        obtain ⟨rfl, hc⟩ := hc
        have : 2 * 128 ^ 9 ≤ n * 128 ^ 9 := Nat.mul_le_mul (by omega) (Nat.le_refl _)
        have e : 2 * 128 ^ 9 = 18446744073709551616 := by decide
        omega
    · rw [vput_ge hl]
      have hi9 : i ≠ 9 := by
        rintro rfl
        have : 128 * 128 ^ 9 ≤ n * 128 ^ 9 := Nat.mul_le_mul (by omega) (Nat.le_refl _)
        have e : 18446744073709551616 ≤ 128 * 128 ^ 9 := by decide
        omega
      show vrd (((n % 128 + 128 : Nat) : Int) :: (vput (n / 128) ++ b)) i acc = _
      rw [vrd, if_neg (by omega), if_neg (by omega), Int.toNat_natCast]
      have e1 : (n % 128 + 128) % 128 = n % 128 := by omega
      have e2 : n / 128 * 128 ^ (i + 1) = n / 128 * 128 * 128 ^ i := by rw [Nat.pow_succ, Nat.mul_comm (128 ^ i) 128, ← Nat.mul_assoc]
      have e3 : n % 128 * 128 ^ i + n / 128 * 128 * 128 ^ i = n * 128 ^ i := by rw [← Nat.add_mul]; congr 1; omega
      rw [e1, ih (n / 128) (by omega) (i + 1) _ (by rw [e2]; omega) (fun _ => by omega) (by omega), e2]
      simp only [Prod.mk.injEq, List.length_cons]
      exact ⟨by omega, by omega, trivial⟩
/-- What was read is put as its bytes. -/
theorem vrd_get (l : List Int) : ∀ i acc x j, (∀ y ∈ l, 0 ≤ y ∧ y < 256) → i ≤ 9 → acc < 128 ^ i → vrd l i acc = (x, j, 0) →
    ∃ m, x = acc + m * 128 ^ i ∧ i < j ∧ j ≤ i + l.length ∧ vput m = l.take (j - i) ∧ (0 < i → 0 < m) ∧ x < 18446744073709551616 := by
  induction l with
  | nil => intro i acc x j _ _ _ h; rw [vrd] at h; simp at h
  | cons b t ih =>
    intro i acc x j hb hi hacc h
    obtain ⟨hb0, hb1⟩ := hb b List.mem_cons_self
    rw [vrd] at h
    by_cases h9 : i = 9 ∧ 1 < b
    · rw [if_pos h9] at h; simp at h
    rw [if_neg h9] at h
    by_cases h128 : b < 128
    · rw [if_pos h128] at h
      by_cases hz : b = 0 ∧ 0 < i
      · rw [if_pos hz] at h; simp at h
      rw [if_neg hz] at h
      simp only [Prod.mk.injEq] at h
      obtain ⟨h1, h2, _⟩ := h
      have e : b.toNat % 128 = b.toNat := Nat.mod_eq_of_lt (by omega)
      rw [e] at h1
      refine ⟨b.toNat, h1.symm, by omega, by simp; omega, ?_, fun h => by omega, ?_⟩
      · rw [vput_lt (by omega), show j - i = 0 + 1 from by omega]
        simp
        omega
      · rw [← h1]
        rcases Nat.lt_or_ge i 9 with h8 | h8
        · have hx := vor_bound b.toNat hacc
          rw [e] at hx
          have h1 : 128 ^ (i + 1) ≤ 128 ^ 9 := Nat.pow_le_pow_right (by decide) (by omega)
          exact Nat.lt_of_lt_of_le hx (Nat.le_trans h1 (by decide))
        · have e9 : i = 9 := by omega
          subst e9
          have h3 : b.toNat * 128 ^ 9 ≤ 1 * 128 ^ 9 := Nat.mul_le_mul (by omega) (Nat.le_refl _)
          have h4 : acc + b.toNat * 128 ^ 9 < 128 ^ 9 + 1 * 128 ^ 9 := by omega
          exact Nat.lt_of_lt_of_le h4 (by decide)
    · rw [if_neg h128] at h
      have hi9 : i ≠ 9 := fun e => h9 ⟨e, by omega⟩
      obtain ⟨m, hx, hj1, hj2, hp, hm, hlt⟩ := ih (i + 1) _ x j (fun y hy => hb y (List.mem_cons_of_mem _ hy)) (by omega) (vor_bound b.toNat hacc) h
      have hm0 := hm (by omega)
      have ec : b.toNat % 128 = b.toNat - 128 := by omega
      refine ⟨m * 128 + b.toNat % 128, ?_, by omega, by simp; omega, ?_, fun _ => by omega, hlt⟩
      · rw [hx, Nat.pow_succ, Nat.add_mul, Nat.mul_comm (128 ^ i) 128, ← Nat.mul_assoc]
        omega
      · rw [vput_ge (by omega), show j - i = (j - (i + 1)) + 1 from by omega, List.take_succ_cons, ← hp]
        have e1 : (m * 128 + b.toNat % 128) / 128 = m := by omega
        have e2 : (m * 128 + b.toNat % 128) % 128 + 128 = b.toNat := by omega
        rw [e1, e2]
        congr 1
        omega
theorem vget_put (b : List Int) (n : Nat) (h : n < 18446744073709551616) : vget (vput n ++ b) = (n, (vput n).length, 0) := by
  unfold vget
  rw [vrd_put b n 0 0 (by simpa using h) (by omega) (by omega)]
  simp
end Go.Proofs.Ytmbfjaogimkncaa
