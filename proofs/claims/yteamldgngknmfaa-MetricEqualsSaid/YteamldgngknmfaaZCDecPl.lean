/- Digits of a number: how many, their order, their value; plain; no condition. -/
import Derived.Test.YteamldgngknmfaaZCBase
namespace Go.Proofs.Yteamldgngknmfaa
open Go.Op
def dg (n : Nat) : List UInt8 := if h : n < 10 then [UInt8.ofNat (48 + n)] else dg (n / 10) ++ [UInt8.ofNat (48 + n % 10)]
termination_by n
decreasing_by omega
theorem dg_small {n : Nat} (h : n < 10) : dg n = [UInt8.ofNat (48 + n)] := by
  rw [dg, dif_pos h]
theorem dg_big {n : Nat} (h : 10 ≤ n) : dg n = dg (n / 10) ++ [UInt8.ofNat (48 + n % 10)] := by
  rw [dg, dif_neg (by omega)]
theorem dg_pos (n : Nat) : 0 < (dg n).length := by
  by_cases h : n < 10
  · rw [dg_small h]; simp
  · rw [dg_big (by omega)]; simp
theorem dg_len : ∀ (k n : Nat), n < 10 ^ (k + 1) → (dg n).length ≤ k + 1
  | 0, n, h => by rw [dg_small (by omega)]; simp
  | k + 1, n, h => by
    by_cases h1 : n < 10
    · rw [dg_small h1]; simp
    · rw [dg_big (by omega)]
      have := dg_len k (n / 10) (by rw [Nat.pow_succ] at h; omega)
      simp
      omega
theorem bytesLess_app : ∀ (x y u v : List UInt8), x.length = y.length → bytesLess x y = true → bytesLess (x ++ u) (y ++ v) = true
  | [], [], _, _, _, h => by simp [bytesLess] at h
  | a :: x, b :: y, u, v, hl, h => by
    simp only [bytesLess, List.cons_append, Bool.or_eq_true, Bool.and_eq_true] at h ⊢
    rcases h with h | ⟨h1, h2⟩
    · exact .inl h
    · exact .inr ⟨h1, bytesLess_app x y u v (by simpa using hl) h2⟩
theorem bytesLess_same : ∀ (x u v : List UInt8), bytesLess (x ++ u) (x ++ v) = bytesLess u v
  | [], _, _ => rfl
  | a :: x, u, v => by
    simp only [bytesLess, List.cons_append]
    rw [bytesLess_same x u v]
    simp
theorem dg_lt : ∀ (k a b : Nat), a ≤ k → a < b → (dg a).length = (dg b).length → bytesLess (dg a) (dg b) = true
  | 0, a, b, hk, hl, hlen => by
    obtain rfl : a = 0 := by omega
    by_cases hb : b < 10
    · rw [dg_small (by omega), dg_small hb]
      simp only [bytesLess, Bool.or_eq_true, decide_eq_true_eq]
      left
      rw [UInt8.lt_iff_toNat_lt]
      simp
      omega
    · rw [dg_small (by omega), dg_big (by omega)] at hlen
      have := dg_pos (b / 10)
      simp only [List.length_append, List.length_singleton] at hlen
      omega
  | k + 1, a, b, hk, hl, hlen => by
    by_cases ha : a < 10
    · by_cases hb : b < 10
      · rw [dg_small ha, dg_small hb]
        simp only [bytesLess, Bool.or_eq_true, decide_eq_true_eq]
        left
        rw [UInt8.lt_iff_toNat_lt]
        simp
        omega
      · rw [dg_small ha, dg_big (by omega)] at hlen
        have := dg_pos (b / 10)
        simp only [List.length_append, List.length_singleton] at hlen
        omega
    · rw [dg_big (by omega), dg_big (show 10 ≤ b by omega)] at hlen ⊢
      have hlen' : (dg (a / 10)).length = (dg (b / 10)).length := by simpa using hlen
      by_cases he : a / 10 = b / 10
      · rw [he, bytesLess_same]
        simp only [bytesLess, Bool.or_eq_true, decide_eq_true_eq]
        left
        rw [UInt8.lt_iff_toNat_lt]
        simp
        omega
      · exact bytesLess_app _ _ _ _ hlen' (dg_lt k (a / 10) (b / 10) (by omega) (by omega) hlen')
theorem dg_head : ∀ (k n : Nat), n ≤ k → 1 ≤ n → ∀ x, (dg n)[0]? = some x → x.toNat ≠ 48
  | 0, n, hk, h1, _, _ => by omega
  | k + 1, n, hk, h1, x, hx => by
    by_cases h : n < 10
    · rw [dg_small h] at hx
      simp at hx
      rw [← hx]
      simp
      omega
    · rw [dg_big (by omega), List.getElem?_append_left (dg_pos _)] at hx
      exact dg_head k (n / 10) (by omega) (by omega) x hx
def dval (l : List UInt8) : Nat := l.foldl (fun a x => 10 * a + (x.toNat - 48)) 0
theorem dval_app (l : List UInt8) (x : UInt8) : dval (l ++ [x]) = 10 * dval l + (x.toNat - 48) := by
  unfold dval
  rw [List.foldl_append]
  rfl
theorem dval_dg : ∀ (k n : Nat), n ≤ k → dval (dg n) = n
  | 0, n, hk => by
    obtain rfl : n = 0 := by omega
    rw [dg_small (by omega)]
    decide
  | k + 1, n, hk => by
    by_cases h : n < 10
    · rw [dg_small h]
      simp [dval]
      omega
    · rw [dg_big (by omega), dval_app, dval_dg k (n / 10) (by omega)]
      simp
      omega
theorem dg_digit : ∀ (k n : Nat), n ≤ k → ∀ x ∈ dg n, 48 ≤ x.toNat ∧ x.toNat ≤ 57
  | 0, n, hk, x, hx => by
    obtain rfl : n = 0 := by omega
    rw [dg_small (by omega)] at hx
    simp at hx
    subst hx
    decide
  | k + 1, n, hk, x, hx => by
    by_cases h : n < 10
    · rw [dg_small h] at hx
      simp at hx
      subst hx
      simp
      omega
    · rw [dg_big (by omega)] at hx
      rcases List.mem_append.1 hx with hx | hx
      · exact dg_digit k (n / 10) (by omega) x hx
      · simp at hx
        subst hx
        simp
        omega
theorem dg_last (n : Nat) : ∃ l, dg n = l ++ [UInt8.ofNat (48 + n % 10)] := by
  by_cases h : n < 10
  · exact ⟨[], by rw [dg_small h, Nat.mod_eq_of_lt h]; rfl⟩
  · exact ⟨_, dg_big (by omega)⟩
theorem dg_mono : ∀ (k a b : Nat), a ≤ k → a ≤ b → (dg a).length ≤ (dg b).length
  | 0, a, b, hk, hl => by
    rw [dg_small (by omega)]
    exact dg_pos b
  | k + 1, a, b, hk, hl => by
    by_cases ha : a < 10
    · rw [dg_small ha]
      exact dg_pos b
    · rw [dg_big (by omega), dg_big (show 10 ≤ b by omega)]
      have := dg_mono k (a / 10) (b / 10) (by omega) (by omega)
      simp
      omega
theorem dg_fits (n : Nat) (h : n < 18446744073709551616) : (dg n).length < 20 ∨ ((dg n).length = 20 ∧ (bytesLess (dg n) (dg 18446744073709551615) || dg n == dg 18446744073709551615) = true) := by
  have hl := dg_len 19 n (by omega)
  by_cases h1 : (dg n).length < 20
  · exact .inl h1
  · right
    have h2 : (dg n).length = 20 := by omega
    refine ⟨h2, ?_⟩
    by_cases he : n = 18446744073709551615
    · rw [he]; simp
    · have hm := dg_len 19 18446744073709551615 (by omega)
      have hn : (dg n).length ≤ (dg 18446744073709551615).length := dg_mono n n 18446744073709551615 (Nat.le_refl _) (by omega)
      rw [dg_lt n n 18446744073709551615 (Nat.le_refl _) (by omega) (by omega)]
      rfl
end Go.Proofs.Yteamldgngknmfaa
