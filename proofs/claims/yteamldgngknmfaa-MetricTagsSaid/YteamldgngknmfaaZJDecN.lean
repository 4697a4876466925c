/- The one form of a number: the plain laws; no condition. -/
import Derived.Test.YteamldgngknmfaaZJLawMetB
namespace Go.Proofs.Yteamldgngknmfaa
open Go.RowKit Go.Proofs.YteamldgngknmfaaW.PrintWords Go.Proofs.YteamldgngknmfaaW.PrintLast Go.Proofs.YteamldgngknmfaaW.PrintMore
set_option linter.unusedVariables false
set_option linter.unusedSimpArgs false
def strip : Nat → Nat → Int → Nat × Int
  | 0, c, e => (c, e)
  | k + 1, c, e => if c % 10 = 0 ∧ e < 18 then strip k (c / 10) (e + 1) else (c, e)
def lift (c : Nat) (e : Int) : Option (Nat × Int) := if e ≤ 18 then some (c, e) else if c * 10 ^ (e - 18).toNat < 18446744073709551616 then some (c * 10 ^ (e - 18).toNat, 18) else none
def decNorm (g : Bool) (c : Nat) (e : Int) : Option (Bool × Nat × Int) :=
  if c = 0 then some (false, 0, 0) else
    match lift (strip 20 c e).1 (strip 20 c e).2 with
    | none => none
    | some (c2, e2) => if e2 < -18 then none else some (g, c2, e2)
theorem strip_no (k c : Nat) (e : Int) (h : ¬ (c % 10 = 0 ∧ e < 18)) : strip k c e = (c, e) := by
  cases k with
  | zero => rfl
  | succ k => unfold strip; rw [if_neg h]
theorem strip_spec : ∀ (k c : Nat) (e : Int), 1 ≤ c → c < 10 ^ k → 1 ≤ (strip k c e).1 ∧ (strip k c e).1 ≤ c ∧ e ≤ (strip k c e).2 ∧ ¬ ((strip k c e).1 % 10 = 0 ∧ (strip k c e).2 < 18) ∧ (e ≤ 18 → (strip k c e).2 ≤ 18) ∧ (strip k c e).2 ≤ e + k
  | 0, c, e, h1, h2 => by simp at h2; omega
  | k + 1, c, e, h1, h2 => by
    unfold strip
    by_cases h : c % 10 = 0 ∧ e < 18
    · rw [if_pos h]
      have ih := strip_spec k (c / 10) (e + 1) (by omega) (by rw [Nat.pow_succ] at h2; omega)
      refine ⟨ih.1, by have := ih.2.1; omega, by have := ih.2.2.1; omega, ih.2.2.2.1, fun _ => ih.2.2.2.2.1 (by omega), ?_⟩
      have := ih.2.2.2.2.2
      omega
    · rw [if_neg h]
      exact ⟨h1, Nat.le_refl _, Int.le_refl _, h, fun h => h, by omega⟩
theorem decNorm_ok (g : Bool) (c : Nat) (e : Int) (hc : c < 18446744073709551616) {g2 : Bool} {c2 : Nat} {e2 : Int} (h : decNorm g c e = some (g2, c2, e2)) : decBad g2 (c2 : Int) e2 = 0 ∧ c2 < 18446744073709551616 := by
  unfold decNorm at h
  by_cases h0 : c = 0
  · rw [if_pos h0] at h
    injection h with h
    injection h with h1 h
    injection h with h2 h3
    subst h1 h2 h3
    exact ⟨rfl, by decide⟩
  · rw [if_neg h0] at h
    have hs := strip_spec 20 c e (by omega) (by omega)
    generalize (strip 20 c e).1 = c1 at h hs
    generalize (strip 20 c e).2 = e1 at h hs
    have fin : ∀ (x : Nat) (y : Int), lift c1 e1 = some (x, y) → 1 ≤ x ∧ x < 18446744073709551616 ∧ ¬ (x % 10 = 0 ∧ y < 18) ∧ y ≤ 18 := by
      intro x y hxy
      unfold lift at hxy
      by_cases he : e1 ≤ 18
      · rw [if_pos he] at hxy
        injection hxy with hxy
        injection hxy with h1 h2
        subst h1 h2
        exact ⟨hs.1, by omega, hs.2.2.2.1, he⟩
      · rw [if_neg he] at hxy
        by_cases hl : c1 * 10 ^ (e1 - 18).toNat < 18446744073709551616
        · rw [if_pos hl] at hxy
          injection hxy with hxy
          injection hxy with h1 h2
          subst h1 h2
          refine ⟨?_, hl, by omega, Int.le_refl _⟩
          exact Nat.mul_pos hs.1 (Nat.pow_pos (by decide))
        · rw [if_neg hl] at hxy; cases hxy
    cases hl : lift c1 e1 with
    | none => rw [hl] at h; cases h
    | some p =>
      obtain ⟨x, y⟩ := p
      rw [hl] at h
      have hf := fin x y hl
      have h' : (if y < -18 then none else some (g, x, y)) = some (g2, c2, e2) := h
      by_cases hy : y < -18
      · rw [if_pos hy] at h'; cases h'
      · rw [if_neg hy] at h'
        injection h' with h'
        injection h' with h1 h'
        injection h' with h2 h3
        subst h1 h2 h3
        refine ⟨?_, hf.2.1⟩
        unfold decBad
        rw [if_neg (by omega), if_neg (by omega), if_neg (by omega)]
theorem lift_step (c : Nat) (e : Int) (h : 18 < e) : lift c e = if 10 * c < 18446744073709551616 then lift (10 * c) (e - 1) else if c = 0 then lift c e else none := by
  by_cases h1 : 10 * c < 18446744073709551616
  · rw [if_pos h1]
    unfold lift
    rw [if_neg (by omega)]
    by_cases h2 : e - 1 ≤ 18
    · have e1 : (e - 18).toNat = 1 := by omega
      rw [if_pos h2, e1, Nat.pow_one, Nat.mul_comm, if_pos h1]
      congr 2
      omega
    · have e1 : (e - 18).toNat = (e - 1 - 18).toNat + 1 := by omega
      rw [if_neg h2, e1, Nat.pow_succ, show c * (10 ^ (e - 1 - 18).toNat * 10) = 10 * c * 10 ^ (e - 1 - 18).toNat by rw [Nat.mul_comm (10 ^ _) 10, ← Nat.mul_assoc, Nat.mul_comm c 10]]
  · rw [if_neg h1, if_neg (by omega)]
    unfold lift
    rw [if_neg (by omega), if_neg]
    have e1 : (e - 18).toNat = (e - 19).toNat + 1 := by omega
    rw [e1, Nat.pow_succ]
    have := Nat.pow_pos (a := 10) (n := (e - 19).toNat) (by decide)
    have h3 : c * 10 ≤ c * (10 ^ (e - 19).toNat * 10) := Nat.mul_le_mul_left _ (by omega)
    omega
end Go.Proofs.Yteamldgngknmfaa
