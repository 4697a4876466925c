/- Plain laws of rows of numbers as bytes, read one by one; no program in sight; no condition. -/
import Derived.Test.YtmbfjaogimkncaaPlVarB
import Derived.Test.YtmbfjaogimkncaaCurNil
namespace Go.Proofs.Ytmbfjaogimkncaa
open Go.RowKit Go.Proofs.YtmbfjaogimkncaaW.PrintWords
theorem vrd_prefix (n : Nat) : ∀ i acc j, n * 128 ^ i < 18446744073709551616 → (0 < i → 0 < n) → i ≤ 9 → j < (vput n).length → vrd ((vput n).take j) i acc = (0, i + j, 13) := by
  induction n using Nat.strongRecOn with
  | _ n ih =>
    intro i acc j h h0 hi hj
    by_cases hl : n < 128
    · rw [vput_lt hl] at hj ⊢
      have : j = 0 := by simpa using hj
      subst this
      rw [List.take_zero, vrd]; rfl
    · rw [vput_ge hl] at hj ⊢
      have hi9 : i ≠ 9 := by
        rintro rfl
        have : 128 * 128 ^ 9 ≤ n * 128 ^ 9 := Nat.mul_le_mul (by omega) (Nat.le_refl _)
        have e : 18446744073709551616 ≤ 128 * 128 ^ 9 := by decide
        omega
      cases j with
      | zero => rw [List.take_zero, vrd]; rfl
      | succ j =>
        rw [List.take_succ_cons, vrd, if_neg (by omega), if_neg (by omega), Int.toNat_natCast]
        have e2 : n / 128 * 128 ^ (i + 1) = n / 128 * 128 * 128 ^ i := by rw [Nat.pow_succ, Nat.mul_comm (128 ^ i) 128, ← Nat.mul_assoc]
        have e3 : n % 128 * 128 ^ i + n / 128 * 128 * 128 ^ i = n * 128 ^ i := by rw [← Nat.add_mul]; congr 1; omega
        rw [ih (n / 128) (by omega) (i + 1) _ j (by rw [e2]; omega) (fun _ => by omega) (by omega) (by simpa using hj)]
        simp only [Prod.mk.injEq]
        exact ⟨trivial, by omega, trivial⟩
theorem vread_put {A : Option Addr} {c p x : Nat} {b rest : List Int} (hd : b.drop p = vput x ++ rest) (hx : x < 18446744073709551616) :
    (Cu.mk A c b p 0 0 false).vread = (x, ⟨A, c, b, p + (vput x).length, 0, 0, false⟩) := by
  have hf : (Cu.mk A c b p 0 0 false).fine = true := rfl
  unfold Cu.vread
  rw [if_neg (by rw [hf]; simp)]
  simp only
  rw [hd, vrd_put rest x 0 0 (by simpa using hx) (by omega) (by omega), if_pos rfl]
  simp [Cu.adv]
theorem vread_short {A : Option Addr} {c p x j : Nat} {b : List Int} (hp : p ≤ b.length) (hd : b.drop p = (vput x).take j) (hj : j < (vput x).length) (hx : x < 18446744073709551616) :
    (Cu.mk A c b p 0 0 false).vread = (0, ⟨A, c, b, b.length, 13, b.length, false⟩) := by
  have hf : (Cu.mk A c b p 0 0 false).fine = true := rfl
  unfold Cu.vread
  rw [if_neg (by rw [hf]; simp)]
  simp only
  rw [hd, vrd_prefix x 0 0 j (by simpa using hx) (by omega) (by omega) hj, if_neg (by simp), if_pos (by simp)]
  unfold Cu.fail
  rw [if_pos ⟨rfl, by decide⟩]
  simp [Cu.adv]
  omega
/-- Numbers' bytes, one behind the other. -/
def rowB (l : List Int) : List Int := l.flatMap fun x => vput x.toNat
theorem rowB_append (a b : List Int) : rowB (a ++ b) = rowB a ++ rowB b := by simp [rowB]
theorem rowB_snoc {l : List Int} {i : Nat} (h : i < l.length) : rowB (l.take (i + 1)) = rowB (l.take i) ++ vput (rd l (i : Int)).toNat := by
  rw [List.take_succ_eq_append_getElem h, rowB_append]
  congr 1
  unfold rd
  rw [Int.toNat_natCast, List.getD_eq_getElem?_getD, List.getElem?_eq_getElem h]
  simp [rowB]
theorem rowB_drop {l : List Int} {i : Nat} (h : i < l.length) : (rowB l).drop (rowB (l.take i)).length = vput (rd l (i : Int)).toNat ++ rowB (l.drop (i + 1)) := by
  have e : rowB l = rowB (l.take i) ++ (vput (rd l (i : Int)).toNat ++ rowB (l.drop (i + 1))) := by
    rw [← List.append_assoc, ← rowB_snoc h, ← rowB_append, List.take_append_drop]
  rw [e, List.drop_left]
theorem rowB_len (l : List Int) (h : ∀ x ∈ l, x ≤ 18446744073709551615) : (rowB l).length ≤ 10 * l.length := by
  induction l with
  | nil => simp [rowB]
  | cons x t ih =>
    have h1 := ih (fun y hy => h y (List.mem_cons_of_mem _ hy))
    have h2 := h x List.mem_cons_self
    have h3 := vput_len10 x.toNat (by omega)
    have e : rowB (x :: t) = vput x.toNat ++ rowB t := by simp [rowB]
    rw [e, List.length_append, List.length_cons]
    omega
theorem rowB_bytes (l : List Int) : ∀ x ∈ rowB l, 0 ≤ x ∧ x < 256 := by
  intro x hx
  obtain ⟨y, _, hy⟩ := List.mem_flatMap.1 hx
  exact vput_bytes _ x hy
theorem rowB_all (l : List Int) (i : Nat) (h : l.length ≤ i) : rowB (l.take i) = rowB l := by rw [List.take_of_length_le h]
/-- The cut row, ahead of its last number. -/
theorem rowB_cut {l : List Int} {i away : Nat} (h : i + 1 < l.length) (ha : away ≤ (vput (rd l ((l.length - 1 : Nat) : Int)).toNat).length) :
    ∃ rest, ((rowB l).take ((rowB l).length - away)).drop (rowB (l.take i)).length = vput (rd l (i : Int)).toNat ++ rest := by
  have e1 := rowB_drop (l := l) (i := i) (by omega)
  have e2 := rowB_snoc (l := l) (i := l.length - 1) (by omega)
  rw [show l.length - 1 + 1 = l.length from by omega, List.take_length] at e2
  have e3 : (rowB (l.take (i + 1))).length ≤ (rowB (l.take (l.length - 1))).length := by
    have e4 : l.take (l.length - 1) = l.take (i + 1) ++ (l.take (l.length - 1)).drop (i + 1) := by
      conv => lhs; rw [← List.take_append_drop (i + 1) (l.take (l.length - 1))]
      rw [List.take_take, Nat.min_eq_left (by omega)]
    rw [e4, rowB_append, List.length_append]
    omega
  have e5 := congrArg List.length e2
  rw [List.length_append] at e5
  have e6 := rowB_snoc (l := l) (i := i) (by omega)
  have e7 := congrArg List.length e6
  rw [List.length_append] at e7
  rw [List.drop_take, e1, List.take_append, List.take_of_length_le (l := vput (rd l (i : Int)).toNat) (by omega)]
  exact ⟨_, rfl⟩
theorem rowB_last {l : List Int} {away : Nat} (h : 0 < l.length) (ha : away ≤ (vput (rd l ((l.length - 1 : Nat) : Int)).toNat).length) :
    ((rowB l).take ((rowB l).length - away)).drop (rowB (l.take (l.length - 1))).length = (vput (rd l ((l.length - 1 : Nat) : Int)).toNat).take ((vput (rd l ((l.length - 1 : Nat) : Int)).toNat).length - away) := by
  have e1 := rowB_drop (l := l) (i := l.length - 1) (by omega)
  rw [show l.length - 1 + 1 = l.length from by omega, List.drop_length] at e1
  have e2 := rowB_snoc (l := l) (i := l.length - 1) (by omega)
  rw [show l.length - 1 + 1 = l.length from by omega, List.take_length] at e2
  have e5 := congrArg List.length e2
  rw [List.length_append] at e5
  have e0 : rowB [] = [] := rfl
  rw [List.drop_take, e1, e0, List.append_nil]
  congr 1
  omega
theorem rd_bd {l : List Int} (h : ∀ x ∈ l, 0 ≤ x ∧ x ≤ 18446744073709551615) (i : Int) (h0 : 0 ≤ i) (hi : i < (l.length : Int)) : 0 ≤ rd l i ∧ rd l i ≤ 18446744073709551615 := by
  unfold rd
  rw [List.getD_eq_getElem?_getD, List.getElem?_eq_getElem (by omega)]
  exact h _ (List.getElem_mem _)
end Go.Proofs.Ytmbfjaogimkncaa
