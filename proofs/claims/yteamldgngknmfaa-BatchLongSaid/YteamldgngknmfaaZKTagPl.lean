/- Tags in order, each once: the plain laws; no condition. -/
import Derived.Test.YteamldgngknmfaaZKPEx0
namespace Go.Proofs.Yteamldgngknmfaa
open Go.RowKit Go.Proofs.YteamldgngknmfaaW.PrintWords Go.Proofs.YteamldgngknmfaaW.PrintLast Go.Proofs.YteamldgngknmfaaW.PrintMore Go.Proofs.Yteamldgngknmfaa.PE
set_option linter.unusedVariables false
set_option linter.unusedSimpArgs false
theorem by_irr : ∀ a : List UInt8, Op.bytesLess a a = false
  | [] => rfl
  | a :: x => by
    have := by_irr x
    simp [Op.bytesLess, this]
theorem by_trans : ∀ a b c : List UInt8, Op.bytesLess a b = true → Op.bytesLess b c = true → Op.bytesLess a c = true
  | _, [], _, h, _ => by simp [Op.bytesLess] at h
  | _, _ :: _, [], _, h => by simp [Op.bytesLess] at h
  | [], _ :: _, _ :: _, _, _ => rfl
  | a :: x, b :: y, c :: z, h1, h2 => by
    have ih := by_trans x y z
    simp only [Op.bytesLess, Bool.or_eq_true, Bool.and_eq_true, decide_eq_true_eq, beq_iff_eq, UInt8.lt_iff_toNat_lt] at h1 h2 ⊢
    rcases h1 with h1 | ⟨rfl, h1⟩
    · rcases h2 with h2 | ⟨rfl, h2⟩
      · exact .inl (by omega)
      · exact .inl h1
    · rcases h2 with h2 | ⟨rfl, h2⟩
      · exact .inl h2
      · exact .inr ⟨rfl, ih h1 h2⟩
theorem by_tri : ∀ a b : List UInt8, Op.bytesLess a b = false → Op.bytesLess b a = false → a = b
  | [], [], _, _ => rfl
  | [], _ :: _, h, _ => by simp [Op.bytesLess] at h
  | _ :: _, [], _, h => by simp [Op.bytesLess] at h
  | a :: x, b :: y, h1, h2 => by
    have ih := by_tri x y
    simp only [Op.bytesLess, Bool.or_eq_false_iff, Bool.and_eq_false_iff, decide_eq_false_iff_not, UInt8.lt_iff_toNat_lt, beq_eq_false_iff_ne] at h1 h2
    have e : a = b := UInt8.toNat_inj.1 (by omega)
    subst e
    rcases h1.2 with h | h
    · exact absurd rfl h
    · rcases h2.2 with h' | h'
      · exact absurd rfl h'
      · rw [ih h h']
def sLt (a b : ByteArray) : Bool := Op.bytesLess a.toList b.toList
def sEq (a b : ByteArray) : Bool := a.toList == b.toList
theorem ba_ext {a b : ByteArray} (h : a.toList = b.toList) : a = b := by
  rw [ByteArray.toList_eq, ByteArray.toList_eq] at h
  cases a; cases b
  simp only [ByteArray.mk.injEq]
  exact Array.toList_inj.mp h
theorem sEq_iff {a b : ByteArray} : sEq a b = true ↔ a = b := by
  unfold sEq
  rw [beq_iff_eq]
  exact ⟨ba_ext, fun h => by rw [h]⟩
theorem sLt_irr (a : ByteArray) : sLt a a = false := by_irr _
theorem sLt_trans {a b c : ByteArray} (h1 : sLt a b = true) (h2 : sLt b c = true) : sLt a c = true := by_trans _ _ _ h1 h2
theorem sLt_tri {a b : ByteArray} (h1 : sLt a b = false) (h2 : sLt b a = false) : a = b := ba_ext (by_tri _ _ h1 h2)
def tLt (x y : S37) : Bool := if sEq x.f0 y.f0 = true then sLt x.f1 y.f1 else sLt x.f0 y.f0
def tEq (x y : S37) : Bool := sEq x.f0 y.f0 && sEq x.f1 y.f1
theorem tEq_iff {x y : S37} : tEq x y = true ↔ x = y := by
  unfold tEq
  rw [Bool.and_eq_true, sEq_iff, sEq_iff]
  cases x; cases y
  simp
theorem tEq_refl (x : S37) : tEq x x = true := tEq_iff.mpr rfl
theorem tLt_irr (x : S37) : tLt x x = false := by
  unfold tLt
  rw [if_pos (sEq_iff.mpr rfl)]
  exact sLt_irr _
theorem tLt_trans {x y z : S37} (h1 : tLt x y = true) (h2 : tLt y z = true) : tLt x z = true := by
  unfold tLt at *
  by_cases e1 : sEq x.f0 y.f0 = true
  · rw [if_pos e1] at h1
    rw [sEq_iff] at e1
    by_cases e2 : sEq y.f0 z.f0 = true
    · rw [if_pos e2] at h2
      rw [e1, if_pos e2]
      exact sLt_trans h1 h2
    · rw [if_neg e2] at h2
      rw [e1, if_neg e2]
      exact h2
  · rw [if_neg e1] at h1
    by_cases e2 : sEq y.f0 z.f0 = true
    · rw [if_pos e2] at h2
      rw [sEq_iff] at e2
      rw [← e2, if_neg e1]
      exact h1
    · rw [if_neg e2] at h2
      have h3 := sLt_trans h1 h2
      have e3 : ¬ sEq x.f0 z.f0 = true := fun h => by
        rw [sEq_iff] at h
        rw [h, sLt_irr] at h3
        cases h3
      rw [if_neg e3]
      exact h3
theorem tLt_tri {x y : S37} (h1 : tLt x y = false) (h2 : tLt y x = false) : x = y := by
  unfold tLt at *
  by_cases e1 : sEq x.f0 y.f0 = true
  · have e2 : sEq y.f0 x.f0 = true := sEq_iff.mpr (sEq_iff.mp e1).symm
    rw [if_pos e1] at h1
    rw [if_pos e2] at h2
    have a := sEq_iff.mp e1
    have b := sLt_tri h1 h2
    cases x; cases y
    simp only at a b
    rw [a, b]
  · have e2 : ¬ sEq y.f0 x.f0 = true := fun h => e1 (sEq_iff.mpr (sEq_iff.mp h).symm)
    rw [if_neg e1] at h1
    rw [if_neg e2] at h2
    exact absurd (sEq_iff.mpr (sLt_tri h1 h2)) e1
def TUp (l : List S37) : Prop := l.Pairwise fun x y => tLt x y = true
def ddFrom (t : S37) : List S37 → List S37
  | [] => []
  | x :: l => if tEq x t = true then ddFrom t l else x :: ddFrom x l
def dd : List S37 → List S37
  | [] => []
  | x :: l => x :: ddFrom x l
def tSort (l : List S37) : List S37 := l.mergeSort fun x y => !tLt y x
def tNorm (l : List S37) : List S37 := dd (tSort l)
def tIs : List S37 → Bool
  | [] => true
  | [_] => true
  | x :: y :: l => tLt x y && tIs (y :: l)
end Go.Proofs.Yteamldgngknmfaa
