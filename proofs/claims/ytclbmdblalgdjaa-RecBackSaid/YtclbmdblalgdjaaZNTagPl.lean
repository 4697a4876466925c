/- Tags in order, each once: the plain laws; no condition. -/
import Derived.Test.YtclbmdblalgdjaaZNPEx0
namespace Go.Proofs.Ytclbmdblalgdjaa
open Go.RowKit Go.Proofs.YtclbmdblalgdjaaW.PrintWords Go.Proofs.YtclbmdblalgdjaaW.PrintLast Go.Proofs.YtclbmdblalgdjaaW.PrintMore Go.Proofs.Ytclbmdblalgdjaa.PE
set_option linter.unusedVariables false
set_option linter.unusedSimpArgs false
theorem by_irr : ∀ a : List UInt8, Op.bytesLess a a = false
  | [] => rfl
  | a :: x => by
    have := by_irr x
    simp [Op.bytesLess, this]
theorem by_trans : ∀ a b c : List UInt8, Op.bytesLess a b = true → Op.bytesLess b c = true → Op.bytesLess a c = true
  | _, [], _, h, _ => by simp [Op.bytesLess] at h
  | _, _ :: _, [], _, h => by simp [Op.bytesLess] at h
  | [], _ :: _, _ :: _, _, _ => rfl
  | a :: x, b :: y, c :: z, h1, h2 => by
    have ih := by_trans x y z
    simp only [Op.bytesLess, Bool.or_eq_true, Bool.and_eq_true, decide_eq_true_eq, beq_iff_eq, UInt8.lt_iff_toNat_lt] at h1 h2 ⊢
    rcases h1 with h1 | ⟨rfl, h1⟩
    · rcases h2 with h2 | ⟨rfl, h2⟩
      · exact .inl (by omega)
      · exact .inl h1
    · rcases h2 with h2 | ⟨rfl, h2⟩
      · exact .inl h2
      · exact .inr ⟨rfl, ih h1 h2⟩
def sLt (a b : ByteArray) : Bool := Op.bytesLess a.toList b.toList
def sEq (a b : ByteArray) : Bool := a.toList == b.toList
theorem ba_ext {a b : ByteArray} (h : a.toList = b.toList) : a = b := by
  rw [ByteArray.toList_eq, ByteArray.toList_eq] at h
  cases a; cases b
  simp only [ByteArray.mk.injEq]
  exact Array.toList_inj.mp h
theorem sEq_iff {a b : ByteArray} : sEq a b = true ↔ a = b := by
  unfold sEq
  rw [beq_iff_eq]
  exact ⟨ba_ext, fun h => by rw [h]⟩
theorem sLt_irr (a : ByteArray) : sLt a a = false := by_irr _
theorem sLt_trans {a b c : ByteArray} (h1 : sLt a b = true) (h2 : sLt b c = true) : sLt a c = true := by_trans _ _ _ h1 h2
def tLt (x y : S81) : Bool := if sEq x.f0 y.f0 = true then sLt x.f1 y.f1 else sLt x.f0 y.f0
def tEq (x y : S81) : Bool := sEq x.f0 y.f0 && sEq x.f1 y.f1
theorem tLt_trans {x y z : S81} (h1 : tLt x y = true) (h2 : tLt y z = true) : tLt x z = true := by
  unfold tLt at *
  by_cases e1 : sEq x.f0 y.f0 = true
  · rw [if_pos e1] at h1
    rw [sEq_iff] at e1
    by_cases e2 : sEq y.f0 z.f0 = true
    · rw [if_pos e2] at h2
      rw [e1, if_pos e2]
      exact sLt_trans h1 h2
    · rw [if_neg e2] at h2
      rw [e1, if_neg e2]
      exact h2
  · rw [if_neg e1] at h1
    by_cases e2 : sEq y.f0 z.f0 = true
    · rw [if_pos e2] at h2
      rw [sEq_iff] at e2
      rw [← e2, if_neg e1]
      exact h1
    · rw [if_neg e2] at h2
      have h3 := sLt_trans h1 h2
      have e3 : ¬ sEq x.f0 z.f0 = true := fun h => by
        rw [sEq_iff] at h
        rw [h, sLt_irr] at h3
        cases h3
      rw [if_neg e3]
      exact h3
def TUp (l : List S81) : Prop := l.Pairwise fun x y => tLt x y = true
def ddFrom (t : S81) : List S81 → List S81
  | [] => []
  | x :: l => if tEq x t = true then ddFrom t l else x :: ddFrom x l
def dd : List S81 → List S81
  | [] => []
  | x :: l => x :: ddFrom x l
def tIs : List S81 → Bool
  | [] => true
  | [_] => true
  | x :: y :: l => tLt x y && tIs (y :: l)
theorem tIs_iff : ∀ l : List S81, tIs l = true ↔ TUp l
  | [] => by simp [tIs, TUp]
  | [x] => by simp [tIs, TUp]
  | x :: y :: l => by
    have ih := tIs_iff (y :: l)
    unfold tIs
    rw [Bool.and_eq_true, ih]
    unfold TUp
    rw [List.pairwise_cons (a := x)]
    constructor
    · rintro ⟨h1, h2⟩
      refine ⟨fun z hz => ?_, h2⟩
      rcases List.mem_cons.mp hz with rfl | hz
      · exact h1
      · exact tLt_trans h1 ((List.pairwise_cons.mp h2).1 z hz)
    · rintro ⟨h1, h2⟩
      exact ⟨h1 y (by simp), h2⟩
end Go.Proofs.Ytclbmdblalgdjaa
