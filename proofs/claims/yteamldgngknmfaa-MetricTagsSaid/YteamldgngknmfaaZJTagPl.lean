/- Tags in order, each once: the plain laws; no condition. -/
import Derived.Test.YteamldgngknmfaaZJPEx0
namespace Go.Proofs.Yteamldgngknmfaa
open Go.RowKit Go.Proofs.YteamldgngknmfaaW.PrintWords Go.Proofs.YteamldgngknmfaaW.PrintLast Go.Proofs.YteamldgngknmfaaW.PrintMore Go.Proofs.Yteamldgngknmfaa.PE
set_option linter.unusedVariables false
set_option linter.unusedSimpArgs false
theorem by_irr : ∀ a : List UInt8, Op.bytesLess a a = false
  | [] => rfl
  | a :: x => by
    have := by_irr x
    simp [Op.bytesLess, this]
theorem by_trans : ∀ a b c : List UInt8, Op.bytesLess a b = true → Op.bytesLess b c = true → Op.bytesLess a c = true
  | _, [], _, h, _ => by simp [Op.bytesLess] at h
  | _, _ :: _, [], _, h => by simp [Op.bytesLess] at h
  | [], _ :: _, _ :: _, _, _ => rfl
  | a :: x, b :: y, c :: z, h1, h2 => by
    have ih := by_trans x y z
    simp only [Op.bytesLess, Bool.or_eq_true, Bool.and_eq_true, decide_eq_true_eq, beq_iff_eq, UInt8.lt_iff_toNat_lt] at h1 h2 ⊢
    rcases h1 with h1 | ⟨rfl, h1⟩
    · rcases h2 with h2 | ⟨rfl, h2⟩
      · exact .inl (by omega)
      · exact .inl h1
    · rcases h2 with h2 | ⟨rfl, h2⟩
      · exact .inl h2
      · exact .inr ⟨rfl, ih h1 h2⟩
theorem by_tri : ∀ a b : List UInt8, Op.bytesLess a b = false → Op.bytesLess b a = false → a = b
  | [], [], _, _ => rfl
  | [], _ :: _, h, _ => by simp [Op.bytesLess] at h
  | _ :: _, [], _, h => by simp [Op.bytesLess] at h
  | a :: x, b :: y, h1, h2 => by
    have ih := by_tri x y
    simp only [Op.bytesLess, Bool.or_eq_false_iff, Bool.and_eq_false_iff, decide_eq_false_iff_not, UInt8.lt_iff_toNat_lt, beq_eq_false_iff_ne] at h1 h2
    have e : a = b := UInt8.toNat_inj.1 (by omega)
    subst e
    rcases h1.2 with h | h
    · exact absurd rfl h
    · rcases h2.2 with h' | h'
      · exact absurd rfl h'
      · rw [ih h h']
def sLt (a b : ByteArray) : Bool := Op.bytesLess a.toList b.toList
def sEq (a b : ByteArray) : Bool := a.toList == b.toList
theorem ba_ext {a b : ByteArray} (h : a.toList = b.toList) : a = b := by
  rw [ByteArray.toList_eq, ByteArray.toList_eq] at h
  cases a; cases b
  simp only [ByteArray.mk.injEq]
  exact Array.toList_inj.mp h
theorem sEq_iff {a b : ByteArray} : sEq a b = true ↔ a = b := by
  unfold sEq
  rw [beq_iff_eq]
  exact ⟨ba_ext, fun h => by rw [h]⟩
theorem sLt_irr (a : ByteArray) : sLt a a = false := by_irr _
theorem sLt_trans {a b c : ByteArray} (h1 : sLt a b = true) (h2 : sLt b c = true) : sLt a c = true := by_trans _ _ _ h1 h2
theorem sLt_tri {a b : ByteArray} (h1 : sLt a b = false) (h2 : sLt b a = false) : a = b := ba_ext (by_tri _ _ h1 h2)
def tLt (x y : S37) : Bool := if sEq x.f0 y.f0 = true then sLt x.f1 y.f1 else sLt x.f0 y.f0
def tEq (x y : S37) : Bool := sEq x.f0 y.f0 && sEq x.f1 y.f1
theorem tEq_iff {x y : S37} : tEq x y = true ↔ x = y := by
  unfold tEq
  rw [Bool.and_eq_true, sEq_iff, sEq_iff]
  cases x; cases y
  simp
theorem tEq_refl (x : S37) : tEq x x = true := tEq_iff.mpr rfl
theorem tLt_irr (x : S37) : tLt x x = false := by
  unfold tLt
  rw [if_pos (sEq_iff.mpr rfl)]
  exact sLt_irr _
theorem tLt_trans {x y z : S37} (h1 : tLt x y = true) (h2 : tLt y z = true) : tLt x z = true := by
  unfold tLt at *
  by_cases e1 : sEq x.f0 y.f0 = true
  · rw [if_pos e1] at h1
    rw [sEq_iff] at e1
    by_cases e2 : sEq y.f0 z.f0 = true
    · rw [if_pos e2] at h2
      rw [e1, if_pos e2]
      exact sLt_trans h1 h2
    · rw [if_neg e2] at h2
      rw [e1, if_neg e2]
      exact h2
  · rw [if_neg e1] at h1
    by_cases e2 : sEq y.f0 z.f0 = true
    · rw [if_pos e2] at h2
      rw [sEq_iff] at e2
      rw [← e2, if_neg e1]
      exact h1
    · rw [if_neg e2] at h2
      have h3 := sLt_trans h1 h2
      have e3 : ¬ sEq x.f0 z.f0 = true := fun h => by
        rw [sEq_iff] at h
        rw [h, sLt_irr] at h3
        cases h3
      rw [if_neg e3]
      exact h3
theorem tLt_tri {x y : S37} (h1 : tLt x y = false) (h2 : tLt y x = false) : x = y := by
  unfold tLt at *
  by_cases e1 : sEq x.f0 y.f0 = true
  · have e2 : sEq y.f0 x.f0 = true := sEq_iff.mpr (sEq_iff.mp e1).symm
    rw [if_pos e1] at h1
    rw [if_pos e2] at h2
    have a := sEq_iff.mp e1
    have b := sLt_tri h1 h2
    cases x; cases y
    simp only at a b
    rw [a, b]
  · have e2 : ¬ sEq y.f0 x.f0 = true := fun h => e1 (sEq_iff.mpr (sEq_iff.mp h).symm)
    rw [if_neg e1] at h1
    rw [if_neg e2] at h2
    exact absurd (sEq_iff.mpr (sLt_tri h1 h2)) e1
theorem tLt_asym {x y : S37} (h : tLt x y = true) : tLt y x = false := by
  cases e : tLt y x with
  | false => rfl
  | true =>
    have := tLt_trans h e
    rw [tLt_irr] at this
    cases this
def TUp (l : List S37) : Prop := l.Pairwise fun x y => tLt x y = true
def ddFrom (t : S37) : List S37 → List S37
  | [] => []
  | x :: l => if tEq x t = true then ddFrom t l else x :: ddFrom x l
def dd : List S37 → List S37
  | [] => []
  | x :: l => x :: ddFrom x l
def tSort (l : List S37) : List S37 := l.mergeSort fun x y => !tLt y x
def tNorm (l : List S37) : List S37 := dd (tSort l)
theorem ddFrom_mem (y : S37) : ∀ (l : List S37) (t : S37), (y = t ∨ y ∈ ddFrom t l) ↔ (y = t ∨ y ∈ l)
  | [], t => by simp [ddFrom]
  | x :: l, t => by
    unfold ddFrom
    by_cases h : tEq x t = true
    · rw [if_pos h]
      have e := tEq_iff.mp h
      subst e
      have ih := ddFrom_mem y l x
      rw [ih, List.mem_cons]
      constructor
      · rintro (h | h)
        · exact .inl h
        · exact .inr (.inr h)
      · rintro (h | h | h)
        · exact .inl h
        · exact .inl h
        · exact .inr h
    · rw [if_neg h]
      have ih := ddFrom_mem y l x
      rw [List.mem_cons, List.mem_cons, ih]
theorem ddFrom_up : ∀ (l : List S37) (t : S37), (t :: l).Pairwise (fun x y => tLt y x = false) → TUp (t :: ddFrom t l)
  | [], t, _ => by simp [ddFrom, TUp]
  | x :: l, t, h => by
    unfold ddFrom
    rw [List.pairwise_cons] at h
    by_cases e : tEq x t = true
    · rw [if_pos e]
      have e' := tEq_iff.mp e
      subst e'
      exact ddFrom_up l x h.2
    · rw [if_neg e]
      have ih := ddFrom_up l x h.2
      have hxt : tLt t x = true := by
        cases e2 : tLt t x with
        | true => rfl
        | false => exact absurd (tEq_iff.mpr (tLt_tri (h.1 x (by simp)) e2)) e
      unfold TUp at ih ⊢
      rw [List.pairwise_cons]
      refine ⟨fun y hy => ?_, ih⟩
      rcases List.mem_cons.mp hy with rfl | hy
      · exact hxt
      · exact tLt_trans hxt ((List.pairwise_cons.mp ih).1 y hy)
theorem tSort_mem (l : List S37) (y : S37) : y ∈ tSort l ↔ y ∈ l := (List.mergeSort_perm l _).mem_iff
theorem tSort_up (l : List S37) : (tSort l).Pairwise (fun x y => tLt y x = false) := by
  have h := List.pairwise_mergeSort (le := fun x y : S37 => !tLt y x) (fun a b c h1 h2 => by
    simp only [Bool.not_eq_true'] at *
    cases e : tLt c a with
    | false => rfl
    | true =>
      cases e1 : tLt b c with
      | true =>
        have := tLt_trans e1 e
        rw [h1] at this
        cases this
      | false =>
        have := tLt_tri h2 e1
        subst this
        rw [h1] at e
        cases e) (fun a b => by
    simp only [Bool.or_eq_true, Bool.not_eq_true']
    cases e : tLt b a with
    | false => exact .inl rfl
    | true => exact .inr (tLt_asym e)) l
  exact h.imp (fun h => by simpa using h)
theorem dd_mem (l : List S37) (y : S37) : y ∈ dd l ↔ y ∈ l := by
  cases l with
  | nil => exact Iff.rfl
  | cons x l =>
    unfold dd
    rw [List.mem_cons, List.mem_cons]
    exact ddFrom_mem y l x
theorem tNorm_mem (l : List S37) (y : S37) : y ∈ tNorm l ↔ y ∈ l := (dd_mem _ _).trans (tSort_mem _ _)
theorem tNorm_up (l : List S37) : TUp (tNorm l) := by
  unfold tNorm
  have h := tSort_up l
  cases e : tSort l with
  | nil => exact List.Pairwise.nil
  | cons x r =>
    rw [e] at h
    exact ddFrom_up r x h
theorem TUp.ext : ∀ {a b : List S37}, TUp a → TUp b → (∀ y, y ∈ a ↔ y ∈ b) → a = b
  | [], [], _, _, _ => rfl
  | [], y :: _, _, _, h => by have := (h y).mpr (by simp); cases this
  | x :: _, [], _, _, h => by have := (h x).mp (by simp); cases this
  | x :: a, y :: b, ha, hb, h => by
    unfold TUp at ha hb
    rw [List.pairwise_cons] at ha hb
    have exy : x = y := by
      rcases List.mem_cons.mp ((h x).mp (by simp)) with e | e
      · exact e
      · rcases List.mem_cons.mp ((h y).mpr (by simp)) with e2 | e2
        · exact e2.symm
        · have h1 := hb.1 x e
          have h2 := ha.1 y e2
          have := tLt_trans h1 h2
          rw [tLt_irr] at this
          cases this
    subst exy
    have ih := TUp.ext (a := a) (b := b) ha.2 hb.2 (fun z => by
      have hz := h z
      rw [List.mem_cons, List.mem_cons] at hz
      constructor
      · intro hm
        rcases hz.mp (.inr hm) with rfl | hm2
        · have := ha.1 z hm
          rw [tLt_irr] at this
          cases this
        · exact hm2
      · intro hm
        rcases hz.mpr (.inr hm) with rfl | hm2
        · have := hb.1 z hm
          rw [tLt_irr] at this
          cases this
        · exact hm2)
    rw [ih]
def tIs : List S37 → Bool
  | [] => true
  | [_] => true
  | x :: y :: l => tLt x y && tIs (y :: l)
theorem tIs_iff : ∀ l : List S37, tIs l = true ↔ TUp l
  | [] => by simp [tIs, TUp]
  | [x] => by simp [tIs, TUp]
  | x :: y :: l => by
    have ih := tIs_iff (y :: l)
    unfold tIs
    rw [Bool.and_eq_true, ih]
    unfold TUp
    rw [List.pairwise_cons (a := x)]
    constructor
    · rintro ⟨h1, h2⟩
      refine ⟨fun z hz => ?_, h2⟩
      rcases List.mem_cons.mp hz with rfl | hz
      · exact h1
      · exact tLt_trans h1 ((List.pairwise_cons.mp h2).1 z hz)
    · rintro ⟨h1, h2⟩
      exact ⟨h1 y (by simp), h2⟩
end Go.Proofs.Yteamldgngknmfaa
