/- The document's order of tags and its one form of tags are package tag's; plain; no condition. -/
import Derived.Test.YtclbmdblalgdjaaZLRFew
import Derived.Test.YtclbmdblalgdjaaZLPEx10
import Derived.Test.YtclbmdblalgdjaaZLRGetD
import Derived.Test.YtclbmdblalgdjaaZLPEx4
import Derived.Test.YtclbmdblalgdjaaZLPEx8
import Derived.Test.YtclbmdblalgdjaaZLPEx9
namespace Go.Proofs.Ytclbmdblalgdjaa.PE
open Go.RowKit Go.Proofs.YtclbmdblalgdjaaW.PrintWords Go.Proofs.YtclbmdblalgdjaaW.PrintLast Go.Proofs.YtclbmdblalgdjaaW.PrintMore Go.Proofs.Ytclbmdblalgdjaa
set_option linter.unusedVariables false
set_option linter.unusedSimpArgs false
def tIns (t : S81) : List S81 → List S81
  | [] => [t]
  | x :: l => if tLt x t = true then x :: tIns t l else if tEq x t = true then x :: l else t :: x :: l
def tPut (l out : List S81) : List S81 := l.foldl (fun o t => tIns t o) out
theorem tagless_f (x y : S81) : tag_Less.f x.f0 x.f1 y.f0 y.f1 = some (tLt x y) := by
  unfold tag_Less.f tLt
  by_cases h1 : x.f0.toList = y.f0.toList
  · rw [if_pos h1, if_pos (show sEq x.f0 y.f0 = true from beq_iff_eq.mpr h1)]
    rfl
  · rw [if_neg h1, if_neg (show ¬ sEq x.f0 y.f0 = true from fun h => h1 (beq_iff_eq.mp h))]
    rfl
theorem tagis_l0 (L : List S81) (hL : L.length ≤ 140737488355328) : ∀ (d i : Nat), i + d = L.length → 1 ≤ i → Ev (fun k => tag_Is.l0 k L (i : Int)) (tIs (L.drop (i - 1))) := by
  intro d
  induction d with
  | zero =>
    intro i hi h1
    have e : tIs (L.drop (i - 1)) = true := by
      rw [List.drop_eq_getElem_cons (show i - 1 < L.length by omega), List.drop_eq_nil_of_le (by omega)]
      rfl
    rw [e]
    refine Ev.step (f := fun _ => some true) (fun k => ?_) (Ev.now _)
    simp only [tag_Is.l0]
    rw [if_neg (by omega)]
  | succ d ih =>
    intro i hi h1
    have ih := ih (i + 1) (by omega) (by omega)
    rw [show i + 1 - 1 = i by omega, List.drop_eq_getElem_cons (show i < L.length by omega)] at ih
    rw [List.drop_eq_getElem_cons (show i - 1 < L.length by omega), show i - 1 + 1 = i by omega, List.drop_eq_getElem_cons (show i < L.length by omega)]
    have hw : wrap64 ((i : Int) - 1) = ((i - 1 : Nat) : Int) := by rw [IntWalk.wrap64_in _ (by omega)]; omega
    show Ev _ (tLt (L[i - 1]'(by omega)) (L[i]'(by omega)) && tIs (L[i]'(by omega) :: L.drop (i + 1)))
    have hstep : ∀ k, tag_Is.l0 (k + 1) L (i : Int) = if tLt (L[i - 1]'(by omega)) (L[i]'(by omega)) = true then tag_Is.l0 k L ((i + 1 : Nat) : Int) else some false := by
      intro k
      simp only [tag_Is.l0]
      rw [if_pos (by omega), hw, if_pos (by omega), if_pos (by omega), if_pos (by omega), rd_tag L (i - 1) (by omega), rd_tag L i (by omega), tagless_f, Option.bind_some, w1 i (by omega)]
    cases h : tLt (L[i - 1]'(by omega)) (L[i]'(by omega)) with
    | true => exact Ev.step (fun k => by rw [hstep k, if_pos h]) ih
    | false => exact Ev.step (f := fun _ => some false) (fun k => by rw [hstep k, if_neg (by rw [h]; decide)]) (Ev.now _)
theorem tagis_ev (L : List S81) (hL : L.length ≤ 140737488355328) : Ev (fun k => tag_Is.f k L) (tIs L) := by
  cases L with
  | nil =>
    refine Ev.step (f := fun _ => some true) (fun k => ?_) (Ev.now _)
    show tag_Is.l0 (k + 1) [] 1 = _
    simp only [tag_Is.l0]
    rw [if_neg (by simp)]
  | cons x l =>
    have h := tagis_l0 (x :: l) hL l.length 1 (by simp; omega) (by omega)
    exact h
end Go.Proofs.Ytclbmdblalgdjaa.PE
