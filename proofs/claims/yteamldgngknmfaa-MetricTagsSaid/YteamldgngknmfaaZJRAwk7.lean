/- What package law07's awake tells; MetricChecks, plain; no condition. -/
import Derived.Test.YteamldgngknmfaaZJInjN
import Derived.Test.YteamldgngknmfaaZJMNorm
import Derived.Test.YteamldgngknmfaaZJPEx4
namespace Go.Proofs.Yteamldgngknmfaa.PE
open Go.RowKit Go.Proofs.YteamldgngknmfaaW.PrintWords Go.Proofs.YteamldgngknmfaaW.PrintLast Go.Proofs.YteamldgngknmfaaW.PrintMore Go.Proofs.Yteamldgngknmfaa
set_option linter.unusedVariables false
set_option linter.unusedSimpArgs false
def awkT : List S37 := [⟨⟨#[98]⟩, ⟨#[]⟩⟩, ⟨⟨#[97]⟩, ⟨#[]⟩⟩, ⟨⟨#[98]⟩, ⟨#[]⟩⟩]
def awkU : List S37 := [⟨⟨#[97]⟩, ⟨#[]⟩⟩, ⟨⟨#[98]⟩, ⟨#[]⟩⟩]
def awkA : S25 := ⟨⟨#[97]⟩, 1, [⟨false, 10, 0⟩], 1000000, awkT, 0⟩
def awkB : S25 := ⟨⟨#[97]⟩, 1, [⟨false, 1, 1⟩], 1000000, awkU, 0⟩
theorem awkU_up : TUp awkU := (tIs_iff _).1 (by decide +kernel)
theorem awkT_norm : tNorm awkT = awkU := TUp.ext (tNorm_up _) awkU_up fun y => by
  rw [tNorm_mem]
  simp only [awkT, awkU, List.mem_cons, List.not_mem_nil, or_false]
  constructor
  · rintro (h | h | h)
    · exact .inr h
    · exact .inl h
    · exact .inr h
  · rintro (h | h)
    · exact .inr (.inl h)
    · exact .inl h
theorem awkA_in : metIn awkA = true := by decide +kernel
theorem awkA_bad : metBad awkA = 17 := by decide +kernel
theorem awkA_bad0 : metBad (metV awkA) = 0 := by decide +kernel
theorem awkA_vals : awkA.f2.map normV = awkB.f2 := by
  have h : decNorm false ((10 : Int).toNat) 0 = some (false, 1, 1) := by decide +kernel
  have h2 : normV (⟨false, 10, 0⟩ : S40) = ⟨false, 1, 1⟩ := by
    unfold normV
    rw [h]
    rfl
  show [normV (⟨false, 10, 0⟩ : S40)] = [⟨false, 1, 1⟩]
  rw [h2]
theorem awkA_norm : metNorm awkA = (awkB, 0) := by
  unfold metNorm
  rw [if_pos awkA_bad0, awkA_vals, show awkA.f4 = awkT from rfl, awkT_norm]
  rfl
theorem awk_nf : metric_Normal.f awkA.f0 awkA.f1 awkA.f2 awkA.f3 awkA.f4 awkA.f5 = some (awkB.f0, awkB.f1, awkB.f2, awkB.f3, awkB.f4, awkB.f5, 0) := by
  unfold metric_Normal.f
  rw [show (⟨awkA.f0, awkA.f1, awkA.f2, awkA.f3, awkA.f4, awkA.f5⟩ : S25) = awkA from rfl, awkA_norm, if_pos ⟨awkA_in, by decide, by decide⟩]
theorem awake07_ev : Ev (fun k => forebaylaw07_awake.f k) true := by
  have e1 := awk_nf
  have e2 : metric_Check.f awkA.f0 awkA.f1 awkA.f2 awkA.f3 awkA.f4 awkA.f5 = some 17 := (mcheck_f awkA awkA_in).trans (congrArg some awkA_bad)
  have e3 := eqm_same awkB awkB (by decide) (by decide) rfl
  unfold forebaylaw07_awake.f
  refine Ev.congr (f := fun k => (forebayref07_Equal.f k awkB.f0 awkB.f1 awkB.f2 awkB.f3 awkB.f4 awkB.f5 awkB.f0 awkB.f1 awkB.f2 awkB.f3 awkB.f4 awkB.f5).bind fun t => some t) (fun k => ?_) (Ev.bind e3 (Ev.now _))
  rw [Option.bind_some, Option.bind_some]
  refine (congrArg (fun o => Option.bind o _) e1).trans ?_
  rw [Option.bind_some]
  refine (congrArg (fun o => Option.bind o _) e2).trans ?_
  rw [Option.bind_some, if_pos rfl, if_pos rfl]
  rfl
end Go.Proofs.Yteamldgngknmfaa.PE
