/- MetricChecks: which metrics are right, or how they are wrong: its walk; for every metric, no condition. -/
import Derived.Test.YteamldgngknmfaaARAwk7
import Derived.Test.YteamldgngknmfaaALawMetB
import Derived.Test.YteamldgngknmfaaRows
import Derived.Test.YteamldgngknmfaaAPEx8
namespace Go.Proofs.Yteamldgngknmfaa
open Go.RowKit Go.Proofs.YteamldgngknmfaaW.PrintWords Go.Proofs.YteamldgngknmfaaW.PrintLast Go.Proofs.YteamldgngknmfaaW.PrintMore Go.Proofs.Yteamldgngknmfaa.PE
set_option linter.unusedVariables false
set_option linter.unusedSimpArgs false
theorem metricChecks_pure (m : S25) (hm : metIn m = true) : ∃ k, forebaylaw07_MetricChecks.f k m.f0 m.f1 m.f2 m.f3 m.f4 m.f5 = some true := by
  refine Ev.rounds ?_
  obtain ⟨b, hb, hl⟩ := few_ev m
  unfold forebaylaw07_MetricChecks.f
  refine Ev.bind hb ?_
  cases b with
  | false => exact Ev.congr (fun k => if_neg (by decide)) (Ev.bind awake07_ev (Ev.now _))
  | true =>
    have := hl rfl
    refine Ev.congr (fun k => if_pos rfl) ?_
    refine Ev.congr (f := fun k => (forebayref07_Check.f k m.f0 m.f1 m.f2 m.f3 m.f4 m.f5).bind fun t => if metBad m = t then ((forebaylaw07_awake.f k).bind fun t168 => (some t168)) else none) (fun k => by rw [mcheck_f m hm]; rfl) (Ev.bind (refmet_ev m hm (by omega)) (Ev.congr (fun k => if_pos rfl) (Ev.bind awake07_ev (Ev.now _))))
theorem metricChecks_walk (m : S25) (Av : Option Addr) (cv : Nat) (At : Option Addr) (ct : Nat) (w : World) (hm : MetC m Av cv At ct w) (hi : metIn m = true) :
    Calls Try.prog 3 #[.agg #[.string m.f0, .int .i64 m.f1, .slice Av m.f2.length cv, .int .i64 m.f3, .slice At m.f4.length ct, .int .i64 m.f5]] w fun e w' => e = .returned (.bool true) ∧ Below w.heap.size w w' := by
  obtain ⟨k, hk⟩ := metricChecks_pure m hi
  exact forebaylaw07_MetricChecks.calls k m.f0 m.f1 Av cv m.f2 m.f3 At ct m.f4 m.f5 true w hm.v hm.vc hm.t hm.tc hk
namespace metricChecks
open Go.ChangeShapes Go.WideShapes Go.ChangeAt Go.RowKit
open Go.ChangeMaps (open_string shut_string)
theorem own : ownKnob Try.prog.godebug = none := by kernel_rfl
theorem laidOut : laidOutB Try.prog = true := by kernel_rfl
set_option maxRecDepth 100000 in
theorem lifted (os : Os) (started : os.Started) (H : Type) (enc : TypeId × Value → H) :
    ReturnsInHanded {} Try.checked os 3 .any (Rows.metricChecksSpec.pre6 enc Try.prog Try.f3 Rows.metricChecksRow.domain false) (Rows.metricChecksSpec.post enc Try.prog Try.f3 false true false false) := by
  refine returnsInHanded_of_change_sized (C := Try.checked) own started (by kernel_rfl) Try.func3
    (ChangeSpec.witness6 (enc := enc) (C := Try.checked) false ⟨#[], #[.agg #[.string ByteArray.empty, .int .i64 0, .slice none 0 0, .int .i64 0, .slice none 0 0, .int .i64 0]], []⟩ 8 (by kernel_rfl) (by kernel_rfl) (by kernel_rfl) (by kernel_rfl)) ?_
  intro W base args ds gs before hval0 hW hcnd hsz0 _
  have hsz : (DataW.weightsEach Try.prog (Try.f3.params.toList ++ Rows.metricChecksSpec.plain.varTypes Try.prog) (ds ++ gs)).all (· ≤ reachBytes) = true := hsz0
  have hval : ∀ (j : Nat) t v, Try.f3.params[j]? = some t → args[j]? = some v → Value.okWide Try.prog W .any base t v := hval0
  have hW' := hW
  obtain ⟨p, q, hA0, hV, rfl, hfz, hnd⟩ := hW
  have hA : DataW.TrodAll enc Try.prog W 0 (fun _ => true) true Try.f3.params.toList args.toList ds p := hA0
  rw [Try.params3] at hA hval hsz
  obtain ⟨v0, vs0, d0, ds0, p0, q0, hargs, rfl, rfl, h0, r0⟩ := trodAll_cons hA
  obtain ⟨rfl, rfl, rfl⟩ := trodAll_nil r0
  obtain rfl : args = #[v0] := by cases args; simp_all
  obtain ⟨rfl, rfl⟩ := trodVars_none hV
  have k0 := h0
  have lt0 : ∀ x ∈ p0, x.block < W.heap.size := by obtain ⟨m, hm⟩ := k0; exact DataW.trod_lt m _ _ _ hm
  obtain ⟨m0, A0, c0, B0, e0, rfl, g0, i0⟩ := open_metric (hval 0 25 v0 rfl rfl) h0
  clear hA0 hval0 hsz0 hsz
  refine (metricChecks_walk m0 A0 c0 B0 e0 W g0 i0).mono fun e W' ⟨he, bel⟩ => ?_
  subst he
  exact ⟨_, rfl, _, _, _, [], _, [], hW', trodAll_mk1 (shut_bool Try.underlying4 _), (trodAll_cons_mk (Below.trod laidOut (by kernel_rfl) (of_decide_eq_true (by kernel_rfl)) k0 bel lt0) trodAll_mk0), rfl, bel.frame _, fun h => by cases h⟩
theorem over : Rows.metricChecksRow.holds Try.pinned (OpenSpec.ofChange Rows.metricChecksSpec) :=
  OpenClaim.holds_of_wide 3 Try.f3 rfl rfl rfl rfl rfl rfl rfl ⟨rfl, rfl, rfl, rfl, rfl⟩ rfl rfl rfl rfl rfl (by kernel_rfl) Try.func3 (by kernel_rfl)
    (of_decide_eq_true (by kernel_rfl)) (by unfold Func.isWrapper; first | (rw [if_pos (by decide +kernel)]; kernel_rfl) | (rw [if_neg (by decide +kernel)]; exact ⟨rfl, rfl⟩))
    (fun os started H enc _ => lifted os started H enc)
theorem proved : Rows.MetricChecksSaid := over
end metricChecks
theorem metricChecks_holds : Rows.MetricChecksSaid := metricChecks.proved
#print axioms metricChecks_holds
end Go.Proofs.Yteamldgngknmfaa
