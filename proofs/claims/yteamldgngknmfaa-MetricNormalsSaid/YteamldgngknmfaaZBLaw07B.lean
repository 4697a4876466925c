/- MetricNormals: which form a metric has, and whether it is in it: its walk; for every metric, no condition. -/
import Derived.Test.YteamldgngknmfaaZBRNormM
import Derived.Test.YteamldgngknmfaaZBRAwk7
import Derived.Test.YteamldgngknmfaaZBLawMetB
import Derived.Test.YteamldgngknmfaaRows
import Derived.Test.YteamldgngknmfaaZBPEx11
namespace Go.Proofs.Yteamldgngknmfaa
open Go.RowKit Go.Proofs.YteamldgngknmfaaW.PrintWords Go.Proofs.YteamldgngknmfaaW.PrintLast Go.Proofs.YteamldgngknmfaaW.PrintMore Go.Proofs.Yteamldgngknmfaa.PE
set_option linter.unusedVariables false
set_option linter.unusedSimpArgs false
theorem metricNormals_pure (m : S25) (hm : metIn m = true) : ∃ k, forebaylaw07_MetricNormals.f k m.f0 m.f1 m.f2 m.f3 m.f4 m.f5 = some true := by
  refine Ev.rounds ?_
  obtain ⟨b, hb, hl⟩ := few_ev m
  unfold forebaylaw07_MetricNormals.f
  refine Ev.bind hb ?_
  cases b with
  | false => exact Ev.congr (fun k => if_neg (by decide)) (Ev.bind awake07_ev (Ev.now _))
  | true =>
    have := hl rfl
    have hlen := metNorm_len m (by omega) (by omega)
    have hn := refnm_ev m hm (by omega) (by omega)
    have hmi := mis_ev m hm (by omega)
    have hmc := refmet_ev m hm (by omega)
    have hee := eqm_same (metNorm m).1 (metNorm m).1 (by omega) (by omega) rfl
    obtain ⟨t, ht1, ht2⟩ := eqm_ev m (metNorm m).1 (by omega) (by omega)
    have hfin : ∀ p : Bool, p = true → Ev (fun k => if p = true then ((forebaylaw07_awake.f k).bind fun t => (some t)) else none) true := fun p hp => Ev.congr (fun k => if_pos hp) (Ev.bind awake07_ev (Ev.now _))
    have hj : Ev (fun k => forebaylaw07_MetricNormals.j0 k (metNorm m).2 false m.f0 m.f1 m.f2 m.f3 m.f4 m.f5 (metNorm m).1.f0 (metNorm m).1.f1 (metNorm m).1.f2 (metNorm m).1.f3 (metNorm m).1.f4 (metNorm m).1.f5) true := by
      by_cases hc : (metNorm m).2 = 0
      · by_cases hz : metBad m = 0
        · have hq : (decide (metBad m = 0) && tIs m.f4) = t := by
            rw [decide_eq_true hz, Bool.true_and, Bool.eq_iff_iff, ht2, metNorm_is m hm hz]
          refine Ev.step (f := fun k => (forebayref07_Check.f k m.f0 m.f1 m.f2 m.f3 m.f4 m.f5).bind fun t267 => (if t267 = 0 then ((forebayref07_Equal.f k m.f0 m.f1 m.f2 m.f3 m.f4 m.f5 (metNorm m).1.f0 (metNorm m).1.f1 (metNorm m).1.f2 (metNorm m).1.f3 (metNorm m).1.f4 (metNorm m).1.f5).bind fun t268 => ((metric_Is.f k m.f0 m.f1 m.f2 m.f3 m.f4 m.f5).bind fun t269 => (if (t269 == t268) = true then ((forebaylaw07_awake.f k).bind fun t270 => (some t270)) else (none)))) else ((metric_Is.f k m.f0 m.f1 m.f2 m.f3 m.f4 m.f5).bind fun t271 => (if (t271 == false) = true then ((forebaylaw07_awake.f k).bind fun t272 => (some t272)) else (none))))) (fun k => ?_) (Ev.bind hmc (Ev.congr (fun k => if_pos hz) (Ev.bind ht1 (Ev.bind hmi (hfin _ (by rw [hq]; exact beq_self_eq_true t))))))
          simp only [forebaylaw07_MetricNormals.j0]
          rw [if_neg (by decide), if_pos hc]
        · refine Ev.step (f := fun k => (forebayref07_Check.f k m.f0 m.f1 m.f2 m.f3 m.f4 m.f5).bind fun t267 => (if t267 = 0 then ((forebayref07_Equal.f k m.f0 m.f1 m.f2 m.f3 m.f4 m.f5 (metNorm m).1.f0 (metNorm m).1.f1 (metNorm m).1.f2 (metNorm m).1.f3 (metNorm m).1.f4 (metNorm m).1.f5).bind fun t268 => ((metric_Is.f k m.f0 m.f1 m.f2 m.f3 m.f4 m.f5).bind fun t269 => (if (t269 == t268) = true then ((forebaylaw07_awake.f k).bind fun t270 => (some t270)) else (none)))) else ((metric_Is.f k m.f0 m.f1 m.f2 m.f3 m.f4 m.f5).bind fun t271 => (if (t271 == false) = true then ((forebaylaw07_awake.f k).bind fun t272 => (some t272)) else (none))))) (fun k => ?_) (Ev.bind hmc (Ev.congr (fun k => if_neg hz) (Ev.bind hmi (hfin _ (by rw [decide_eq_false hz]; rfl)))))
          simp only [forebaylaw07_MetricNormals.j0]
          rw [if_neg (by decide), if_pos hc]
      · have hz := metNorm_code m hm hc
        refine Ev.step (f := fun k => (metric_Is.f k m.f0 m.f1 m.f2 m.f3 m.f4 m.f5).bind fun t273 => (if (t273 == false) = true then ((forebaylaw07_awake.f k).bind fun t274 => (some t274)) else (none))) (fun k => ?_) (Ev.bind hmi (hfin _ (by rw [decide_eq_false hz]; rfl)))
        simp only [forebaylaw07_MetricNormals.j0]
        rw [if_neg (by decide), if_neg hc]
    refine Ev.congr (fun k => if_pos rfl) ?_
    refine Ev.congr (f := fun k => (forebayref07_Normal.f k m.f0 m.f1 m.f2 m.f3 m.f4 m.f5).bind fun bt254 => (if (metNorm m).2 = bt254.2.2.2.2.2.2 then ((forebayref07_Equal.f k (metNorm m).1.f0 (metNorm m).1.f1 (metNorm m).1.f2 (metNorm m).1.f3 (metNorm m).1.f4 (metNorm m).1.f5 bt254.1 bt254.2.1 bt254.2.2.1 bt254.2.2.2.1 bt254.2.2.2.2.1 bt254.2.2.2.2.2.1).bind fun t266 => (forebaylaw07_MetricNormals.j0 k bt254.2.2.2.2.2.2 (!t266) m.f0 m.f1 m.f2 m.f3 m.f4 m.f5 bt254.1 bt254.2.1 bt254.2.2.1 bt254.2.2.2.1 bt254.2.2.2.2.1 bt254.2.2.2.2.2.1)) else (forebaylaw07_MetricNormals.j0 k bt254.2.2.2.2.2.2 true m.f0 m.f1 m.f2 m.f3 m.f4 m.f5 bt254.1 bt254.2.1 bt254.2.2.1 bt254.2.2.2.1 bt254.2.2.2.2.1 bt254.2.2.2.2.2.1))) (fun k => by rw [mnorm_f m hm (by omega) (by omega)]; rfl) ?_
    refine Ev.bind hn (Ev.congr (fun k => if_pos rfl) (Ev.bind hee ?_))
    exact hj
theorem metricNormals_walk (m : S25) (Av : Option Addr) (cv : Nat) (At : Option Addr) (ct : Nat) (w : World) (hm : MetC m Av cv At ct w) (hi : metIn m = true) :
    Calls Try.prog 4 #[.agg #[.string m.f0, .int .i64 m.f1, .slice Av m.f2.length cv, .int .i64 m.f3, .slice At m.f4.length ct, .int .i64 m.f5]] w fun e w' => e = .returned (.bool true) ∧ Below w.heap.size w w' := by
  obtain ⟨k, hk⟩ := metricNormals_pure m hi
  exact forebaylaw07_MetricNormals.calls k m.f0 m.f1 Av cv m.f2 m.f3 At ct m.f4 m.f5 true w hm.v hm.vc hm.t hm.tc hk
namespace metricNormals
open Go.ChangeShapes Go.WideShapes Go.ChangeAt Go.RowKit
open Go.ChangeMaps (open_string shut_string)
theorem own : ownKnob Try.prog.godebug = none := by kernel_rfl
theorem laidOut : laidOutB Try.prog = true := by kernel_rfl
set_option maxRecDepth 100000 in
theorem lifted (os : Os) (started : os.Started) (H : Type) (enc : TypeId × Value → H) :
    ReturnsInHanded {} Try.checked os 4 .any (Rows.metricNormalsSpec.pre6 enc Try.prog Try.f4 Rows.metricNormalsRow.domain false) (Rows.metricNormalsSpec.post enc Try.prog Try.f4 false true false false) := by
  refine returnsInHanded_of_change_sized (C := Try.checked) own started (by kernel_rfl) Try.func4
    (ChangeSpec.witness6 (enc := enc) (C := Try.checked) false ⟨#[], #[.agg #[.string ByteArray.empty, .int .i64 0, .slice none 0 0, .int .i64 0, .slice none 0 0, .int .i64 0]], []⟩ 8 (by kernel_rfl) (by kernel_rfl) (by kernel_rfl) (by kernel_rfl)) ?_
  intro W base args ds gs before hval0 hW hcnd hsz0 _
  have hsz : (DataW.weightsEach Try.prog (Try.f4.params.toList ++ Rows.metricNormalsSpec.plain.varTypes Try.prog) (ds ++ gs)).all (· ≤ reachBytes) = true := hsz0
  have hval : ∀ (j : Nat) t v, Try.f4.params[j]? = some t → args[j]? = some v → Value.okWide Try.prog W .any base t v := hval0
  have hW' := hW
  obtain ⟨p, q, hA0, hV, rfl, hfz, hnd⟩ := hW
  have hA : DataW.TrodAll enc Try.prog W 0 (fun _ => true) true Try.f4.params.toList args.toList ds p := hA0
  rw [Try.params4] at hA hval hsz
  obtain ⟨v0, vs0, d0, ds0, p0, q0, hargs, rfl, rfl, h0, r0⟩ := trodAll_cons hA
  obtain ⟨rfl, rfl, rfl⟩ := trodAll_nil r0
  obtain rfl : args = #[v0] := by cases args; simp_all
  obtain ⟨rfl, rfl⟩ := trodVars_none hV
  have k0 := h0
  have lt0 : ∀ x ∈ p0, x.block < W.heap.size := by obtain ⟨m, hm⟩ := k0; exact DataW.trod_lt m _ _ _ hm
  obtain ⟨m0, A0, c0, B0, e0, rfl, g0, i0⟩ := open_metric (hval 0 25 v0 rfl rfl) h0
  clear hA0 hval0 hsz0 hsz
  refine (metricNormals_walk m0 A0 c0 B0 e0 W g0 i0).mono fun e W' ⟨he, bel⟩ => ?_
  subst he
  exact ⟨_, rfl, _, _, _, [], _, [], hW', trodAll_mk1 (shut_bool Try.underlying4 _), (trodAll_cons_mk (Below.trod laidOut (by kernel_rfl) (of_decide_eq_true (by kernel_rfl)) k0 bel lt0) trodAll_mk0), rfl, bel.frame _, fun h => by cases h⟩
theorem over : Rows.metricNormalsRow.holds Try.pinned (OpenSpec.ofChange Rows.metricNormalsSpec) :=
  OpenClaim.holds_of_wide 4 Try.f4 rfl rfl rfl rfl rfl rfl rfl ⟨rfl, rfl, rfl, rfl, rfl⟩ rfl rfl rfl rfl rfl (by kernel_rfl) Try.func4 (by kernel_rfl)
    (of_decide_eq_true (by kernel_rfl)) (by unfold Func.isWrapper; first | (rw [if_pos (by decide +kernel)]; kernel_rfl) | (rw [if_neg (by decide +kernel)]; exact ⟨rfl, rfl⟩))
    (fun os started H enc _ => lifted os started H enc)
theorem proved : Rows.MetricNormalsSaid := over
end metricNormals
theorem metricNormals_holds : Rows.MetricNormalsSaid := metricNormals.proved
#print axioms metricNormals_holds
end Go.Proofs.Yteamldgngknmfaa
