/- MetricOnce: THE STAGE'S THEOREM, Normal tells a metric in its one form: its walk; for every metric, no condition. -/
import Derived.Test.YteamldgngknmfaaZDRNormM
import Derived.Test.YteamldgngknmfaaZDRAwk7
import Derived.Test.YteamldgngknmfaaZDLawMetB
import Derived.Test.YteamldgngknmfaaRows
import Derived.Test.YteamldgngknmfaaZDPEx13
namespace Go.Proofs.Yteamldgngknmfaa
open Go.RowKit Go.Proofs.YteamldgngknmfaaW.PrintWords Go.Proofs.YteamldgngknmfaaW.PrintLast Go.Proofs.YteamldgngknmfaaW.PrintMore Go.Proofs.Yteamldgngknmfaa.PE
set_option linter.unusedVariables false
set_option linter.unusedSimpArgs false
theorem metricOnce_pure (m : S25) (hm : metIn m = true) : ∃ k, forebaylaw07_MetricOnce.f k m.f0 m.f1 m.f2 m.f3 m.f4 m.f5 = some true := by
  refine Ev.rounds ?_
  obtain ⟨b, hb, hl⟩ := few_ev m
  unfold forebaylaw07_MetricOnce.f
  refine Ev.bind hb ?_
  cases b with
  | false => exact Ev.congr (fun k => if_neg (by decide)) (Ev.bind awake07_ev (Ev.now _))
  | true =>
    have := hl rfl
    have hlen := metNorm_len m (by omega) (by omega)
    have hmi := mis_ev m hm (by omega)
    have haw : Ev (fun k => (forebaylaw07_awake.f k).bind fun t => (some t)) true := Ev.bind awake07_ev (Ev.now _)
    have hfin : ∀ p : Bool, p = true → Ev (fun k => if p = true then ((forebaylaw07_awake.f k).bind fun t => (some t)) else none) true := fun p hp => Ev.congr (fun k => if_pos hp) haw
    refine Ev.congr (fun k => if_pos rfl) ?_
    rw [mnorm_f m hm (by omega) (by omega)]
    by_cases hc : (metNorm m).2 = 0
    · obtain ⟨g1, g2, g3, g4⟩ := metNorm_good m hm hc
      have hni := mis_ev (metNorm m).1 g1 (by omega)
      rw [decide_eq_true g2, g3] at hni
      have hti := tagis_ev (metNorm m).1.f4 (by omega)
      rw [g3] at hti
      obtain ⟨t, ht1, ht2⟩ := meq_ev (metNorm m).1 (metNorm m).1 (by omega) (by omega)
      rw [ht2.2 rfl] at ht1
      obtain ⟨u, hu1, hu2⟩ := msame_ev m (metNorm m).1 hm g1 (by omega) (by omega) (by omega) (by omega)
      rw [hu2.2 ⟨hc, by rw [g4], by rw [g4]⟩] at hu1
      obtain ⟨v, hv1, hv2⟩ := meq_ev m (metNorm m).1 (by omega) (by omega)
      refine Ev.congr (f := fun k => (metric_Is.f k (metNorm m).1.f0 (metNorm m).1.f1 (metNorm m).1.f2 (metNorm m).1.f3 (metNorm m).1.f4 (metNorm m).1.f5).bind fun t459 => (if t459 = true then ((tag_Is.f k (metNorm m).1.f4).bind fun t460 => (if t460 = true then ((metric_Equal.f k (metNorm m).1.f0 (metNorm m).1.f1 (metNorm m).1.f2 (metNorm m).1.f3 (metNorm m).1.f4 (metNorm m).1.f5 (metNorm m).1.f0 (metNorm m).1.f1 (metNorm m).1.f2 (metNorm m).1.f3 (metNorm m).1.f4 (metNorm m).1.f5).bind fun t461 => (if t461 = true then ((metric_Same.f k m.f0 m.f1 m.f2 m.f3 m.f4 m.f5 (metNorm m).1.f0 (metNorm m).1.f1 (metNorm m).1.f2 (metNorm m).1.f3 (metNorm m).1.f4 (metNorm m).1.f5).bind fun t462 => (if t462 = true then ((metric_Is.f k m.f0 m.f1 m.f2 m.f3 m.f4 m.f5).bind fun t463 => (if metBad m = 0 then ((metric_Equal.f k m.f0 m.f1 m.f2 m.f3 m.f4 m.f5 (metNorm m).1.f0 (metNorm m).1.f1 (metNorm m).1.f2 (metNorm m).1.f3 (metNorm m).1.f4 (metNorm m).1.f5).bind fun t465 => (if (t463 == t465) = true then ((forebaylaw07_awake.f k).bind fun t466 => (some t466)) else (none))) else (if (t463 == false) = true then ((forebaylaw07_awake.f k).bind fun t467 => (some t467)) else (none)))) else (none))) else (none))) else (none))) else none)) (fun k => ?_) ?_
      · rw [Option.bind_some]
        refine (if_pos hc).trans ?_
        refine (congrArg (fun o => Option.bind o _) (mnorm_f (metNorm m).1 g1 (by omega) (by omega))).trans ?_
        rw [Option.bind_some]
        refine (congrArg (fun o => Option.bind o _) (mcheck_f (metNorm m).1 g1)).trans ?_
        rw [Option.bind_some, if_pos g2]
        have hT : normT (metNorm m).1 = normT m := by unfold normT; rw [g4, hc]
        rw [hT]
        have hz : (normT m).2.2.2.2.2.2 = 0 := hc
        simp only [if_pos hz, mcheck_f m hm, Option.bind_some]
        rfl
      · refine Ev.bind hni (Ev.congr (fun k => if_pos rfl) (Ev.bind hti (Ev.congr (fun k => if_pos rfl) (Ev.bind ht1 (Ev.congr (fun k => if_pos rfl) (Ev.bind hu1 (Ev.congr (fun k => if_pos rfl) (Ev.bind hmi ?_))))))))
        by_cases hz : metBad m = 0
        · refine Ev.congr (fun k => if_pos hz) (Ev.bind hv1 (hfin _ ?_))
          have hq : (decide (metBad m = 0) && tIs m.f4) = v := by
            rw [decide_eq_true hz, Bool.true_and, Bool.eq_iff_iff, hv2, metNorm_is m hm hz]
          rw [hq]
          exact beq_self_eq_true v
        · exact Ev.congr (fun k => if_neg hz) (hfin _ (by rw [decide_eq_false hz]; rfl))
    · have hz := metNorm_code m hm hc
      have h0 := metNorm_zero m hc
      obtain ⟨u, hu1, hu2⟩ := msame_ev m m hm hm (by omega) (by omega) (by omega) (by omega)
      have hu : u = false := by
        cases u with
        | false => rfl
        | true => exact absurd (hu2.1 rfl).1 hc
      rw [hu] at hu1
      rw [decide_eq_false hz, Bool.false_and] at hmi
      obtain ⟨t, ht1, ht2⟩ := meq_ev (metNorm m).1 metZ (by omega) (by omega)
      rw [ht2.2 h0] at ht1
      refine Ev.congr (f := fun k => (metric_Is.f k m.f0 m.f1 m.f2 m.f3 m.f4 m.f5).bind fun t442 => (if t442 = true then (none) else ((metric_Same.f k m.f0 m.f1 m.f2 m.f3 m.f4 m.f5 m.f0 m.f1 m.f2 m.f3 m.f4 m.f5).bind fun t443 => (if t443 = true then (none) else ((metric_Equal.f k (metNorm m).1.f0 (metNorm m).1.f1 (metNorm m).1.f2 (metNorm m).1.f3 (metNorm m).1.f4 (metNorm m).1.f5 (⟨#[]⟩ : ByteArray) 0 [] 0 [] 0).bind fun t444 => (if t444 = true then ((forebaylaw07_awake.f k).bind fun t445 => (some t445)) else (none))))))) (fun k => ?_) ?_
      · rw [Option.bind_some]
        refine (if_neg hc).trans ?_
        refine (congrArg (fun o => Option.bind o _) (mcheck_f m hm)).trans ?_
        rw [Option.bind_some, if_neg hz]
        rfl
      · exact Ev.bind hmi (Ev.congr (fun k => if_neg (by decide)) (Ev.bind hu1 (Ev.congr (fun k => if_neg (by decide)) (Ev.bind ht1 (Ev.congr (fun k => if_pos rfl) haw)))))
theorem metricOnce_walk (m : S25) (Av : Option Addr) (cv : Nat) (At : Option Addr) (ct : Nat) (w : World) (hm : MetC m Av cv At ct w) (hi : metIn m = true) :
    Calls Try.prog 8 #[.agg #[.string m.f0, .int .i64 m.f1, .slice Av m.f2.length cv, .int .i64 m.f3, .slice At m.f4.length ct, .int .i64 m.f5]] w fun e w' => e = .returned (.bool true) ∧ Below w.heap.size w w' := by
  obtain ⟨k, hk⟩ := metricOnce_pure m hi
  exact forebaylaw07_MetricOnce.calls k m.f0 m.f1 Av cv m.f2 m.f3 At ct m.f4 m.f5 true w hm.v hm.vc hm.t hm.tc hk
namespace metricOnce
open Go.ChangeShapes Go.WideShapes Go.ChangeAt Go.RowKit
open Go.ChangeMaps (open_string shut_string)
theorem own : ownKnob Try.prog.godebug = none := by kernel_rfl
theorem laidOut : laidOutB Try.prog = true := by kernel_rfl
set_option maxRecDepth 100000 in
theorem lifted (os : Os) (started : os.Started) (H : Type) (enc : TypeId × Value → H) :
    ReturnsInHanded {} Try.checked os 8 .any (Rows.metricOnceSpec.pre6 enc Try.prog Try.f8 Rows.metricOnceRow.domain false) (Rows.metricOnceSpec.post enc Try.prog Try.f8 false true false false) := by
  refine returnsInHanded_of_change_sized (C := Try.checked) own started (by kernel_rfl) Try.func8
    (ChangeSpec.witness6 (enc := enc) (C := Try.checked) false ⟨#[], #[.agg #[.string ByteArray.empty, .int .i64 0, .slice none 0 0, .int .i64 0, .slice none 0 0, .int .i64 0]], []⟩ 8 (by kernel_rfl) (by kernel_rfl) (by kernel_rfl) (by kernel_rfl)) ?_
  intro W base args ds gs before hval0 hW hcnd hsz0 _
  have hsz : (DataW.weightsEach Try.prog (Try.f8.params.toList ++ Rows.metricOnceSpec.plain.varTypes Try.prog) (ds ++ gs)).all (· ≤ reachBytes) = true := hsz0
  have hval : ∀ (j : Nat) t v, Try.f8.params[j]? = some t → args[j]? = some v → Value.okWide Try.prog W .any base t v := hval0
  have hW' := hW
  obtain ⟨p, q, hA0, hV, rfl, hfz, hnd⟩ := hW
  have hA : DataW.TrodAll enc Try.prog W 0 (fun _ => true) true Try.f8.params.toList args.toList ds p := hA0
  rw [Try.params8] at hA hval hsz
  obtain ⟨v0, vs0, d0, ds0, p0, q0, hargs, rfl, rfl, h0, r0⟩ := trodAll_cons hA
  obtain ⟨rfl, rfl, rfl⟩ := trodAll_nil r0
  obtain rfl : args = #[v0] := by cases args; simp_all
  obtain ⟨rfl, rfl⟩ := trodVars_none hV
  have k0 := h0
  have lt0 : ∀ x ∈ p0, x.block < W.heap.size := by obtain ⟨m, hm⟩ := k0; exact DataW.trod_lt m _ _ _ hm
  obtain ⟨m0, A0, c0, B0, e0, rfl, g0, i0⟩ := open_metric (hval 0 25 v0 rfl rfl) h0
  clear hA0 hval0 hsz0 hsz
  refine (metricOnce_walk m0 A0 c0 B0 e0 W g0 i0).mono fun e W' ⟨he, bel⟩ => ?_
  subst he
  exact ⟨_, rfl, _, _, _, [], _, [], hW', trodAll_mk1 (shut_bool Try.underlying4 _), (trodAll_cons_mk (Below.trod laidOut (by kernel_rfl) (of_decide_eq_true (by kernel_rfl)) k0 bel lt0) trodAll_mk0), rfl, bel.frame _, fun h => by cases h⟩
theorem over : Rows.metricOnceRow.holds Try.pinned (OpenSpec.ofChange Rows.metricOnceSpec) :=
  OpenClaim.holds_of_wide 8 Try.f8 rfl rfl rfl rfl rfl rfl rfl ⟨rfl, rfl, rfl, rfl, rfl⟩ rfl rfl rfl rfl rfl (by kernel_rfl) Try.func8 (by kernel_rfl)
    (of_decide_eq_true (by kernel_rfl)) (by unfold Func.isWrapper; first | (rw [if_pos (by decide +kernel)]; kernel_rfl) | (rw [if_neg (by decide +kernel)]; exact ⟨rfl, rfl⟩))
    (fun os started H enc _ => lifted os started H enc)
theorem proved : Rows.MetricOnceSaid := over
end metricOnce
theorem metricOnce_holds : Rows.MetricOnceSaid := metricOnce.proved
#print axioms metricOnce_holds
end Go.Proofs.Yteamldgngknmfaa
