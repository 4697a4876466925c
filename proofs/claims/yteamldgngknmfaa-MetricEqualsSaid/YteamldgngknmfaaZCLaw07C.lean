/- MetricEquals: when two metrics are the same, as they stand, and when they have one form: its walk; for any two metrics, no condition. -/
import Derived.Test.YteamldgngknmfaaZCRNormM
import Derived.Test.YteamldgngknmfaaZCRAwk7
import Derived.Test.YteamldgngknmfaaZCLawMetB
import Derived.Test.YteamldgngknmfaaRows
import Derived.Test.YteamldgngknmfaaZCPEx12
namespace Go.Proofs.Yteamldgngknmfaa
open Go.RowKit Go.Proofs.YteamldgngknmfaaW.PrintWords Go.Proofs.YteamldgngknmfaaW.PrintLast Go.Proofs.YteamldgngknmfaaW.PrintMore Go.Proofs.Yteamldgngknmfaa.PE
set_option linter.unusedVariables false
set_option linter.unusedSimpArgs false
theorem metricEquals_pure (a b : S25) (ha : metIn a = true) (hb : metIn b = true) : ∃ k, forebaylaw07_MetricEquals.f k a.f0 a.f1 a.f2 a.f3 a.f4 a.f5 b.f0 b.f1 b.f2 b.f3 b.f4 b.f5 = some true := by
  refine Ev.rounds ?_
  obtain ⟨p, hp, hla⟩ := few_ev a
  obtain ⟨q, hq, hlb⟩ := few_ev b
  have haw : Ev (fun k => (forebaylaw07_awake.f k).bind fun t => (some t)) true := Ev.bind awake07_ev (Ev.now _)
  have hj : Ev (fun k => forebaylaw07_MetricEquals.j0 k true a.f0 a.f1 a.f2 a.f3 a.f4 a.f5 b.f0 b.f1 b.f2 b.f3 b.f4 b.f5) true := Ev.step (fun k => by simp only [forebaylaw07_MetricEquals.j0]; exact if_pos trivial) haw
  unfold forebaylaw07_MetricEquals.f
  refine Ev.bind hp ?_
  cases p with
  | false => exact Ev.congr (fun k => if_neg (by decide)) hj
  | true =>
    refine Ev.congr (fun k => if_pos rfl) (Ev.bind hq ?_)
    cases q with
    | false => exact hj
    | true =>
      have := hla rfl
      have := hlb rfl
      have hlen := metNorm_len a (by omega) (by omega)
      obtain ⟨t, ht1, ht2⟩ := meq_ev a b (by omega) (by omega)
      obtain ⟨u, hu1, hu2⟩ := eqm_ev a b (by omega) (by omega)
      obtain ⟨x, hx1, hx2⟩ := msame_ev a b ha hb (by omega) (by omega) (by omega) (by omega)
      obtain ⟨y, hy1, hy2⟩ := msame_ev b a hb ha (by omega) (by omega) (by omega) (by omega)
      obtain ⟨z, hz1, hz2⟩ := eqm_ev (metNorm a).1 (metNorm b).1 (by omega) (by omega)
      have htu : (t == u) = true := by rw [beq_iff_eq, Bool.eq_iff_iff, ht2, hu2]
      have hyx : y = x := by
        rw [Bool.eq_iff_iff, hy2, hx2]
        exact ⟨fun h => ⟨h.2.1, h.1, h.2.2.symm⟩, fun h => ⟨h.2.1, h.1, h.2.2.symm⟩⟩
      have hj1 : Ev (fun k => forebaylaw07_MetricEquals.j1 k x a.f0 a.f1 a.f2 a.f3 a.f4 a.f5 b.f0 b.f1 b.f2 b.f3 b.f4 b.f5) true := by
        refine Ev.step (f := fun k => (metric_Equal.f k a.f0 a.f1 a.f2 a.f3 a.f4 a.f5 b.f0 b.f1 b.f2 b.f3 b.f4 b.f5).bind fun t342 => ((forebayref07_Equal.f k a.f0 a.f1 a.f2 a.f3 a.f4 a.f5 b.f0 b.f1 b.f2 b.f3 b.f4 b.f5).bind fun t343 => (if (t342 == t343) = true then ((metric_Same.f k a.f0 a.f1 a.f2 a.f3 a.f4 a.f5 b.f0 b.f1 b.f2 b.f3 b.f4 b.f5).bind fun t344 => (if (t344 == x) = true then ((metric_Same.f k b.f0 b.f1 b.f2 b.f3 b.f4 b.f5 a.f0 a.f1 a.f2 a.f3 a.f4 a.f5).bind fun t345 => (if (t345 == x) = true then ((forebaylaw07_awake.f k).bind fun t346 => (some t346)) else (none))) else (none))) else (none)))) (fun k => ?_) ?_
        · simp only [forebaylaw07_MetricEquals.j1]
        · exact Ev.bind ht1 (Ev.bind hu1 (Ev.congr (fun k => if_pos htu) (Ev.bind hx1 (Ev.congr (fun k => if_pos (beq_self_eq_true x)) (Ev.bind hy1 (Ev.congr (fun k => if_pos (by rw [hyx]; exact beq_self_eq_true x)) haw))))))
      have na := refnm_ev a ha (by omega) (by omega)
      have nb := refnm_ev b hb (by omega) (by omega)
      refine Ev.step (f := fun k => (forebayref07_Normal.f k a.f0 a.f1 a.f2 a.f3 a.f4 a.f5).bind fun bt317 => ((forebayref07_Normal.f k b.f0 b.f1 b.f2 b.f3 b.f4 b.f5).bind fun bt329 => (if bt317.2.2.2.2.2.2 = 0 then (if bt329.2.2.2.2.2.2 = 0 then ((forebayref07_Equal.f k bt317.1 bt317.2.1 bt317.2.2.1 bt317.2.2.2.1 bt317.2.2.2.2.1 bt317.2.2.2.2.2.1 bt329.1 bt329.2.1 bt329.2.2.1 bt329.2.2.2.1 bt329.2.2.2.2.1 bt329.2.2.2.2.2.1).bind fun t341 => (forebaylaw07_MetricEquals.j1 k t341 a.f0 a.f1 a.f2 a.f3 a.f4 a.f5 b.f0 b.f1 b.f2 b.f3 b.f4 b.f5)) else (forebaylaw07_MetricEquals.j1 k false a.f0 a.f1 a.f2 a.f3 a.f4 a.f5 b.f0 b.f1 b.f2 b.f3 b.f4 b.f5)) else (forebaylaw07_MetricEquals.j1 k false a.f0 a.f1 a.f2 a.f3 a.f4 a.f5 b.f0 b.f1 b.f2 b.f3 b.f4 b.f5)))) (fun k => ?_) (Ev.bind na (Ev.bind nb ?_))
      · simp only [forebaylaw07_MetricEquals.j0]
        exact if_neg (by decide)
      · by_cases c1 : (metNorm a).2 = 0
        · by_cases c2 : (metNorm b).2 = 0
          · have hxz : x = z := by
              rw [Bool.eq_iff_iff, hx2, hz2]
              exact ⟨fun h => h.2.2, fun h => ⟨c1, c2, h⟩⟩
            rw [hxz] at hj1
            exact Ev.congr (fun k => if_pos c1) (Ev.congr (fun k => if_pos c2) (Ev.bind hz1 hj1))
          · have hxz : x = false := by
              cases x with
              | false => rfl
              | true => exact absurd (hx2.1 rfl).2.1 c2
            rw [hxz] at hj1
            exact Ev.congr (fun k => if_pos c1) (Ev.congr (fun k => if_neg c2) hj1)
        · have hxz : x = false := by
            cases x with
            | false => rfl
            | true => exact absurd (hx2.1 rfl).1 c1
          rw [hxz] at hj1
          exact Ev.congr (fun k => if_neg c1) hj1
theorem metricEquals_walk (a : S25) (Av : Option Addr) (cv : Nat) (At : Option Addr) (ct : Nat) (b : S25) (Bv : Option Addr) (dv : Nat) (Bt : Option Addr) (dt : Nat) (w : World) (ha : MetC a Av cv At ct w) (hia : metIn a = true) (hb : MetC b Bv dv Bt dt w) (hib : metIn b = true) :
    Calls Try.prog 5 #[.agg #[.string a.f0, .int .i64 a.f1, .slice Av a.f2.length cv, .int .i64 a.f3, .slice At a.f4.length ct, .int .i64 a.f5], .agg #[.string b.f0, .int .i64 b.f1, .slice Bv b.f2.length dv, .int .i64 b.f3, .slice Bt b.f4.length dt, .int .i64 b.f5]] w fun e w' => e = .returned (.bool true) ∧ Below w.heap.size w w' := by
  obtain ⟨k, hk⟩ := metricEquals_pure a b hia hib
  exact forebaylaw07_MetricEquals.calls k a.f0 a.f1 Av cv a.f2 a.f3 At ct a.f4 a.f5 b.f0 b.f1 Bv dv b.f2 b.f3 Bt dt b.f4 b.f5 true w ha.v ha.vc ha.t ha.tc hb.v hb.vc hb.t hb.tc hk
namespace metricEquals
open Go.ChangeShapes Go.WideShapes Go.ChangeAt Go.RowKit
open Go.ChangeMaps (open_string shut_string)
theorem own : ownKnob Try.prog.godebug = none := by kernel_rfl
theorem laidOut : laidOutB Try.prog = true := by kernel_rfl
set_option maxRecDepth 100000 in
theorem lifted (os : Os) (started : os.Started) (H : Type) (enc : TypeId × Value → H) :
    ReturnsInHanded {} Try.checked os 5 .any (Rows.metricEqualsSpec.pre6 enc Try.prog Try.f5 Rows.metricEqualsRow.domain false) (Rows.metricEqualsSpec.post enc Try.prog Try.f5 false true false false) := by
  refine returnsInHanded_of_change_sized (C := Try.checked) own started (by kernel_rfl) Try.func5
    (ChangeSpec.witness6 (enc := enc) (C := Try.checked) false ⟨#[], #[.agg #[.string ByteArray.empty, .int .i64 0, .slice none 0 0, .int .i64 0, .slice none 0 0, .int .i64 0], .agg #[.string ByteArray.empty, .int .i64 0, .slice none 0 0, .int .i64 0, .slice none 0 0, .int .i64 0]], []⟩ 8 (by kernel_rfl) (by kernel_rfl) (by kernel_rfl) (by kernel_rfl)) ?_
  intro W base args ds gs before hval0 hW hcnd hsz0 _
  have hsz : (DataW.weightsEach Try.prog (Try.f5.params.toList ++ Rows.metricEqualsSpec.plain.varTypes Try.prog) (ds ++ gs)).all (· ≤ reachBytes) = true := hsz0
  have hval : ∀ (j : Nat) t v, Try.f5.params[j]? = some t → args[j]? = some v → Value.okWide Try.prog W .any base t v := hval0
  have hW' := hW
  obtain ⟨p, q, hA0, hV, rfl, hfz, hnd⟩ := hW
  have hA : DataW.TrodAll enc Try.prog W 0 (fun _ => true) true Try.f5.params.toList args.toList ds p := hA0
  rw [Try.params5] at hA hval hsz
  obtain ⟨v0, vs0, d0, ds0, p0, q0, hargs, rfl, rfl, h0, r0⟩ := trodAll_cons hA
  obtain ⟨v1, vs1, d1, ds1, p1, q1, rfl, rfl, rfl, h1, r1⟩ := trodAll_cons r0
  obtain ⟨rfl, rfl, rfl⟩ := trodAll_nil r1
  obtain rfl : args = #[v0, v1] := by cases args; simp_all
  obtain ⟨rfl, rfl⟩ := trodVars_none hV
  have k0 := h0
  have lt0 : ∀ x ∈ p0, x.block < W.heap.size := by obtain ⟨m, hm⟩ := k0; exact DataW.trod_lt m _ _ _ hm
  obtain ⟨m0, A0, c0, B0, e0, rfl, g0, i0⟩ := open_metric (hval 0 25 v0 rfl rfl) h0
  have k1 := h1
  have lt1 : ∀ x ∈ p1, x.block < W.heap.size := by obtain ⟨m, hm⟩ := k1; exact DataW.trod_lt m _ _ _ hm
  obtain ⟨m1, A1, c1, B1, e1, rfl, g1, i1⟩ := open_metric (hval 1 25 v1 rfl rfl) h1
  clear hA0 hval0 hsz0 hsz
  refine (metricEquals_walk m0 A0 c0 B0 e0 m1 A1 c1 B1 e1 W g0 i0 g1 i1).mono fun e W' ⟨he, bel⟩ => ?_
  subst he
  exact ⟨_, rfl, _, _, _, [], _, [], hW', trodAll_mk1 (shut_bool Try.underlying4 _), (trodAll_cons_mk (Below.trod laidOut (by kernel_rfl) (of_decide_eq_true (by kernel_rfl)) k0 bel lt0) (trodAll_cons_mk (Below.trod laidOut (by kernel_rfl) (of_decide_eq_true (by kernel_rfl)) k1 bel lt1) trodAll_mk0)), rfl, bel.frame _, fun h => by cases h⟩
theorem over : Rows.metricEqualsRow.holds Try.pinned (OpenSpec.ofChange Rows.metricEqualsSpec) :=
  OpenClaim.holds_of_wide 5 Try.f5 rfl rfl rfl rfl rfl rfl rfl ⟨rfl, rfl, rfl, rfl, rfl⟩ rfl rfl rfl rfl rfl (by kernel_rfl) Try.func5 (by kernel_rfl)
    (of_decide_eq_true (by kernel_rfl)) (by unfold Func.isWrapper; first | (rw [if_pos (by decide +kernel)]; kernel_rfl) | (rw [if_neg (by decide +kernel)]; exact ⟨rfl, rfl⟩))
    (fun os started H enc _ => lifted os started H enc)
theorem proved : Rows.MetricEqualsSaid := over
end metricEquals
theorem metricEquals_holds : Rows.MetricEqualsSaid := metricEquals.proved
#print axioms metricEquals_holds
end Go.Proofs.Yteamldgngknmfaa
