/- MetricTags: in which order tags come, and how often, is nothing to what is the same; values in another order are something: its row; for every metric, whatever swaps, no condition. -/
import Derived.Test.YteamldgngknmfaaZJRTags
import Derived.Test.YteamldgngknmfaaZJPEx19
import Derived.Test.YteamldgngknmfaaZJLawMetB
import Derived.Test.YteamldgngknmfaaZJInjN
import Derived.Test.YteamldgngknmfaaZJPEx8
import Derived.Test.YteamldgngknmfaaZJPEx14
import Derived.Test.YteamldgngknmfaaZJPEx16
import Derived.Test.YteamldgngknmfaaZJLawArr
import Derived.Test.YteamldgngknmfaaRows
namespace Go.Proofs.Yteamldgngknmfaa
open Go.RowKit Go.Proofs.YteamldgngknmfaaW.PrintWords Go.Proofs.YteamldgngknmfaaW.PrintLast Go.Proofs.YteamldgngknmfaaW.PrintMore Go.Proofs.Yteamldgngknmfaa.PE
set_option linter.unusedVariables false
set_option linter.unusedSimpArgs false
theorem metricTags_walk (m : S25) (Av : Option Addr) (cv : Nat) (At : Option Addr) (ct : Nat) (A1 : Option Addr) (c1 : Nat) (l : List Int) (x0 x1 x2 : Int) (w : World) (hm : MetC m Av cv At ct w) (hi : metIn m = true)
    (hC1 : (Kd.int .i64).C w A1 l.length l) (hwf1 : ∀ x ∈ l, (Lit.int .i64 x).wf = true) (hsz1 : l.length * 8 ≤ 140737488351232) (hcap1 : l.length ≤ c1)
    (h0 : -9223372036854775808 ≤ x0 ∧ x0 ≤ 9223372036854775807) (h1 : -9223372036854775808 ≤ x1 ∧ x1 ≤ 9223372036854775807) (h2 : -9223372036854775808 ≤ x2 ∧ x2 ≤ 9223372036854775807) :
    Calls Try.prog 6 #[.agg #[.string m.f0, .int .i64 m.f1, .slice Av m.f2.length cv, .int .i64 m.f3, .slice At m.f4.length ct, .int .i64 m.f5], .slice A1 l.length c1, .agg #[.int .i64 x0, .int .i64 x1, .int .i64 x2]] w fun e w' => e = .returned (.bool true) ∧ Below w.heap.size w w' := by
  obtain ⟨k, hk⟩ := metricTags_pure m hi l x0 x1 x2
  exact forebaylaw07_MetricTags.calls k m.f0 m.f1 Av cv m.f2 m.f3 At ct m.f4 m.f5 A1 c1 l x0 x1 x2 true w hm.v hm.vc hm.t hm.tc hC1 hcap1 hk
namespace metricTags
open Go.ChangeShapes Go.WideShapes Go.ChangeAt Go.RowKit
open Go.ChangeMaps (open_string shut_string)
theorem own : ownKnob Try.prog.godebug = none := by kernel_rfl
theorem laidOut : laidOutB Try.prog = true := by kernel_rfl
set_option maxRecDepth 100000 in
theorem lifted (os : Os) (started : os.Started) (H : Type) (enc : TypeId × Value → H) :
    ReturnsInHanded {} Try.checked os 6 .any (Rows.metricTagsSpec.pre6 enc Try.prog Try.f6 Rows.metricTagsRow.domain false) (Rows.metricTagsSpec.post enc Try.prog Try.f6 false true false false) := by
  refine returnsInHanded_of_change_sized (C := Try.checked) own started (by kernel_rfl) Try.func6
    (ChangeSpec.witness6 (enc := enc) (C := Try.checked) false ⟨#[], #[.agg #[.string ByteArray.empty, .int .i64 0, .slice none 0 0, .int .i64 0, .slice none 0 0, .int .i64 0], .slice none 0 0, .agg #[.int .i64 0, .int .i64 0, .int .i64 0]], []⟩ 8 (by kernel_rfl) (by kernel_rfl) (by kernel_rfl) (by kernel_rfl)) ?_
  intro W base args ds gs before hval0 hW hcnd hsz0 _
  have hsz : (DataW.weightsEach Try.prog (Try.f6.params.toList ++ Rows.metricTagsSpec.plain.varTypes Try.prog) (ds ++ gs)).all (· ≤ reachBytes) = true := hsz0
  have hval : ∀ (j : Nat) t v, Try.f6.params[j]? = some t → args[j]? = some v → Value.okWide Try.prog W .any base t v := hval0
  have hW' := hW
  obtain ⟨p, q, hA0, hV, rfl, hfz, hnd⟩ := hW
  have hA : DataW.TrodAll enc Try.prog W 0 (fun _ => true) true Try.f6.params.toList args.toList ds p := hA0
  rw [Try.params6] at hA hval hsz
  obtain ⟨v0, vs0, d0, ds0, p0, q0, hargs, rfl, rfl, h0, r0⟩ := trodAll_cons hA
  obtain ⟨v1, vs1, d1, ds1, p1, q1, rfl, rfl, rfl, h1, r1⟩ := trodAll_cons r0
  obtain ⟨v2, vs2, d2, ds2, p2, q2, rfl, rfl, rfl, h2, r2⟩ := trodAll_cons r1
  obtain ⟨rfl, rfl, rfl⟩ := trodAll_nil r2
  obtain rfl : args = #[v0, v1, v2] := by cases args; simp_all
  obtain ⟨rfl, rfl⟩ := trodVars_none hV
  have k0 := h0
  have lt0 : ∀ x ∈ p0, x.block < W.heap.size := by obtain ⟨m, hm⟩ := k0; exact DataW.trod_lt m _ _ _ hm
  obtain ⟨m0, A0, c0, B0, e0, rfl, g0, i0⟩ := open_metric (hval 0 25 v0 rfl rfl) h0
  obtain ⟨a1, len1, cap1, rfl⟩ := okWide_slice Try.underlying33 (hval 1 33 v1 rfl rfl)
  have k1 := h1
  have lt1 : ∀ x ∈ p1, x.block < W.heap.size := by obtain ⟨m, hm⟩ := k1; exact DataW.trod_lt m _ _ _ hm
  have y1 : len1 * 8 ≤ 140737488351232 := sized_ints hsz (j := 1) (t := 33) rfl rfl Try.underlying33 Try.underlying3 (by kernel_rfl) (by kernel_rfl) h1
  obtain ⟨l1, c1, b1, e1⟩ := open_row Try.underlying33 Try.underlying3 (by kernel_rfl) (by omega) h1
  obtain rfl := c1.1.symm
  obtain ⟨a2, b2, x2, rfl, rfl, rfl, w2, z2, y2⟩ := open_ints3 Try.underlying34 Try.underlying3 (by kernel_rfl) (by kernel_rfl) (hval 2 34 v2 rfl rfl) h2
  clear hA0 hval0 hsz0 hsz
  refine (metricTags_walk m0 A0 c0 B0 e0 a1 cap1 l1 a2 b2 x2 W g0 i0 c1 b1 y1 e1 (bounds_i64 w2) (bounds_i64 z2) (bounds_i64 y2)).mono fun e W' ⟨he, bel⟩ => ?_
  subst he
  exact ⟨_, rfl, _, _, _, [], _, [], hW', trodAll_mk1 (shut_bool Try.underlying4 _), (trodAll_cons_mk (Below.trod laidOut (by kernel_rfl) (of_decide_eq_true (by kernel_rfl)) k0 bel lt0) (trodAll_cons_mk (Below.trod laidOut (by kernel_rfl) (of_decide_eq_true (by kernel_rfl)) k1 bel lt1) (trodAll_cons_mk (shut_ints3 Try.underlying34 Try.underlying3 (by kernel_rfl) (by kernel_rfl) w2 z2 y2) trodAll_mk0))), rfl, bel.frame _, fun h => by cases h⟩
theorem over : Rows.metricTagsRow.holds Try.pinned (OpenSpec.ofChange Rows.metricTagsSpec) :=
  OpenClaim.holds_of_wide 6 Try.f6 rfl rfl rfl rfl rfl rfl rfl ⟨rfl, rfl, rfl, rfl, rfl⟩ rfl rfl rfl rfl rfl (by kernel_rfl) Try.func6 (by kernel_rfl)
    (of_decide_eq_true (by kernel_rfl)) (by unfold Func.isWrapper; first | (rw [if_pos (by decide +kernel)]; kernel_rfl) | (rw [if_neg (by decide +kernel)]; exact ⟨rfl, rfl⟩))
    (fun os started H enc _ => lifted os started H enc)
theorem proved : Rows.MetricTagsSaid := over
end metricTags
theorem metricTags_holds : Rows.MetricTagsSaid := metricTags.proved
#print axioms metricTags_holds
end Go.Proofs.Yteamldgngknmfaa
