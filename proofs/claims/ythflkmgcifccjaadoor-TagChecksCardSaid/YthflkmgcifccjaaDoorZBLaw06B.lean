/- TagChecks: which tags are right, and which one is ahead; for any two tags. The card: the listed tables are tied to the program's text; no other condition. -/
import Derived.Test.YthflkmgcifccjaaDoorZBBase
import Derived.ProofKit
import Derived.ShutString
import Derived.ChangeOld
import Derived.SizedLaws
import Derived.ChangeSlices
import Derived.SliceStrings
import Derived.Test.YthflkmgcifccjaaDoorZBLawTag
import Derived.Test.YthflkmgcifccjaaDoorZBLawCard
import Derived.Test.YthflkmgcifccjaaDoorZBRTagL
import Derived.Test.YthflkmgcifccjaaDoorZBPEx4
namespace Go.Proofs.YthflkmgcifccjaaDoor
open Go.RowKit Go.Proofs.YthflkmgcifccjaaDoorW.PrintWords Go.Proofs.YthflkmgcifccjaaDoorW.PrintLast Go.Proofs.YthflkmgcifccjaaDoorW.PrintMore Go.Proofs.YthflkmgcifccjaaDoor.PE
set_option linter.unusedVariables false
set_option linter.unusedSimpArgs false
theorem tagChecks_walk (a b : S34) (w : World) (hM : MaxAt w) (ha : tagIn a = true) (hb : tagIn b = true) :
    Calls Tryd.prog 5 #[.agg #[.string a.f0, .string a.f1], .agg #[.string b.f0, .string b.f1]] w fun e w' => e = .returned (.bool true) ∧ Below w.heap.size w w' := by
  obtain ⟨k, hk⟩ := tagChecks_pure a b ha hb
  exact forebaylaw06_TagChecks.calls k a.f0 a.f1 b.f0 b.f1 true w hk hM
namespace tagChecks
open Go.ChangeShapes Go.WideShapes Go.ChangeAt Go.RowKit
open Go.ChangeMaps (open_string shut_string)
theorem own : ownKnob Tryd.prog.godebug = none := by kernel_rfl
theorem laidOut : laidOutB Tryd.prog = true := by kernel_rfl
theorem witness_row (os : Os) {H : Type} (enc : TypeId × Value → H) :
    (OpenSpec.ofChange Rows.tagChecksSpec).preRow enc Tryd.prog Tryd.f5 Rows.tagChecksRow.domain false Rows.tagChecksRow.laid ((laidWorld os).forCall (fun _ _ => 0) ⟨#[], #[.agg #[.string ByteArray.empty, .string ByteArray.empty], .agg #[.string ByteArray.empty, .string ByteArray.empty]], []⟩).memory #[.agg #[.string ByteArray.empty, .string ByteArray.empty], .agg #[.string ByteArray.empty, .string ByteArray.empty]] := by
  have hw : (DataW.whole enc Tryd.prog ((laidWorld os).forCall (fun _ _ => 0) ⟨#[], #[.agg #[.string ByteArray.empty, .string ByteArray.empty], .agg #[.string ByteArray.empty, .string ByteArray.empty]], []⟩).memory Tryd.f5.params.toList (OpenSpec.ofChange Rows.tagChecksSpec).vars false (#[.agg #[.string ByteArray.empty, .string ByteArray.empty], .agg #[.string ByteArray.empty, .string ByteArray.empty]] : Array Value).toList 8).map (fun x => (x.1, x.2.1)) =
      some ([.agg [.lit (.string []), .lit (.string [])], .agg [.lit (.string []), .lit (.string [])]], []) := by kernel_rfl
  obtain ⟨⟨x1, x2, x3⟩, hx, hx1⟩ := Option.map_eq_some_iff.1 hw
  simp only [Prod.mk.injEq] at hx1
  obtain ⟨rfl, rfl⟩ := hx1
  exact OpenSpec.preRow_of_cond 8 hx (by kernel_rfl) (fun k hk => by cases hk) (by kernel_rfl) (laid_met os _)
set_option maxRecDepth 100000 in
set_option maxHeartbeats 2000000 in
theorem lifted (os : Os) (started : os.Started) (H : Type) (enc : TypeId × Value → H) (F : Stop.Interp) :
    ReturnsInHanded {} Tryd.checked os 5 .any ((OpenSpec.ofChange Rows.tagChecksSpec).preRow enc Tryd.prog Tryd.f5 Rows.tagChecksRow.domain false Rows.tagChecksRow.laid) (((OpenSpec.ofChange Rows.tagChecksSpec).at F).post enc Tryd.prog Tryd.f5 false true false false) := by
  refine returnsInHanded_of_row (C := Tryd.checked) (s := OpenSpec.ofChange Rows.tagChecksSpec) own started (by kernel_rfl) Tryd.func5
    (witness_row_atRef (enc := enc) (C := Tryd.checked) false (laidWorld os) #[.agg #[.string ByteArray.empty, .string ByteArray.empty], .agg #[.string ByteArray.empty, .string ByteArray.empty]] rfl (by kernel_rfl) (by kernel_rfl) (by kernel_rfl) (witness_row os enc)) ?_
  intro W base args ds gs before hval0 hW hcnd _ hsz0 hL hsh _
  have hsz : (DataW.weightsEach Tryd.prog (Tryd.f5.params.toList ++ Rows.tagChecksSpec.plain.varTypes Tryd.prog) (ds ++ gs)).all (· ≤ reachBytes) = true := hsz0
  have hval : ∀ (j : Nat) t v, Tryd.f5.params[j]? = some t → args[j]? = some v → Value.okWide Tryd.prog W .any base t v := hval0
  have hW' := hW
  obtain ⟨p, q, hA0, hV, rfl, hfz, hnd⟩ := hW
  have hA : DataW.TrodAll enc Tryd.prog W 0 (fun _ => true) true Tryd.f5.params.toList args.toList ds p := hA0
  rw [Tryd.params5] at hA hval hsz
  obtain ⟨v0, vs0, d0, ds0, p0, q0, hargs, rfl, rfl, h0, r0⟩ := trodAll_cons hA
  obtain ⟨v1, vs1, d1, ds1, p1, q1, rfl, rfl, rfl, h1, r1⟩ := trodAll_cons r0
  obtain ⟨rfl, rfl, rfl⟩ := trodAll_nil r1
  obtain rfl : args = #[v0, v1] := by cases args; simp_all
  obtain ⟨rfl, rfl⟩ := trodVars_none hV
  have k0 := h0
  have lt0 : ∀ x ∈ p0, x.block < W.heap.size := by obtain ⟨m, hm⟩ := k0; exact DataW.trod_lt m _ _ _ hm
  obtain ⟨t0, rfl, i0⟩ := open_tag (hval 0 34 v0 rfl rfl) h0
  have k1 := h1
  have lt1 : ∀ x ∈ p1, x.block < W.heap.size := by obtain ⟨m, hm⟩ := k1; exact DataW.trod_lt m _ _ _ hm
  obtain ⟨t1, rfl, i1⟩ := open_tag (hval 1 34 v1 rfl rfl) h1
  clear hA0 hval0 hsz0 hsz
  refine (tagChecks_walk t0 t1 W (maxAt_of hsh) i0 i1).mono fun e W' ⟨he, bel⟩ => ?_
  subst he
  exact ⟨_, rfl, _, _, _, [], _, [], hW', trodAll_mk1 (shut_bool Tryd.underlying4 _), (trodAll_cons_mk (Below.trod laidOut (by kernel_rfl) (of_decide_eq_true (by kernel_rfl)) k0 bel lt0) (trodAll_cons_mk (Below.trod laidOut (by kernel_rfl) (of_decide_eq_true (by kernel_rfl)) k1 bel lt1) trodAll_mk0)), rfl, bel.frame _, fun h => by cases h⟩
theorem over : Rows.tagChecksRow.holds Tryd.pinned (OpenSpec.ofChange Rows.tagChecksSpec) :=
  OpenClaim.holds_of_cond 5 Tryd.f5 rfl rfl rfl rfl rfl rfl rfl ⟨rfl, rfl, rfl, rfl, rfl⟩ rfl rfl rfl rfl rfl (by kernel_rfl) Tryd.func5 (by kernel_rfl)
    (of_decide_eq_true (by kernel_rfl)) (by unfold Func.isWrapper; first | (rw [if_pos (by decide +kernel)]; kernel_rfl) | (rw [if_neg (by decide +kernel)]; exact ⟨rfl, rfl⟩))
    (fun os started H enc _ F0 => by rw [OpenClaim.pre_eq_preRow]; exact lifted os started H enc F0)
theorem carded : Rows.TagChecksCardSaid :=
  Claim7.holds_tied_plain_at .later [] [.data, .pinned] true _ false
    over (fun _ h => by cases h) (by kernel_rfl) (fun _ h => by cases h) tagChecks_row_tie rfl ⟨rfl, rfl⟩ (by kernel_rfl) rfl
    (fun f fn hf hfn => by
      obtain rfl : f = 5 := Option.some.inj ((show Tryd.prog.funcNamed "forebay/forebaylaw06.TagChecks" = some 5 by kernel_rfl).symm.trans hf) |>.symm
      obtain rfl : fn = Tryd.f5 := (Option.some.inj (Tryd.func5.symm.trans hfn)).symm
      exact ⟨by kernel_rfl, fun j t ht => by
        rw [Tryd.params5] at ht
        have hm : t ∈ [34, 34] := by simpa using Array.mem_of_getElem? ht
        have hall : ([34, 34].all fun u => !Tryd.prog.wantsStandIn u) = true := by kernel_rfl
        exact (show Tryd.prog.wantsStandIn t = false by simpa using List.all_eq_true.1 hall t hm)⟩)
    (by kernel_rfl)
end tagChecks
theorem tagChecks_holds : Rows.TagChecksCardSaid := tagChecks.carded
#print axioms tagChecks_holds
end Go.Proofs.YthflkmgcifccjaaDoor
