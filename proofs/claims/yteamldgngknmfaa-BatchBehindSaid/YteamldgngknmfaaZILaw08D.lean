/- BatchBehind: a batch behind another one has both's Normals, one behind the other, or what is wrong; for any two batches, no condition. -/
import Derived.Test.YteamldgngknmfaaZIRBatH
import Derived.Test.YteamldgngknmfaaZILawMetC
import Derived.Test.YteamldgngknmfaaRows
import Derived.Test.YteamldgngknmfaaZIPEx16
namespace Go.Proofs.Yteamldgngknmfaa
open Go.RowKit Go.Proofs.YteamldgngknmfaaW.PrintWords Go.Proofs.YteamldgngknmfaaW.PrintLast Go.Proofs.YteamldgngknmfaaW.PrintMore Go.Proofs.Yteamldgngknmfaa.PE
set_option linter.unusedVariables false
set_option linter.unusedSimpArgs false
theorem batchBehind_walk (a : List S25) (A : Option Addr) (c : Nat) (b : List S25) (B : Option Addr) (d : Nat) (w : World) (hA : k25.C w A a.length a) (hc : a.length ≤ c) (ha : ∀ m ∈ a, metIn m = true) (hB : k25.C w B b.length b) (hd : b.length ≤ d) (hb : ∀ m ∈ b, metIn m = true) :
    Calls Try.prog 10 #[.slice A a.length c, .slice B b.length d] w fun e w' => e = .returned (.bool true) ∧ Below w.heap.size w w' := by
  obtain ⟨k, hk⟩ := batchBehind_pure a b ha hb
  exact forebaylaw08_BatchBehind.calls k (fun k => k < w.heap.size) A c a (fun k => k < w.heap.size) B d b true w (Kd.V_mk hc (Kd.C_F heapM hA)) (Kd.V_mk hd (Kd.C_F heapM hB)) hk
namespace batchBehind
open Go.ChangeShapes Go.WideShapes Go.ChangeAt Go.RowKit
open Go.ChangeMaps (open_string shut_string)
theorem own : ownKnob Try.prog.godebug = none := by kernel_rfl
theorem laidOut : laidOutB Try.prog = true := by kernel_rfl
set_option maxRecDepth 100000 in
theorem lifted (os : Os) (started : os.Started) (H : Type) (enc : TypeId × Value → H) :
    ReturnsInHanded {} Try.checked os 10 .any (Rows.batchBehindSpec.pre6 enc Try.prog Try.f10 Rows.batchBehindRow.domain false) (Rows.batchBehindSpec.post enc Try.prog Try.f10 false true false false) := by
  refine returnsInHanded_of_change_sized (C := Try.checked) own started (by kernel_rfl) Try.func10
    (ChangeSpec.witness6 (enc := enc) (C := Try.checked) false ⟨#[], #[.slice none 0 0, .slice none 0 0], []⟩ 8 (by kernel_rfl) (by kernel_rfl) (by kernel_rfl) (by kernel_rfl)) ?_
  intro W base args ds gs before hval0 hW hcnd hsz0 _
  have hsz : (DataW.weightsEach Try.prog (Try.f10.params.toList ++ Rows.batchBehindSpec.plain.varTypes Try.prog) (ds ++ gs)).all (· ≤ reachBytes) = true := hsz0
  have hval : ∀ (j : Nat) t v, Try.f10.params[j]? = some t → args[j]? = some v → Value.okWide Try.prog W .any base t v := hval0
  have hW' := hW
  obtain ⟨p, q, hA0, hV, rfl, hfz, hnd⟩ := hW
  have hA : DataW.TrodAll enc Try.prog W 0 (fun _ => true) true Try.f10.params.toList args.toList ds p := hA0
  rw [Try.params10] at hA hval hsz
  obtain ⟨v0, vs0, d0, ds0, p0, q0, hargs, rfl, rfl, h0, r0⟩ := trodAll_cons hA
  obtain ⟨v1, vs1, d1, ds1, p1, q1, rfl, rfl, rfl, h1, r1⟩ := trodAll_cons r0
  obtain ⟨rfl, rfl, rfl⟩ := trodAll_nil r1
  obtain rfl : args = #[v0, v1] := by cases args; simp_all
  obtain ⟨rfl, rfl⟩ := trodVars_none hV
  have k0 := h0
  have lt0 : ∀ x ∈ p0, x.block < W.heap.size := by obtain ⟨m, hm⟩ := k0; exact DataW.trod_lt m _ _ _ hm
  obtain ⟨l0, A0, c0, rfl, g0, i0, j0⟩ := open_mets (hval 0 42 v0 rfl rfl) h0
  have k1 := h1
  have lt1 : ∀ x ∈ p1, x.block < W.heap.size := by obtain ⟨m, hm⟩ := k1; exact DataW.trod_lt m _ _ _ hm
  obtain ⟨l1, A1, c1, rfl, g1, i1, j1⟩ := open_mets (hval 1 42 v1 rfl rfl) h1
  clear hA0 hval0 hsz0 hsz
  refine (batchBehind_walk l0 A0 c0 l1 A1 c1 W g0 i0 j0 g1 i1 j1).mono fun e W' ⟨he, bel⟩ => ?_
  subst he
  exact ⟨_, rfl, _, _, _, [], _, [], hW', trodAll_mk1 (shut_bool Try.underlying4 _), (trodAll_cons_mk (Below.trod laidOut (by kernel_rfl) (of_decide_eq_true (by kernel_rfl)) k0 bel lt0) (trodAll_cons_mk (Below.trod laidOut (by kernel_rfl) (of_decide_eq_true (by kernel_rfl)) k1 bel lt1) trodAll_mk0)), rfl, bel.frame _, fun h => by cases h⟩
theorem over : Rows.batchBehindRow.holds Try.pinned (OpenSpec.ofChange Rows.batchBehindSpec) :=
  OpenClaim.holds_of_wide 10 Try.f10 rfl rfl rfl rfl rfl rfl rfl ⟨rfl, rfl, rfl, rfl, rfl⟩ rfl rfl rfl rfl rfl (by kernel_rfl) Try.func10 (by kernel_rfl)
    (of_decide_eq_true (by kernel_rfl)) (by unfold Func.isWrapper; first | (rw [if_pos (by decide +kernel)]; kernel_rfl) | (rw [if_neg (by decide +kernel)]; exact ⟨rfl, rfl⟩))
    (fun os started H enc _ => lifted os started H enc)
theorem proved : Rows.BatchBehindSaid := over
end batchBehind
theorem batchBehind_holds : Rows.BatchBehindSaid := batchBehind.proved
#print axioms batchBehind_holds
end Go.Proofs.Yteamldgngknmfaa
