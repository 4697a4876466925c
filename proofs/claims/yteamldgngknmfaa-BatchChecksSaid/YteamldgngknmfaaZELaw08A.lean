/- BatchChecks: which batches are right, or which metric is not, and how, and which form a batch has: its walk; for every batch, no condition. -/
import Derived.Test.YteamldgngknmfaaZERBat9
import Derived.Test.YteamldgngknmfaaZELawMetC
import Derived.Test.YteamldgngknmfaaRows
import Derived.Test.YteamldgngknmfaaZEPEx14
namespace Go.Proofs.Yteamldgngknmfaa
open Go.RowKit Go.Proofs.YteamldgngknmfaaW.PrintWords Go.Proofs.YteamldgngknmfaaW.PrintLast Go.Proofs.YteamldgngknmfaaW.PrintMore Go.Proofs.Yteamldgngknmfaa.PE
set_option linter.unusedVariables false
set_option linter.unusedSimpArgs false
theorem batchChecks_pure (l : List S25) (hi : ∀ m ∈ l, metIn m = true) : ∃ k, forebaylaw08_BatchChecks.f k l = some true := by
  refine Ev.rounds ?_
  obtain ⟨b, hb, hl⟩ := few8_ev l
  have haw : Ev (fun k => (forebaylaw08_awake.f k).bind fun t => (some t)) true := Ev.bind awake08_ev (Ev.now _)
  unfold forebaylaw08_BatchChecks.f
  refine Ev.bind hb ?_
  cases b with
  | false => exact Ev.congr (fun k => if_neg (by decide)) haw
  | true =>
    have h := hl rfl
    have hs := batNorm_small l h.2
    have hn := batNorm_len l
    have he := refeqb_ev (batNorm l).1 (batNorm l).1 (fun m hm => by have := hs m hm; omega) (by omega)
    rw [(metsEq_iff _ _).2 rfl] at he
    refine Ev.congr (f := fun k => (forebayref08_Check.f k l).bind fun bt515 => ((forebayref08_Normal.f k l).bind fun bt522 => (if (batBad l).1 = bt515.1 then (if (batBad l).2 = bt515.2 then ((forebayref08_Equal.f k (batNorm l).1 bt522.1).bind fun t527 => (if t527 = true then (if (batNorm l).2.1 = bt522.2.1 then (if (batNorm l).2.2 = bt522.2.2 then ((forebaylaw08_awake.f k).bind fun t528 => (some t528)) else (none)) else (none)) else (none))) else (none)) else (none)))) (fun k => ?_) (Ev.bind (refbat_ev l hi (fun m hm => (h.2 m hm).1)) (Ev.bind (refbatn_ev l hi h.2) ?_))
    · rw [if_pos rfl, batcheck_f l hi, Option.bind_some, batnorm_f l (small_of h.2 hi)]
      rfl
    · exact Ev.congr (fun k => by rw [if_pos rfl, if_pos rfl]) (Ev.bind he (Ev.congr (fun k => by rw [if_pos rfl, if_pos rfl, if_pos rfl]) haw))
theorem batchChecks_walk (l : List S25) (A : Option Addr) (c : Nat) (w : World) (hC : k25.C w A l.length l) (hc : l.length ≤ c) (hi : ∀ m ∈ l, metIn m = true) :
    Calls Try.prog 9 #[.slice A l.length c] w fun e w' => e = .returned (.bool true) ∧ Below w.heap.size w w' := by
  obtain ⟨k, hk⟩ := batchChecks_pure l hi
  exact forebaylaw08_BatchChecks.calls k A c l true w hC hc hk
namespace batchChecks
open Go.ChangeShapes Go.WideShapes Go.ChangeAt Go.RowKit
open Go.ChangeMaps (open_string shut_string)
theorem own : ownKnob Try.prog.godebug = none := by kernel_rfl
theorem laidOut : laidOutB Try.prog = true := by kernel_rfl
set_option maxRecDepth 100000 in
theorem lifted (os : Os) (started : os.Started) (H : Type) (enc : TypeId × Value → H) :
    ReturnsInHanded {} Try.checked os 9 .any (Rows.batchChecksSpec.pre6 enc Try.prog Try.f9 Rows.batchChecksRow.domain false) (Rows.batchChecksSpec.post enc Try.prog Try.f9 false true false false) := by
  refine returnsInHanded_of_change_sized (C := Try.checked) own started (by kernel_rfl) Try.func9
    (ChangeSpec.witness6 (enc := enc) (C := Try.checked) false ⟨#[], #[.slice none 0 0], []⟩ 8 (by kernel_rfl) (by kernel_rfl) (by kernel_rfl) (by kernel_rfl)) ?_
  intro W base args ds gs before hval0 hW hcnd hsz0 _
  have hsz : (DataW.weightsEach Try.prog (Try.f9.params.toList ++ Rows.batchChecksSpec.plain.varTypes Try.prog) (ds ++ gs)).all (· ≤ reachBytes) = true := hsz0
  have hval : ∀ (j : Nat) t v, Try.f9.params[j]? = some t → args[j]? = some v → Value.okWide Try.prog W .any base t v := hval0
  have hW' := hW
  obtain ⟨p, q, hA0, hV, rfl, hfz, hnd⟩ := hW
  have hA : DataW.TrodAll enc Try.prog W 0 (fun _ => true) true Try.f9.params.toList args.toList ds p := hA0
  rw [Try.params9] at hA hval hsz
  obtain ⟨v0, vs0, d0, ds0, p0, q0, hargs, rfl, rfl, h0, r0⟩ := trodAll_cons hA
  obtain ⟨rfl, rfl, rfl⟩ := trodAll_nil r0
  obtain rfl : args = #[v0] := by cases args; simp_all
  obtain ⟨rfl, rfl⟩ := trodVars_none hV
  have k0 := h0
  have lt0 : ∀ x ∈ p0, x.block < W.heap.size := by obtain ⟨m, hm⟩ := k0; exact DataW.trod_lt m _ _ _ hm
  obtain ⟨l0, A0, c0, rfl, g0, i0, j0⟩ := open_mets (hval 0 42 v0 rfl rfl) h0
  clear hA0 hval0 hsz0 hsz
  refine (batchChecks_walk l0 A0 c0 W g0 i0 j0).mono fun e W' ⟨he, bel⟩ => ?_
  subst he
  exact ⟨_, rfl, _, _, _, [], _, [], hW', trodAll_mk1 (shut_bool Try.underlying4 _), (trodAll_cons_mk (Below.trod laidOut (by kernel_rfl) (of_decide_eq_true (by kernel_rfl)) k0 bel lt0) trodAll_mk0), rfl, bel.frame _, fun h => by cases h⟩
theorem over : Rows.batchChecksRow.holds Try.pinned (OpenSpec.ofChange Rows.batchChecksSpec) :=
  OpenClaim.holds_of_wide 9 Try.f9 rfl rfl rfl rfl rfl rfl rfl ⟨rfl, rfl, rfl, rfl, rfl⟩ rfl rfl rfl rfl rfl (by kernel_rfl) Try.func9 (by kernel_rfl)
    (of_decide_eq_true (by kernel_rfl)) (by unfold Func.isWrapper; first | (rw [if_pos (by decide +kernel)]; kernel_rfl) | (rw [if_neg (by decide +kernel)]; exact ⟨rfl, rfl⟩))
    (fun os started H enc _ => lifted os started H enc)
theorem proved : Rows.BatchChecksSaid := over
end batchChecks
theorem batchChecks_holds : Rows.BatchChecksSaid := batchChecks.proved
#print axioms batchChecks_holds
end Go.Proofs.Yteamldgngknmfaa
