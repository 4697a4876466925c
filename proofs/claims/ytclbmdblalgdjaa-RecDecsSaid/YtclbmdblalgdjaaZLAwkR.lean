/- forebaylaw16: awake: always so; no condition. -/
import Derived.Test.YtclbmdblalgdjaaZLRecQ
import Derived.Test.YtclbmdblalgdjaaZLLaw15B
import Derived.Test.YtclbmdblalgdjaaZLPEx10
namespace Go.Proofs.Ytclbmdblalgdjaa
open Go.RowKit Go.Proofs.YtclbmdblalgdjaaW.PrintWords Go.Proofs.YtclbmdblalgdjaaW.PrintLast Go.Proofs.YtclbmdblalgdjaaW.PrintMore Go.Proofs.Ytclbmdblalgdjaa.PE
set_option linter.unusedVariables false
set_option linter.unusedSimpArgs false
def metA : MetS := ⟨⟨#[97]⟩, 1, [⟨false, 15, -1⟩], 1000000, [], 0⟩
theorem metA_bad : metBad metA = 0 := by decide +kernel
theorem metA_code : pcode [] metA = 0 := by
  unfold pcode
  rw [if_pos metA_bad, if_pos (by decide), if_neg (by decide)]
theorem metA_bytes : (pmet [] metA).1 = [0, 1, 97, 1, 1, 2, 15, 192, 132, 61, 0, 0] := by decide +kernel
theorem metA_in : metIn metA = true := by decide +kernel
set_option maxHeartbeats 4000000 in
set_option maxRecDepth 100000 in
theorem awake16_calls (w : World) : Calls Try.prog 10 #[] w fun e w' => e = .returned (.bool true) ∧ Below w.heap.size w w' := by
  have HB := Aside0.mk (Below.refl w.heap.size w)
  go_enter Try.func10, Try.ntmps10
  go_wp2_with fail
  with_reducible refine Calls.stepNew HB ?_
  clear HB
  intro g gm w1 HD HN HF hb1 HB
  go_wp2_with (first | ((with_reducible refine gate_dst (N := 6) rfl ?_); refine Kd.R_lit k48 _ 48 ?hg (N := 6) ?hd (xs := ([(⟨false, 15, -1⟩ : DecS)] : List DecS)) (inner := [.bool false, .int .u64 15, .int .i64 (-1)]) (ok := fun _ => True) (okp := fun _ => True) ?hr ?hp (fun _ hk => hk) trivial (Below.refl _ _) (Nat.le_refl _) (by simp) ?_; (case hd => rfl); (case hg => rfl); (case hr => first | (go_simp; done) | (go_simp; rfl)); (case hp => exact (Reps.c3 (show Kd.M k48 _ _ _ (⟨false, 15, -1⟩ : DecS) [.bool false, .int .u64 15, .int .i64 (-1)] from (k48_mkM _ _ _ (⟨false, 15, -1⟩ : DecS) )) (Reps.none _ _))); intro v6 w2 ho hb hg_ hnew_; clear hg_ hnew_; have HO := Aside0.mk ho; have HB2 := Aside0.mk hb; clear ho hb; obtain ⟨A6, c6, e6⟩ := Kd.R_slice HO.out; subst e6) | fail)
  have hq : Calls Try.prog 12 #[.pointer (some ⟨g, 0, none⟩), .agg #[.string ⟨#[97]⟩, .int .i64 1, .slice A6 1 c6, .int .i64 1000000, .slice none 0 0, .int .i64 0]] w2 (PPost ⟨g, gm, .slice none 0 0, []⟩ metA w2) := by
    obtain ⟨A, c, e, hle, _⟩ := Kd.R_reads HO.out
    injection e with e1 e2 e3
    refine recput_calls (okm := fun k => some k = (Value.slice A6 1 c6).ownBlock) ⟨g, gm, .slice none 0 0, []⟩ metA A6 c6 none 0 w2 (HD.out.below HB2.out) ⟨Kd.R_F (Kd.R_mono (Kd.R_tight rfl HO.out) (fun k hk => hk)), by rw [e3]; exact hle, fun W' hW => Kd.C_nil _ _, Nat.le_refl _, metA_in⟩ ?_ ?_
    · intro k hk hF
      have h1 := Kd.R_base HO.out k hk.symm
      have h2 := HD.out.lt k hF
      omega
    · exact fun k hk => Kd.R_lt HO.out k hk.symm
  refine hq.mono ?_
  rintro e w3 ⟨v, he, hR, vd, hd, hc, _⟩
  simp only [metA_code, if_true, metA_bytes] at he hR
  subst he
  obtain ⟨A9, c9, rfl, hle9, hC9⟩ := Kd.R_reads hR
  have HC9 := Aside0.mk hC9
  have HL9 := Aside0.mk hle9
  have HB3 := Aside0.mk (Below.trans (below_step HB.out HB2.out) (hc.to_below HF.out (Nat.le_trans (below_size HB.out) (below_size HB2.out))))
  clear hq hR hd hc hC9 hle9 HB HB2 HO HD HF HN hb1
  have HSM := Aside0.mk (fun b : Bool => forebaylaw16_same.calls A9 c9 [0, 1, 97, 1, 1, 2, 15, 192, 132, 61, 0, 0] (some ⟨w3.heap.size, 0, none⟩) 12 [0, 1, 97, 1, 1, 2, 15, 192, 132, 61, 0, 0] true (w3.alloc (.cells (nums .u8 [0, 1, 97, 1, 1, 2, 15, 192, 132, 61, 0, 0]).toArray 5)) (Kd.C_below HC9.out (below_alloc (Below.refl _ _) _)) HL9.out (lit_C 5 [0, 1, 97, 1, 1, 2, 15, 192, 132, 61, 0, 0] (by decide)) (by decide) (by unfold forebaylaw16_same.f; simp))
  go_wp2_with fail
  refine (HSM.out true).mono ?_
  rintro e w4 ⟨rfl, hd⟩
  have HB4 := Aside0.mk (below_step (below_alloc HB3.out (.cells (nums .u8 [0, 1, 97, 1, 1, 2, 15, 192, 132, 61, 0, 0]).toArray 5)) hd.below)
  clear hd HSM HC9 HB3
  go_wp2
  go_ret
  exact ⟨rfl, HB4.out⟩
end Go.Proofs.Ytclbmdblalgdjaa
