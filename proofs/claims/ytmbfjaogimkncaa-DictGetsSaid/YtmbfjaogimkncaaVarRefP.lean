/- forebayref02.Put: what it tells; no condition. -/
import Derived.Test.YtmbfjaogimkncaaVar
namespace Go.Proofs.Ytmbfjaogimkncaa
open Go.RowKit Go.Proofs.YtmbfjaogimkncaaW.PrintWords Go.Proofs.YtmbfjaogimkncaaW.PrintLast Go.Proofs.YtmbfjaogimkncaaW.PrintMore
set_option linter.unusedVariables false
set_option maxHeartbeats 1000000 in
set_option maxRecDepth 100000 in
theorem refput_calls (n : Nat) (hn : n < 18446744073709551616) (w : World) :
    Calls Try.prog 63 #[.int .u64 n] w fun e w' => ∃ v, e = .returned v ∧ (Kd.int .u8).R 5 w' w.heap.size (fun _ => True) v (vput n) ∧ Below w.heap.size w w' := by
  have HN := Aside0.mk hn
  clear hn
  have HB := Aside0.mk (Below.refl w.heap.size w)
  go_enter Try.func63, Try.ntmps63
  go_wp2
  go_loopw [0, 3] (fun v0 v3 w' => ∃ (m : Nat) (done : List Int), v0 = .int .u64 m ∧ Aside0 (m < 18446744073709551616) ∧ Aside0 (done ++ vput m = vput n) ∧ Aside0 ((Kd.int .u8).R 5 w' w.heap.size (fun _ => True) v3 done) ∧ Aside0 (Below w.heap.size w w')) (fun v0 _ _ => (intOf v0).toNat)
  case atStart => exact ⟨n, [], rfl, HN, ⟨rfl⟩, ⟨R_lit_u8 5 (Nat.le_refl _) [] (by simp)⟩, ⟨below_alloc (Below.refl _ _) _⟩⟩
  case round =>
    obtain ⟨m, done, rfl, HM, HD, HV, HB⟩ := hrel
    have HL := Aside0.mk (vput_done HD.out HN.out)
    have HW := Aside0.mk (wrap_u64_div128 HM.out)
    by_cases hlt : m < 128
    · have hlt2 : ¬ 127 < (m : Int) := by omega
      go_wp2_with (first | ((with_reducible refine gate_dst (N := 20) rfl ?_); at_builtin; go_must (refine R_app_u8 rfl rfl rfl rfl uB iB HV HB HL ?_); intro v1 w1 ho hb; clear HB HV; have HB := hb; have HV := ho; clear ho hb))
      go_ret
      refine ⟨_, rfl, ?_, HB.out⟩
      have e : done ++ [(m : Int)] = vput n := by rw [← HD.out, vput_lt hlt]
      rw [← e]
      exact HV.out
    · have hlt2 : 127 < (m : Int) := by omega
      go_wp2_with (first | ((with_reducible refine gate_dst (N := 13) rfl ?_); at_builtin; go_must (refine R_app_u8 rfl rfl rfl rfl uB iB HV HB HL ?_); intro v1 w1 ho hb; clear HB HV; have HB := hb; have HV := ho; clear ho hb))
      go_roundw
      case rel => 
        exact ⟨m / 128, done ++ [_], by rw [HW.out], ⟨by have := HM.out; omega⟩, ⟨vput_round2 HD.out hlt⟩, HV, HB⟩
      case measure => have h := HW.out; simp [intOf]; omega
end Go.Proofs.Ytmbfjaogimkncaa
