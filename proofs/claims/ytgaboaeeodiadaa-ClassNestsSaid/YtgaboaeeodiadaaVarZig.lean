/- varint.Zig, Zag, and the reference's answers: what they tell; no condition. -/
import Derived.Test.YtgaboaeeodiadaaVarGet
import Derived.Test.YtgaboaeeodiadaaSame02
namespace Go.Proofs.Ytgaboaeeodiadaa
open Go.RowKit Go.Proofs.YtgaboaeeodiadaaW.PrintWords Go.Proofs.YtgaboaeeodiadaaW.PrintLast Go.Proofs.YtgaboaeeodiadaaW.PrintMore
set_option linter.unusedVariables false
set_option maxHeartbeats 1000000 in
set_option maxRecDepth 100000 in
theorem zig_calls (n : Int) (h0 : -9223372036854775808 ≤ n) (h1 : n ≤ 9223372036854775807) (w : World) :
    Calls Try.prog 18 #[.int .i64 n] w fun e w' => e = .returned (.int .u64 (zigN n)) ∧ Below w.heap.size w w' := by
  have HB := Aside0.mk (And.intro h0 h1)
  clear h0 h1
  by_cases h : n < 0
  · have H := Aside0.mk h
    go_enter Try.func18, Try.ntmps18
    go_wp2
    go_ret
    exact ⟨by rw [← zig_neg HB.out.1 H.out]; rfl, by repeat (first | exact Below.refl _ _ | apply below_alloc | apply below_drew1)⟩
  · have H := Aside0.mk h
    go_enter Try.func18, Try.ntmps18
    go_wp2
    go_ret
    exact ⟨by rw [← zig_pos (by have := H.out; omega) HB.out.2]; rfl, by repeat (first | exact Below.refl _ _ | apply below_alloc | apply below_drew1)⟩
set_option maxHeartbeats 1000000 in
set_option maxRecDepth 100000 in
theorem zag_calls (m : Nat) (hm : m < 18446744073709551616) (w : World) :
    Calls Try.prog 20 #[.int .u64 m] w fun e w' => e = .returned (.int .i64 (zagZ m)) ∧ w = w' := by
  have HB := Aside0.mk hm
  have ha : bits .and .u64 (m : Int) 1 = ((m % 2 : Nat) : Int) := by rw [and_one_u64 _ (by omega) (by omega)]; rfl
  clear hm
  by_cases h : m % 2 = 1
  · have hb : (bits .and .u64 (m : Int) 1 == 1) = true := by rw [ha, h]; rfl
    have H := Aside0.mk h
    clear h ha
    go_enter Try.func20, Try.ntmps20
    go_wp2
    go_ret
    exact ⟨by rw [← zag_odd HB.out H.out]; rfl, rfl⟩
  · have hb : (bits .and .u64 (m : Int) 1 == 1) = false := by rw [ha, show m % 2 = 0 from by omega]; rfl
    have H := Aside0.mk h
    clear h ha
    have hz : zagZ m = wrap64 ((m : Int) / 2) := by
      have := HB.out
      unfold zagZ wrap64; rw [if_neg H.out]; omega
    have HZ := Aside0.mk hz
    clear hz
    go_enter Try.func20, Try.ntmps20
    go_wp2
    go_ret
    exact ⟨by rw [HZ.out]; rfl, rfl⟩
set_option maxHeartbeats 1000000 in
set_option maxRecDepth 100000 in
theorem refzig_calls (n : Int) (h0 : -9223372036854775808 ≤ n) (h1 : n ≤ 9223372036854775807) (w : World) :
    Calls Try.prog 19 #[.int .i64 n] w fun e w' => e = .returned (.int .u64 (zigN n)) ∧ w = w' := by
  have HB := Aside0.mk (And.intro h0 h1)
  clear h0 h1
  by_cases h : n < 0
  · have H := Aside0.mk h
    go_enter Try.func19, Try.ntmps19
    go_wp2
    go_ret
    exact ⟨by rw [← refzig_neg HB.out.1 H.out]; rfl, rfl⟩
  · have H := Aside0.mk h
    go_enter Try.func19, Try.ntmps19
    go_wp2
    go_ret
    exact ⟨by rw [← refzig_pos (by have := H.out; omega) HB.out.2]; rfl, rfl⟩

set_option maxHeartbeats 1000000 in
set_option maxRecDepth 100000 in
theorem refput_calls (n : Nat) (hn : n < 18446744073709551616) (w : World) :
    Calls Try.prog 31 #[.int .u64 n] w fun e w' => ∃ v, e = .returned v ∧ (Kd.int .u8).R 5 w' w.heap.size (fun _ => True) v (vput n) ∧ Below w.heap.size w w' := by
  have HN := Aside0.mk hn
  clear hn
  have HB := Aside0.mk (Below.refl w.heap.size w)
  go_enter Try.func31, Try.ntmps31
  go_wp2
  go_loopw [0, 3] (fun v0 v3 w' => ∃ (m : Nat) (done : List Int), v0 = .int .u64 m ∧ Aside0 (m < 18446744073709551616) ∧ Aside0 (done ++ vput m = vput n) ∧ Aside0 ((Kd.int .u8).R 5 w' w.heap.size (fun _ => True) v3 done) ∧ Aside0 (Below w.heap.size w w')) (fun v0 _ _ => (intOf v0).toNat)
  case atStart => exact ⟨n, [], rfl, HN, ⟨rfl⟩, ⟨R_lit_u8 5 (Nat.le_refl _) [] (by simp)⟩, ⟨below_alloc (Below.refl _ _) _⟩⟩
  case round =>
    obtain ⟨m, done, rfl, HM, HD, HV, HB⟩ := hrel
    have HL := Aside0.mk (vput_done HD.out HN.out)
    have HW := Aside0.mk (wrap_u64_div128 HM.out)
    by_cases hlt : m < 128
    · have hlt2 : ¬ 127 < (m : Int) := by omega
      go_wp2_with (first | ((with_reducible refine gate_dst (N := 20) rfl ?_); at_builtin; go_must (refine R_app_u8 rfl rfl rfl rfl uB iB HV HB HL ?_); intro v1 w1 ho hb; clear HB HV; have HB := hb; have HV := ho; clear ho hb))
      go_ret
      refine ⟨_, rfl, ?_, HB.out⟩
      have e : done ++ [(m : Int)] = vput n := by rw [← HD.out, vput_lt hlt]
      rw [← e]
      exact HV.out
    · have hlt2 : 127 < (m : Int) := by omega
      go_wp2_with (first | ((with_reducible refine gate_dst (N := 13) rfl ?_); at_builtin; go_must (refine R_app_u8 rfl rfl rfl rfl uB iB HV HB HL ?_); intro v1 w1 ho hb; clear HB HV; have HB := hb; have HV := ho; clear ho hb))
      go_roundw
      case rel => 
        exact ⟨m / 128, done ++ [_], by rw [HW.out], ⟨by have := HM.out; omega⟩, ⟨vput_round2 HD.out hlt⟩, HV, HB⟩
      case measure => have h := HW.out; simp [intOf]; omega
end Go.Proofs.Ytgaboaeeodiadaa
