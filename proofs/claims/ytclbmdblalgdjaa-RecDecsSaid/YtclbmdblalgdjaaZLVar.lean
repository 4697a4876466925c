/- Package varint: what its functions tell; no condition. -/
import Derived.Test.YtclbmdblalgdjaaZLPlVar
namespace Go.Proofs.Ytclbmdblalgdjaa
open Go.RowKit Go.Proofs.YtclbmdblalgdjaaW.PrintWords Go.Proofs.YtclbmdblalgdjaaW.PrintLast Go.Proofs.YtclbmdblalgdjaaW.PrintMore
set_option linter.unusedVariables false
theorem uB : Try.prog.underlying 34 = some (.slice 5) := by kernel_rfl
theorem iB : (Try.prog.info? 5).map (fun i => (i.zero, i.size, i.bytes)) = some (some (.int .u8 0), 1, 1) := by kernel_rfl
theorem mk10 : ∀ w : World, (Instr.makeSlice 34 (.int .i64 0) (.int .i64 10)).run Try.prog w = .ok (.slice (some ⟨w.heap.size, 0, none⟩) 0 10) (w.alloc (.cells (madeCells #[.int .u8 0] 10) 5)) := fun _ => by kernel_rfl
set_option maxHeartbeats 1000000 in
set_option maxRecDepth 100000 in
theorem put_calls (n : Nat) (hn : n < 18446744073709551616) (w : World) :
    Calls Try.prog 41 #[.int .u64 n] w fun e w' => ∃ v, e = .returned v ∧ (Kd.int .u8).R 5 w' w.heap.size (fun _ => True) v (vput n) ∧ Below w.heap.size w w' := by
  have HN := Aside0.mk hn
  clear hn
  have HB := Aside0.mk (Below.refl w.heap.size w)
  go_enter Try.func41, Try.ntmps41
  go_wp2_with (first | ((with_reducible refine gate_dst (N := 4) rfl ?_); refine R_make0 (Kd.int .u8) w.heap.size 5 rfl (madeCells #[.int .u8 0] 10) 10 ?hr (size_madeCells _ _) (by decide) (ok := fun _ => True) trivial HB.out (Nat.le_refl _) ?_; (case hr => (go_simp; rw [mk10]; go_simp)); intro v w1 hv hb; have HV := Aside0.mk hv; clear HB hv; have HB := Aside0.mk hb; clear hb))
  go_loopw [0, 3] (fun v0 v3 w' => ∃ (m : Nat) (done : List Int), v0 = .int .u64 m ∧ Aside0 (m < 18446744073709551616) ∧ Aside0 (done ++ vput m = vput n) ∧ Aside0 ((Kd.int .u8).R 5 w' w.heap.size (fun _ => True) v3 done) ∧ Aside0 (Below w.heap.size w w')) (fun v0 _ _ => (intOf v0).toNat)
  case atStart => exact ⟨n, [], rfl, HN, ⟨rfl⟩, HV, HB⟩
  case round =>
    obtain ⟨m, done, rfl, HM, HD, HV, HB⟩ := hrel
    have HL := Aside0.mk (vput_done HD.out HN.out)
    by_cases hlt : m < 128
    · go_wp2_with (first | ((with_reducible refine gate_dst (N := 19) rfl ?_); at_builtin; go_must (refine R_app_u8 rfl rfl rfl rfl uB iB HV HB HL ?_); intro v1 w1 ho hb; clear HB HV; have HB := hb; have HV := ho; clear ho hb))
      go_ret
      refine ⟨_, rfl, ?_, HB.out⟩
      have e : done ++ [(m : Int)] = vput n := by rw [← HD.out, vput_lt hlt]
      rw [← e]
      exact HV.out
    · go_wp2_with (first | ((with_reducible refine gate_dst (N := 14) rfl ?_); at_builtin; go_must (refine R_app_u8 rfl rfl rfl rfl uB iB HV HB HL ?_); intro v1 w1 ho hb; clear HB HV; have HB := hb; have HV := ho; clear ho hb))
      go_roundw
      case rel => exact ⟨m / 128, done ++ [_], by go_num, ⟨by have := HM.out; omega⟩, ⟨vput_round HD.out hlt⟩, HV, HB⟩
      case measure => simp [intOf]; omega
def ReadEnd (l : List Int) (I : Nat → World → Prop) (J : World → Prop) (w' : World) : Prop := if (vrd l 0 0).2.2 = 13 then J w' else I (vrd l 0 0).2.1 w'
set_option maxHeartbeats 1000000 in
set_option maxRecDepth 100000 in
theorem read_calls (F : FuncId) (fn : Func) (hf : Try.prog.funcs[F]? = some fn) (hname : (fn.name == "runtime.NumGoroutine") = false) (hb : fn.body.isSome = true) (caps : Array Value) (l : List Int) (I : Nat → World → Prop) (J : World → Prop)
    (h1 : ∀ i W, I i W → i < l.length → Calls Try.prog F caps W fun e W' => e = .returned (.tuple #[.int .u8 (l.getD i 0), .bool true]) ∧ I (i + 1) W')
    (h2 : ∀ W, I l.length W → Calls Try.prog F caps W fun e W' => e = .returned (.tuple #[.int .u8 0, .bool false]) ∧ J W')
    (hl : ∀ x ∈ l, 0 ≤ x ∧ x < 256)
    (w : World) (hI : I 0 w) :
    Calls Try.prog 92 #[.func (.func F) #[] caps] w fun e w' => e = .returned (.tuple #[.int .u64 ((vrd l 0 0).1 : Nat), .int .i64 ((vrd l 0 0).2.1 : Nat), .int .i64 (vrd l 0 0).2.2]) ∧ ReadEnd l I J w' := by
  have H1 := Aside0.mk h1
  have H2 := Aside0.mk h2
  have HL := Aside0.mk hl
  have HI := Aside0.mk hI
  have HF := Aside0.mk hf
  have HF1 := Aside0.mk hname
  have HF2 := Aside0.mk hb
  clear h1 h2 hl hI hf hname hb
  go_enter Try.func92, Try.ntmps92
  go_wp2
  go_step3
  go_wp2
  go_step3
  go_wp2
  go_loopw [5, 6] (fun v5 v6 w' => ∃ (i n : Nat), v5 = .int .u64 n ∧ v6 = .int .i64 i ∧ Aside0 (vrd (l.drop i) i n = vrd l 0 0) ∧ i ≤ l.length ∧ Aside0 (n < 128^i) ∧ i ≤ 9 ∧ Aside0 (I i w')) (fun _ v6 _ => l.length - (intOf v6).toNat)
  case atStart => exact ⟨0, 0, rfl, rfl, ⟨rfl⟩, Nat.zero_le _, ⟨by decide⟩, by omega, HI⟩
  case round =>
    obtain ⟨i, n, rfl, rfl, HD, hi, HN, hi9, HI1⟩ := hrel
    by_cases hlt : i < l.length
    · obtain ⟨b, hbe⟩ : ∃ b : Int, b = l.getD i 0 := ⟨_, rfl⟩
      obtain ⟨hb0, hb1⟩ : 0 ≤ b ∧ b < 256 := by
        rw [hbe, List.getD_eq_getElem?_getD, List.getElem?_eq_getElem hlt]
        exact HL.out _ (List.getElem_mem hlt)
      have HV := Aside0.mk (vrd_at (n := n) hlt hbe)
      have HBE := Aside0.mk hbe
      clear hbe
      by_cases h9 : i = 9 ∧ 1 < b
      · have hd : vrd l 0 0 = (0, i + 1, 10) := by rw [← HD.out, HV.out, if_pos h9]
        have HD2 := Aside0.mk hd
        clear hd HD HV
        obtain ⟨h9, hb9⟩ := h9
        have h9b : ((i : Int) + 1 == 10) = true := by simp; omega
        have H9 := Aside0.mk h9
        clear h9
        go_wp2_with (first | ((with_reducible refine gate_dst (N := 11) rfl ?_); go_must (refine goesV_ (some 11) rfl rfl rfl rfl HF.out HF1.out HF2.out caps (by simp) ?_); refine (H1.out i _ HI1.out hlt).mono ?_; rintro e w1 ⟨rfl, hi1⟩; rw [← HBE.out]; clear HI1; have HI1 := Aside0.mk hi1; clear hi1; refine ⟨_, rfl, ?_⟩))
        try rw [Exit.noGoto_ret]
        go_ret3
        unfold ReadEnd
        rw [HD2.out]
        exact ⟨rfl, by rw [if_neg (by simp)]; exact HI1.out⟩
      · have hd : vrd l 0 0 = (if b < 128 then (if b = 0 ∧ 0 < i then (0, i + 1, 21) else (n + b.toNat % 128 * 128 ^ i, i + 1, 0)) else vrd (l.drop (i + 1)) (i + 1) (n + b.toNat % 128 * 128 ^ i)) := by rw [← HD.out, HV.out, if_neg h9]
        have HVS := Aside0.mk (vor_step (i := i) HN.out hi9 hb0 hb1 (fun e => by omega))
        have HVB := Aside0.mk (vor_bound b.toNat HN.out)
        have HD2 := Aside0.mk hd
        clear hd HD HV
        have H9 := Aside0.mk h9
        clear h9
        by_cases h128 : b < 128
        · have hd : vrd l 0 0 = (if b = 0 ∧ 0 < i then (0, i + 1, 21) else (n + b.toNat % 128 * 128 ^ i, i + 1, 0)) := by rw [HD2.out, if_pos h128]
          have HD3 := Aside0.mk hd
          clear hd HD2
          have hi10 : ((i : Int) + 1 == 10) = true ∧ ¬ 1 < b ∨ ((i : Int) + 1 == 10) = false := by
            by_cases e : i = 9
            · exact .inl ⟨by simp; omega, fun h => H9.out ⟨e, h⟩⟩
            · exact .inr (by simp; omega)
          by_cases hz : b = 0 ∧ 0 < i
          · have hd : vrd l 0 0 = (0, i + 1, 21) := by rw [HD3.out, if_pos hz]
            have HD4 := Aside0.mk hd
            clear hd HD3
            obtain ⟨hz1, hz2⟩ := hz
            have hz3 : (b == 0) = true := by simp [hz1]
            have HZ := Aside0.mk hz1
            clear hz1
            rcases hi10 with ⟨hi10, hb2⟩ | hi10
            all_goals
              go_wp2_with (first | ((with_reducible refine gate_dst (N := 11) rfl ?_); go_must (refine goesV_ (some 11) rfl rfl rfl rfl HF.out HF1.out HF2.out caps (by simp) ?_); refine (H1.out i _ HI1.out hlt).mono ?_; rintro e w1 ⟨rfl, hi1⟩; rw [← HBE.out]; clear HI1; have HI1 := Aside0.mk hi1; clear hi1; refine ⟨_, rfl, ?_⟩))
              try rw [Exit.noGoto_ret]
              go_ret3
              unfold ReadEnd
              rw [HD4.out]
              exact ⟨rfl, by rw [if_neg (by simp)]; exact HI1.out⟩
          · have hd : vrd l 0 0 = (n + b.toNat % 128 * 128 ^ i, i + 1, 0) := by rw [HD3.out, if_neg hz]
            have HD4 := Aside0.mk hd
            clear hd HD3
            have hz3 : (b == 0) = true ∧ ¬ 1 < (i : Int) + 1 ∨ (b == 0) = false := by
              by_cases e : b = 0
              · exact .inl ⟨by simp [e], fun h => hz ⟨e, by omega⟩⟩
              · exact .inr (by simp [e])
            have HZ := Aside0.mk hz
            clear hz
            rcases hi10 with ⟨hi10, hb2⟩ | hi10
            all_goals rcases hz3 with ⟨hz3, hz4⟩ | hz3
            all_goals
              go_wp2_with (first | ((with_reducible refine gate_dst (N := 11) rfl ?_); go_must (refine goesV_ (some 11) rfl rfl rfl rfl HF.out HF1.out HF2.out caps (by simp) ?_); refine (H1.out i _ HI1.out hlt).mono ?_; rintro e w1 ⟨rfl, hi1⟩; rw [← HBE.out]; clear HI1; have HI1 := Aside0.mk hi1; clear hi1; refine ⟨_, rfl, ?_⟩))
              try rw [Exit.noGoto_ret]
              go_ret3
              unfold ReadEnd
              rw [HD4.out]
              exact ⟨by rw [HVS.out]; rfl, by rw [if_neg (by simp)]; exact HI1.out⟩
        · have hd : vrd l 0 0 = vrd (l.drop (i + 1)) (i + 1) (n + b.toNat % 128 * 128 ^ i) := by rw [HD2.out, if_neg h128]
          have HD3 := Aside0.mk hd
          clear hd HD2
          have h9 : i < 9 := by
            by_cases e : i = 9
            · exact absurd ⟨e, by omega⟩ H9.out
            · omega
          have h9b : ((i : Int) + 1 == 10) = false := by simp; omega
          go_wp2_with (first | ((with_reducible refine gate_dst (N := 11) rfl ?_); go_must (refine goesV_ (some 11) rfl rfl rfl rfl HF.out HF1.out HF2.out caps (by simp) ?_); refine (H1.out i _ HI1.out hlt).mono ?_; rintro e w1 ⟨rfl, hi1⟩; rw [← HBE.out]; clear HI1; have HI1 := Aside0.mk hi1; clear hi1; refine ⟨_, rfl, ?_⟩))
          refine ⟨⟨i + 1, _, by rw [HVS.out], by go_num, ⟨HD3.out.symm⟩, by omega, ⟨HVB.out⟩, by omega, HI1⟩, ?_⟩
          simp [intOf]; omega
    · have hd : vrd l 0 0 = (0, i, 13) := by rw [← HD.out, vrd_end l i n (by omega)]
      have HD2 := Aside0.mk hd
      clear hd HD
      have HE := Aside0.mk (show I l.length wr by rw [show l.length = i from by omega]; exact HI1.out)
      go_wp2_with (first | ((with_reducible refine gate_dst (N := 11) rfl ?_); go_must (refine goesV_ (some 11) rfl rfl rfl rfl HF.out HF1.out HF2.out caps (by simp) ?_); refine (H2.out _ HE.out).mono ?_; rintro e w1 ⟨rfl, hj⟩; have HJ := Aside0.mk hj; clear hj; refine ⟨_, rfl, ?_⟩))
      try rw [Exit.noGoto_ret]
      go_ret3
      unfold ReadEnd
      rw [HD2.out]
      exact ⟨rfl, by rw [if_pos rfl]; exact HJ.out⟩
end Go.Proofs.Ytclbmdblalgdjaa
