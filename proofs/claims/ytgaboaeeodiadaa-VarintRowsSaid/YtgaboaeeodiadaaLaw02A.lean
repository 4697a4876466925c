/- The statements of layer 2 that reach varint's plain functions: their walks; no condition. -/
import Derived.Test.YtgaboaeeodiadaaVarRef
import Derived.Test.YtgaboaeeodiadaaLawKit
import Derived.Test.YtgaboaeeodiadaaRows
namespace Go.Proofs.Ytgaboaeeodiadaa
open Go.RowKit Go.Proofs.YtgaboaeeodiadaaW.PrintWords Go.Proofs.YtgaboaeeodiadaaW.PrintLast Go.Proofs.YtgaboaeeodiadaaW.PrintMore
set_option linter.unusedVariables false

theorem vget_a : vget [128, 0] = (0, 0, 21) := by decide +kernel
theorem vget_b : vget [128] = (0, 0, 13) := by decide +kernel
theorem vget_c : vget [255, 255, 255, 255, 255, 255, 255, 255, 255, 2] = (0, 0, 10) := by decide +kernel
theorem vput_300 : vput 300 = [172, 2] := by
  rw [vput_ge (by decide), vput_lt (by decide)]; rfl
theorem zig_3 : zigN (-3) = 5 := rfl
theorem lit_C {w : World} (e : TypeId) (xs : List Int) (hl : xs.length ≤ 9223372036854775807) : (Kd.int .u8).C (w.alloc (.cells (nums .u8 xs).toArray e)) (some ⟨w.heap.size, 0, none⟩) xs.length xs := by
  obtain ⟨A, c, e1, _, h⟩ := Kd.R_reads (R_lit_u8 (w := w) (base := 0) e (Nat.zero_le _) xs hl)
  injection e1 with e1
  subst e1
  exact h

set_option maxHeartbeats 2000000 in
set_option maxRecDepth 100000 in
theorem awake02_calls (w : World) : Calls Try.prog 15 #[] w fun e w' => e = .returned (.bool true) ∧ Below w.heap.size w w' := by
  have G1 := fun w0 : World => get_calls (some ⟨w0.heap.size, 0, none⟩) 2 [128, 0] (w0.alloc (.cells #[.int .u8 128, .int .u8 0] 5)) (lit_C 5 [128, 0] (by decide)) (by decide)
  have G2 := fun w0 : World => get_calls (some ⟨w0.heap.size, 0, none⟩) 1 [128] (w0.alloc (.cells #[.int .u8 128] 5)) (lit_C 5 [128] (by decide)) (by decide)
  have G3 := fun w0 : World => get_calls (some ⟨w0.heap.size, 0, none⟩) 10 [255, 255, 255, 255, 255, 255, 255, 255, 255, 2] (w0.alloc (.cells #[.int .u8 255, .int .u8 255, .int .u8 255, .int .u8 255, .int .u8 255, .int .u8 255, .int .u8 255, .int .u8 255, .int .u8 255, .int .u8 2] 5)) (lit_C 5 [255, 255, 255, 255, 255, 255, 255, 255, 255, 2] (by decide)) (by decide)
  rw [vget_a] at G1
  rw [vget_b] at G2
  rw [vget_c] at G3
  have H1 := Aside0.mk G1
  have H2 := Aside0.mk G2
  have H3 := Aside0.mk G3
  clear G1 G2 G3
  have HB := Aside0.mk (Below.refl w.heap.size w)
  go_enter Try.func15, Try.ntmps15
  go_wp2_with fail
  refine Calls.stepB (H1.out _) ⟨(by repeat (first | (with_reducible first | exact HB.out | apply below_alloc | apply pw_below_drewN | apply below_drew1) | exact HB.out))⟩ ?_
  clear HB
  intro w_ HK HB
  clear HK
  go_wp2_with fail
  refine Calls.stepB (H2.out _) ⟨(by repeat (first | (with_reducible first | exact HB.out | apply below_alloc | apply pw_below_drewN | apply below_drew1) | exact HB.out))⟩ ?_
  clear HB
  intro w_ HK HB
  clear HK
  go_wp2_with fail
  refine Calls.stepB (H3.out _) ⟨(by repeat (first | (with_reducible first | exact HB.out | apply below_alloc | apply pw_below_drewN | apply below_drew1) | exact HB.out))⟩ ?_
  clear HB
  intro w_ HK HB
  clear HK
  go_wp2_with fail
  refine Calls.stepR (show Calls _ _ _ _ (fun e w' => ∃ v, e = .returned v ∧ (Kd.int .u8).R 5 w' _ (fun _ => True) v [172, 2] ∧ Below _ _ w') from vput_300 ▸ put_calls 300 (by decide) _) ⟨(by repeat (first | (with_reducible first | exact HB.out | apply below_alloc | apply pw_below_drewN | apply below_drew1) | exact HB.out))⟩ ?_
  clear HB
  intro A4 c4 w_ HK HR4 HC4 HB
  clear HK
  go_wp2_with fail
  refine (same02_calls A4 c4 [172, 2] (some ⟨_, 0, none⟩) 2 [172, 2] _ (Kd.C_alloc HC4.out _) (lit_C 5 [172, 2] (by decide))).mono ?_
  rintro e w_ ⟨rfl, ⟨nd, rfl⟩⟩
  have e1 : decide (([172, 2] : List Int) = [172, 2]) = true := rfl
  rw [e1]
  go_wp2_with fail
  with_reducible refine Calls.stepB (zig_calls (-3) (by decide) (by decide) _) ⟨(by repeat (first | (with_reducible first | exact HB.out | apply below_alloc | apply pw_below_drewN | apply below_drew1) | exact HB.out))⟩ ?_
  clear HB
  intro w_ HK HB
  clear HK
  rw [zig_3]
  go_wp2
  go_ret
  exact ⟨rfl, (by repeat (first | (with_reducible first | exact HB.out | apply below_alloc | apply pw_below_drewN | apply below_drew1) | exact HB.out))⟩

set_option maxHeartbeats 2000000 in
set_option maxRecDepth 100000 in
theorem varintGets_walk (A : Option Addr) (c : Nat) (l : List Int) (w : World) (hC : (Kd.int .u8).C w A l.length l) (hwf : ∀ x ∈ l, (Lit.int .u8 x).wf = true) (hsz : l.length * 1 ≤ 140737488351232) (hcap : l.length ≤ c) :
    Calls Try.prog 3 #[.slice A l.length c] w fun e w' => e = .returned (.bool true) ∧ Below w.heap.size w w' := by
  have HC := Aside0.mk hC
  have HL := Aside0.mk (bytes_of_wf hwf)
  have hm0 : l.length ≤ 140737488351232 := by omega
  clear hC hwf hsz
  have HB := Aside0.mk (Below.refl w.heap.size w)
  by_cases h300 : 300 < l.length
  · go_enter Try.func3, Try.ntmps3
    go_wp2_with fail
    with_reducible refine Calls.stepB (awake02_calls _) ⟨(by repeat (first | (with_reducible first | exact HB.out | apply below_alloc | apply pw_below_drewN | apply below_drew1) | exact HB.out))⟩ ?_
    clear HB
    intro w_ HK HB
    clear HK
    go_wp2
    go_ret
    exact ⟨rfl, (by repeat (first | (with_reducible first | exact HB.out | apply below_alloc | apply pw_below_drewN | apply below_drew1) | exact HB.out))⟩
  · obtain ⟨n, k, er, hv⟩ : ∃ n k er, vrd l 0 0 = (n, k, er) := ⟨_, _, _, rfl⟩
    have G1 := fun w0 : World => get_calls A c l w0
    have G2 := fun w0 : World => refget_calls A c l w0
    rw [vget, hv] at G1
    rw [hv] at G2
    simp only at G1 G2
    by_cases h0 : er = 0
    · subst h0
      have e1 : (if (0 : Int) = 0 then (n, k, (0 : Int)) else (0, 0, 0)) = (n, k, 0) := rfl
      rw [e1] at G1
      have H1 := Aside0.mk G1
      have H2 := Aside0.mk G2
      clear G1 G2 hv e1
      go_enter Try.func3, Try.ntmps3
      go_wp2_with fail
      with_reducible refine Calls.stepB (H1.out _ HC.out HL.out) ⟨(by repeat (first | (with_reducible first | exact HB.out | apply below_alloc | apply pw_below_drewN | apply below_drew1) | exact HB.out))⟩ ?_
      clear HB
      intro w_ HK HB
      clear HK
      go_wp2_with fail
      with_reducible refine (H2.out _ (Kd.C_below HC.out HB.out) HL.out).mono ?_
      rintro e w_ ⟨rfl, ⟨nd, rfl⟩⟩
      go_wp2_with fail
      with_reducible refine Calls.stepB (awake02_calls _) ⟨(by repeat (first | (with_reducible first | exact HB.out | apply below_alloc | apply pw_below_drewN | apply below_drew1) | exact HB.out))⟩ ?_
      clear HB
      intro w_ HK HB
      clear HK
      go_wp2
      go_ret
      exact ⟨rfl, (by repeat (first | (with_reducible first | exact HB.out | apply below_alloc | apply pw_below_drewN | apply below_drew1) | exact HB.out))⟩
    · have e1 : (if er = 0 then (n, k, er) else (0, 0, er)) = (0, 0, er) := if_neg h0
      rw [e1] at G1
      have H1 := Aside0.mk G1
      have H2 := Aside0.mk G2
      have h0b : (er != 0) = true := bne_iff_ne.mpr h0
      have h0c : (er == 0) = false := beq_eq_false_iff_ne.mpr h0
      clear G1 G2 hv e1 h0
      go_enter Try.func3, Try.ntmps3
      go_wp2_with fail
      with_reducible refine Calls.stepB (H1.out _ HC.out HL.out) ⟨(by repeat (first | (with_reducible first | exact HB.out | apply below_alloc | apply pw_below_drewN | apply below_drew1) | exact HB.out))⟩ ?_
      clear HB
      intro w_ HK HB
      clear HK
      go_wp2_with fail
      with_reducible refine (H2.out _ (Kd.C_below HC.out HB.out) HL.out).mono ?_
      rintro e w_ ⟨rfl, ⟨nd, rfl⟩⟩
      go_wp2_with fail
      with_reducible refine Calls.stepB (awake02_calls _) ⟨(by repeat (first | (with_reducible first | exact HB.out | apply below_alloc | apply pw_below_drewN | apply below_drew1) | exact HB.out))⟩ ?_
      clear HB
      intro w_ HK HB
      clear HK
      go_wp2
      go_ret
      exact ⟨rfl, (by repeat (first | (with_reducible first | exact HB.out | apply below_alloc | apply pw_below_drewN | apply below_drew1) | exact HB.out))⟩

set_option maxHeartbeats 2000000 in
set_option maxRecDepth 100000 in
theorem varintZigs_walk (n m : Int) (w : World) (hn : -9223372036854775808 ≤ n ∧ n ≤ 9223372036854775807) (hm : 0 ≤ m ∧ m ≤ 18446744073709551615) :
    Calls Try.prog 4 #[.int .i64 n, .int .u64 m] w fun e w' => e = .returned (.bool true) ∧ Below w.heap.size w w' := by
  obtain ⟨m, rfl⟩ := Int.eq_ofNat_of_zero_le hm.1
  have hm2 : m < 18446744073709551616 := by omega
  have HN := Aside0.mk hn
  have HM := Aside0.mk hm2
  clear hn hm hm2
  have HB := Aside0.mk (Below.refl w.heap.size w)
  go_enter Try.func4, Try.ntmps4
  go_wp2_with fail
  with_reducible refine Calls.stepB (zig_calls n HN.out.1 HN.out.2 _) ⟨(by repeat (first | (with_reducible first | exact HB.out | apply below_alloc | apply pw_below_drewN | apply below_drew1) | exact HB.out))⟩ ?_
  clear HB
  intro w_ HK HB
  clear HK
  go_wp2_with fail
  with_reducible refine Calls.stepEq (refzig_calls n HN.out.1 HN.out.2 _) ?_
  go_wp2_with fail
  with_reducible refine Calls.stepB (zig_calls n HN.out.1 HN.out.2 _) ⟨(by repeat (first | (with_reducible first | exact HB.out | apply below_alloc | apply pw_below_drewN | apply below_drew1) | exact HB.out))⟩ ?_
  clear HB
  intro w_ HK HB
  clear HK
  go_wp2_with fail
  with_reducible refine Calls.stepEq (zag_calls (zigN n) (zigN_lt HN.out.1 HN.out.2) _) ?_
  rw [zag_zig]
  go_wp2_with fail
  with_reducible refine Calls.stepEq (zag_calls m HM.out _) ?_
  go_wp2_with fail
  with_reducible refine Calls.stepB (zig_calls (zagZ m) (zagZ_bd HM.out).1 (zagZ_bd HM.out).2 _) ⟨(by repeat (first | (with_reducible first | exact HB.out | apply below_alloc | apply pw_below_drewN | apply below_drew1) | exact HB.out))⟩ ?_
  clear HB
  intro w_ HK HB
  clear HK
  rw [zig_zag]
  go_wp2_with fail
  with_reducible refine Calls.stepB (awake02_calls _) ⟨(by repeat (first | (with_reducible first | exact HB.out | apply below_alloc | apply pw_below_drewN | apply below_drew1) | exact HB.out))⟩ ?_
  clear HB
  intro w_ HK HB
  clear HK
  go_wp2
  go_ret
  exact ⟨rfl, (by repeat (first | (with_reducible first | exact HB.out | apply below_alloc | apply pw_below_drewN | apply below_drew1) | exact HB.out))⟩
namespace varintGets
open Go.ChangeShapes Go.WideShapes Go.ChangeAt Go.RowKit
open Go.ChangeMaps (open_string shut_string)
theorem own : ownKnob Try.prog.godebug = none := by kernel_rfl
theorem laidOut : laidOutB Try.prog = true := by kernel_rfl
set_option maxRecDepth 100000 in
theorem lifted (os : Os) (started : os.Started) (H : Type) (enc : TypeId × Value → H) :
    ReturnsInHanded {} Try.checked os 3 .any (Rows.varintGetsSpec.pre6 enc Try.prog Try.f3 Rows.varintGetsRow.domain false) (Rows.varintGetsSpec.post enc Try.prog Try.f3 false true false false) := by
  refine returnsInHanded_of_change_sized (C := Try.checked) own started (by kernel_rfl) Try.func3
    (ChangeSpec.witness6 (enc := enc) (C := Try.checked) false ⟨#[], #[.slice none 0 0], []⟩ 8 (by kernel_rfl) (by kernel_rfl) (by kernel_rfl) (by kernel_rfl)) ?_
  intro W base args ds gs before hval0 hW hcnd hsz0 _
  have hsz : (DataW.weightsEach Try.prog (Try.f3.params.toList ++ Rows.varintGetsSpec.plain.varTypes Try.prog) (ds ++ gs)).all (· ≤ reachBytes) = true := hsz0
  have hval : ∀ (j : Nat) t v, Try.f3.params[j]? = some t → args[j]? = some v → Value.okWide Try.prog W .any base t v := hval0
  have hW' := hW
  obtain ⟨p, q, hA0, hV, rfl, hfz, hnd⟩ := hW
  have hA : DataW.TrodAll enc Try.prog W 0 (fun _ => true) true Try.f3.params.toList args.toList ds p := hA0
  rw [Try.params3] at hA hval hsz
  obtain ⟨v0, vs0, d0, ds0, p0, q0, hargs, rfl, rfl, h0, r0⟩ := trodAll_cons hA
  obtain ⟨rfl, rfl, rfl⟩ := trodAll_nil r0
  obtain rfl : args = #[v0] := by cases args; simp_all
  obtain ⟨rfl, rfl⟩ := trodVars_none hV
  obtain ⟨a0, len0, cap0, rfl⟩ := okWide_slice Try.underlying22 (hval 0 22 v0 rfl rfl)
  have k0 := h0
  have lt0 : ∀ x ∈ p0, x.block < W.heap.size := by obtain ⟨m, hm⟩ := k0; exact DataW.trod_lt m _ _ _ hm
  have y0 : len0 * 1 ≤ 140737488351232 := sized_ints hsz (j := 0) (t := 22) rfl rfl Try.underlying22 Try.underlying5 (by kernel_rfl) (by kernel_rfl) h0
  obtain ⟨l0, c0, b0, e0⟩ := open_row Try.underlying22 Try.underlying5 (by kernel_rfl) (by omega) h0
  obtain rfl := c0.1.symm
  clear hA0 hval0 hsz0 hsz
  refine (varintGets_walk a0 cap0 l0 W c0 b0 y0 e0).mono fun e W' ⟨he, bel⟩ => ?_
  subst he
  exact ⟨_, rfl, _, _, _, [], _, [], hW', trodAll_mk1 (shut_bool Try.underlying4 _), (trodAll_cons_mk (Below.trod laidOut (by kernel_rfl) (of_decide_eq_true (by kernel_rfl)) k0 bel lt0) trodAll_mk0), rfl, bel.frame _, fun h => by cases h⟩
theorem over : Rows.varintGetsRow.holds Try.pinned (OpenSpec.ofChange Rows.varintGetsSpec) :=
  OpenClaim.holds_of_wide 3 Try.f3 rfl rfl rfl rfl rfl rfl rfl ⟨rfl, rfl, rfl, rfl, rfl⟩ rfl rfl rfl rfl rfl (by kernel_rfl) Try.func3 (by kernel_rfl)
    (of_decide_eq_true (by kernel_rfl)) (by unfold Func.isWrapper; first | (rw [if_pos (by decide +kernel)]; kernel_rfl) | (rw [if_neg (by decide +kernel)]; exact ⟨rfl, rfl⟩))
    (fun os started H enc _ => lifted os started H enc)
theorem proved : Rows.VarintGetsSaid := over
end varintGets
/-- The row, under a short name, for the claim. -/
theorem varintGets_holds : Rows.VarintGetsSaid := varintGets.proved
#print axioms varintGets_holds
namespace varintZigs
open Go.ChangeShapes Go.WideShapes Go.ChangeAt Go.RowKit
open Go.ChangeMaps (open_string shut_string)
theorem own : ownKnob Try.prog.godebug = none := by kernel_rfl
set_option maxRecDepth 100000 in
theorem lifted (os : Os) (started : os.Started) (H : Type) (enc : TypeId × Value → H) :
    ReturnsInHanded {} Try.checked os 4 .any (Rows.varintZigsSpec.pre6 enc Try.prog Try.f4 Rows.varintZigsRow.domain false) (Rows.varintZigsSpec.post enc Try.prog Try.f4 false true false false) := by
  refine returnsInHanded_of_change_sized (C := Try.checked) own started (by kernel_rfl) Try.func4
    (ChangeSpec.witness6 (enc := enc) (C := Try.checked) false ⟨#[], #[.int .i64 0, .int .u64 0], []⟩ 8 (by kernel_rfl) (by kernel_rfl) (by kernel_rfl) (by kernel_rfl)) ?_
  intro W base args ds gs before hval0 hW hcnd hsz0 _
  have hsz : (DataW.weightsEach Try.prog (Try.f4.params.toList ++ Rows.varintZigsSpec.plain.varTypes Try.prog) (ds ++ gs)).all (· ≤ reachBytes) = true := hsz0
  have hval : ∀ (j : Nat) t v, Try.f4.params[j]? = some t → args[j]? = some v → Value.okWide Try.prog W .any base t v := hval0
  have hW' := hW
  obtain ⟨p, q, hA0, hV, rfl, hfz, hnd⟩ := hW
  have hA : DataW.TrodAll enc Try.prog W 0 (fun _ => true) true Try.f4.params.toList args.toList ds p := hA0
  rw [Try.params4] at hA hval hsz
  obtain ⟨v0, vs0, d0, ds0, p0, q0, hargs, rfl, rfl, h0, r0⟩ := trodAll_cons hA
  obtain ⟨v1, vs1, d1, ds1, p1, q1, rfl, rfl, rfl, h1, r1⟩ := trodAll_cons r0
  obtain ⟨rfl, rfl, rfl⟩ := trodAll_nil r1
  obtain rfl : args = #[v0, v1] := by cases args; simp_all
  obtain ⟨rfl, rfl⟩ := trodVars_none hV
  obtain ⟨a0, rfl, rfl, rfl, w0⟩ := open_int Try.underlying3 (hval 0 3 v0 rfl rfl) h0
  obtain ⟨a1, rfl, rfl, rfl, w1⟩ := open_int Try.underlying24 (hval 1 24 v1 rfl rfl) h1
  clear hA0 hval0 hsz0 hsz
  refine (varintZigs_walk a0 a1 W (bounds_i64 w0) (bounds_u64 w1)).mono fun e W' ⟨he, bel⟩ => ?_
  subst he
  exact ⟨_, rfl, _, _, _, [], _, [], hW', trodAll_mk1 (shut_bool Try.underlying4 _), (trodAll_cons_mk (shut_int Try.underlying3 w0) (trodAll_cons_mk (shut_int Try.underlying24 w1) trodAll_mk0)), rfl, bel.frame _, fun h => by cases h⟩
theorem over : Rows.varintZigsRow.holds Try.pinned (OpenSpec.ofChange Rows.varintZigsSpec) :=
  OpenClaim.holds_of_wide 4 Try.f4 rfl rfl rfl rfl rfl rfl rfl ⟨rfl, rfl, rfl, rfl, rfl⟩ rfl rfl rfl rfl rfl (by kernel_rfl) Try.func4 (by kernel_rfl)
    (of_decide_eq_true (by kernel_rfl)) (by unfold Func.isWrapper; first | (rw [if_pos (by decide +kernel)]; kernel_rfl) | (rw [if_neg (by decide +kernel)]; exact ⟨rfl, rfl⟩))
    (fun os started H enc _ => lifted os started H enc)
theorem proved : Rows.VarintZigsSaid := over
end varintZigs
/-- The row, under a short name, for the claim. -/
theorem varintZigs_holds : Rows.VarintZigsSaid := varintZigs.proved
#print axioms varintZigs_holds
end Go.Proofs.Ytgaboaeeodiadaa
