/- The laws of classes: ClassTexts, ClassParts, ClassBounds; no condition. -/
import Derived.Test.YtgaboaeeodiadaaLaw04A
import Derived.Test.YtgaboaeeodiadaaLawKit
import Derived.Test.YtgaboaeeodiadaaLawArr
import Derived.Test.YtgaboaeeodiadaaRows
namespace Go.Proofs.Ytgaboaeeodiadaa
open Go.RowKit Go.Proofs.YtgaboaeeodiadaaW.PrintWords Go.Proofs.YtgaboaeeodiadaaW.PrintLast Go.Proofs.YtgaboaeeodiadaaW.PrintMore
set_option linter.unusedVariables false
set_option linter.unusedSimpArgs false
theorem eqFault (d : Nat) (w : World) (x0 y0 : Int) (x1 y1 : Int) :
    (Op.equalIn (d + 2) 40 (.agg #[.int .i64 x0, .int .i64 x1]) (.agg #[.int .i64 y0, .int .i64 y1])).run Try.prog w = .ok (x0 == y0 && (x1 == y1)) w := by
  refine eqA_of Try.underlying40 (by kernel_rfl) ?_
  refine eqf_cons (by rfl) (by go_simp; rfl) (by go_simp; rfl) (by go_simp) ?_
  exact eqf_last (by rfl) (by go_simp; rfl) (by go_simp; rfl) (by go_simp)
attribute [local go_sem high] eqFault
set_option maxHeartbeats 4000000 in
set_option maxRecDepth 100000 in
theorem classTexts_walk (c : Int) (s : ByteArray) (x y : Int) (w : World) (hcb : -9223372036854775808 ≤ c ∧ c ≤ 9223372036854775807) (hs : s.size ≤ 140737488351232) (hxb : -9223372036854775808 ≤ x ∧ x ≤ 9223372036854775807) (hyb : -9223372036854775808 ≤ y ∧ y ≤ 9223372036854775807) :
    Calls Try.prog 6 #[.int .i64 c, .string s, .agg #[.int .i64 x, .int .i64 y]] w fun e w' => e = .returned (.bool true) ∧ Below w.heap.size w w' := by
  have HB := Aside0.mk (Below.refl w.heap.size w)
  have HS := Aside0.mk (show s.size ≤ 9223372036854775807 by omega)
  have hu40 := Try.underlying40
  by_cases h300 : 300 < (s.size : Int)
  · have t1 : decide (300 < (s.size : Int)) = true := decide_eq_true h300
    clear h300 hs hcb hxb hyb
    go_enter Try.func6, Try.ntmps6
    go_wp2_with fail
    with_reducible refine Calls.stepB (awake04_calls _) ⟨(by repeat (first | (with_reducible first | exact HB.out | apply below_alloc | apply pw_below_drewN | apply below_drew1) | exact HB.out))⟩ ?_
    clear HB
    intro w_ HK HB
    clear HK
    go_wp2
    go_ret
    exact ⟨rfl, (by repeat (first | (with_reducible first | exact HB.out | apply below_alloc | apply pw_below_drewN | apply below_drew1) | exact HB.out))⟩
  have t1 : decide (300 < (s.size : Int)) = false := decide_eq_false h300
  clear hs h300 hcb hxb hyb
  cases hc : betB c 1 4 with
  | false =>
    have HC := Aside0.mk hc
    have HT := Aside0.mk (show textW c s x y = (1, 0) by unfold textW; rw [if_pos (.inl hc)])
    clear hc
    go_enter Try.func6, Try.ntmps6
    go_wp2_with fail
    with_reducible refine Calls.stepEq (number_no c _ HC.out) ?_
    go_wp2_with fail
    with_reducible refine Calls.stepEq (bad_no c s _ HC.out) ?_
    go_wp2_with fail
    with_reducible refine Calls.stepB (text_calls c s x y _ HS.out) ⟨(by repeat (first | (with_reducible first | exact HB.out | apply below_alloc | apply pw_below_drewN | apply below_drew1) | exact HB.out))⟩ ?_
    clear HB
    intro w_ HK HB
    clear HK
    rw [HT.out]
    go_wp2_with fail
    with_reducible refine Calls.stepB (awake04_calls _) ⟨(by repeat (first | (with_reducible first | exact HB.out | apply below_alloc | apply pw_below_drewN | apply below_drew1) | exact HB.out))⟩ ?_
    clear HB
    intro w_ HK HB
    clear HK
    go_wp2
    go_ret
    exact ⟨rfl, (by repeat (first | (with_reducible first | exact HB.out | apply below_alloc | apply pw_below_drewN | apply below_drew1) | exact HB.out))⟩
  | true =>
    have HC := Aside0.mk hc
    have hcc : 0 ≤ c ∧ c ≤ 4 ∧ ¬ c = 0 := by have := hc; simp only [betB, Bool.and_eq_true, decide_eq_true_eq] at this; omega
    have HCC := Aside0.mk (show 0 ≤ c ∧ c ≤ 4 from ⟨hcc.1, hcc.2.1⟩)
    have t0 : (c == 0) = false := beq_eq_false_iff_ne.mpr hcc.2.2
    clear hcc
    by_cases hx : x < 0
    · have HT := Aside0.mk (show textW c s x y = (1, 0) by unfold textW; rw [if_pos (.inr (.inl hx))])
      have t2 : decide (x < 0) = true := decide_eq_true hx
      clear hc hx
      go_enter Try.func6, Try.ntmps6
      have BX := Aside0.mk (blk_new w (.cells #[.int .i64 x, .int .i64 y] 37))
      go_wp2_with fail
      with_reducible refine Calls.stepEq (number_yes c _ HC.out) ?_
      go_wp2_with fail
      with_reducible refine (bad_yes c s _ HC.out HS.out).mono ?_
      rintro e w_ ⟨rfl, ⟨nd, rfl⟩⟩
      go_wp2_with fail
      with_reducible refine Calls.stepB (text_calls c s x y _ HS.out) ⟨(by repeat (first | (with_reducible first | exact HB.out | apply below_alloc | apply pw_below_drewN | apply below_drew1) | exact HB.out))⟩ ?_
      clear HB
      intro w_ HK HB
      have n0 := Aside0.mk (blk_below (by with_reducible repeat (first | exact BX.out | apply blk_alloc | apply blk_drewN | apply blk_drew)) HK.out)
      clear BX
      have BX := n0
      clear n0
      clear HK
      rw [HT.out]
      have cx0 : (w_.alloc (.cells #[.int .i64 1, .int .i64 0] 40)).cell? ⟨w.heap.size, 0, none⟩ = some (.int .i64 x) := (blk_cell (blk_alloc BX.out _) 0).trans rfl
      have cx1 : (w_.alloc (.cells #[.int .i64 1, .int .i64 0] 40)).cell? ⟨w.heap.size, 1, none⟩ = some (.int .i64 y) := (blk_cell (blk_alloc BX.out _) 1).trans rfl
      go_wp2_with fail
      with_reducible refine (refbad_calls c s _ HCC.out HS.out).mono ?_
      rintro e w_ ⟨rfl, ⟨nd, rfl⟩⟩
      go_wp2_with fail
      with_reducible refine Calls.stepB (awake04_calls _) ⟨(by repeat (first | (with_reducible first | exact HB.out | apply below_alloc | apply pw_below_drewN | apply below_drew1) | exact HB.out))⟩ ?_
      clear HB
      intro w_ HK HB
      clear HK
      go_wp2
      go_ret
      exact ⟨rfl, (by repeat (first | (with_reducible first | exact HB.out | apply below_alloc | apply pw_below_drewN | apply below_drew1) | exact HB.out))⟩
    have t2 : decide (x < 0) = false := decide_eq_false hx
    by_cases hy : y < x
    · have HT := Aside0.mk (show textW c s x y = (1, 0) by unfold textW; rw [if_pos (.inr (.inr hy))])
      have t3 : decide (y < x) = true := decide_eq_true hy
      clear hc hx hy
      go_enter Try.func6, Try.ntmps6
      have BX := Aside0.mk (blk_new w (.cells #[.int .i64 x, .int .i64 y] 37))
      go_wp2_with fail
      with_reducible refine Calls.stepEq (number_yes c _ HC.out) ?_
      go_wp2_with fail
      with_reducible refine (bad_yes c s _ HC.out HS.out).mono ?_
      rintro e w_ ⟨rfl, ⟨nd, rfl⟩⟩
      go_wp2_with fail
      with_reducible refine Calls.stepB (text_calls c s x y _ HS.out) ⟨(by repeat (first | (with_reducible first | exact HB.out | apply below_alloc | apply pw_below_drewN | apply below_drew1) | exact HB.out))⟩ ?_
      clear HB
      intro w_ HK HB
      have n0 := Aside0.mk (blk_below (by with_reducible repeat (first | exact BX.out | apply blk_alloc | apply blk_drewN | apply blk_drew)) HK.out)
      clear BX
      have BX := n0
      clear n0
      clear HK
      rw [HT.out]
      have cx0 : (w_.alloc (.cells #[.int .i64 1, .int .i64 0] 40)).cell? ⟨w.heap.size, 0, none⟩ = some (.int .i64 x) := (blk_cell (blk_alloc BX.out _) 0).trans rfl
      have cx1 : (w_.alloc (.cells #[.int .i64 1, .int .i64 0] 40)).cell? ⟨w.heap.size, 1, none⟩ = some (.int .i64 y) := (blk_cell (blk_alloc BX.out _) 1).trans rfl
      go_wp2_with fail
      with_reducible refine (refbad_calls c s _ HCC.out HS.out).mono ?_
      rintro e w_ ⟨rfl, ⟨nd, rfl⟩⟩
      go_wp2_with fail
      with_reducible refine Calls.stepB (awake04_calls _) ⟨(by repeat (first | (with_reducible first | exact HB.out | apply below_alloc | apply pw_below_drewN | apply below_drew1) | exact HB.out))⟩ ?_
      clear HB
      intro w_ HK HB
      clear HK
      go_wp2
      go_ret
      exact ⟨rfl, (by repeat (first | (with_reducible first | exact HB.out | apply below_alloc | apply pw_below_drewN | apply below_drew1) | exact HB.out))⟩
    · have t3 : decide (y < x) = false := decide_eq_false hy
      have HXY := Aside0.mk (show 0 ≤ x ∧ x ≤ y by omega)
      have G1 := fun w0 : World => text_calls c s x y w0 HS.out
      have G2 := fun w0 : World => reftext_calls c s x y w0 HC.out HXY.out HS.out
      obtain ⟨p, q, hpq⟩ : ∃ p q, textW c s x y = (p, q) := ⟨_, _, rfl⟩
      rw [hpq] at G1 G2
      have HG1 := Aside0.mk G1
      have HG2 := Aside0.mk G2
      clear hc hx hy G1 G2 hpq
      go_enter Try.func6, Try.ntmps6
      have BX := Aside0.mk (blk_new w (.cells #[.int .i64 x, .int .i64 y] 37))
      go_wp2_with fail
      with_reducible refine Calls.stepEq (number_yes c _ HC.out) ?_
      go_wp2_with fail
      with_reducible refine (bad_yes c s _ HC.out HS.out).mono ?_
      rintro e w_ ⟨rfl, ⟨nd, rfl⟩⟩
      go_wp2_with fail
      with_reducible refine Calls.stepB (HG1.out _) ⟨(by repeat (first | (with_reducible first | exact HB.out | apply below_alloc | apply pw_below_drewN | apply below_drew1) | exact HB.out))⟩ ?_
      clear HB
      intro w_ HK HB
      have n0 := Aside0.mk (blk_below (by with_reducible repeat (first | exact BX.out | apply blk_alloc | apply blk_drewN | apply blk_drew)) HK.out)
      clear BX
      have BX := n0
      clear n0
      clear HK
      have cx0 : (w_.alloc (.cells #[.int .i64 p, .int .i64 q] 40)).cell? ⟨w.heap.size, 0, none⟩ = some (.int .i64 x) := (blk_cell (blk_alloc BX.out _) 0).trans rfl
      have cx1 : (w_.alloc (.cells #[.int .i64 p, .int .i64 q] 40)).cell? ⟨w.heap.size, 1, none⟩ = some (.int .i64 y) := (blk_cell (blk_alloc BX.out _) 1).trans rfl
      go_wp2_with fail
      with_reducible refine (refbad_calls c s _ HCC.out HS.out).mono ?_
      rintro e w_ ⟨rfl, ⟨nd, rfl⟩⟩
      go_wp2_with fail
      have HX0 := Aside0.mk (blk_drewN (blk_alloc BX.out (.cells #[.int .i64 p, .int .i64 q] 40)) nd)
      have HF0 := Aside0.mk (blk_drewN (blk_new w_ (.cells #[.int .i64 p, .int .i64 q] 40)) nd)
      have HB0 := Aside0.mk (pw_below_drewN (below_alloc HB.out (.cells #[.int .i64 p, .int .i64 q] 40)) nd)
      clear cx0 cx1
      refine start_ (n := 13) (S := fun w' => w'.cell? ⟨w.heap.size, 0, none⟩ = some (.int .i64 x) ∧ w'.cell? ⟨w.heap.size, 1, none⟩ = some (.int .i64 y) ∧ w'.cell? ⟨w_.heap.size, 0, none⟩ = some (.int .i64 p) ∧ w'.cell? ⟨w_.heap.size, 1, none⟩ = some (.int .i64 q)) (ds := []) #[false, false, false, false, false, false, false, false, false, false, false, false, false] (by kernel_rfl) rfl rfl ⟨(blk_cell HX0.out 0).trans rfl, (blk_cell HX0.out 1).trans rfl, (blk_cell HF0.out 0).trans rfl, (blk_cell HF0.out 1).trans rfl⟩ (fun hHeld => ?_)
      refine pure_ (i := 1) (N := some 72) (v := ?_) (a' := ?_) #[false, true, false, false, false, false, false, false, false, false, false, false, false] rfl rfl (by kernel_rfl) (fun _ _ _ h => h) (Or.inl ⟨by rfl, ?_⟩) ?_ ?_
      rotate_left
      · intro w'
        go_simp
        with_reducible rfl
      rotate_left
      · simp only [Act.put, List.setIfInBounds_toArray, List.set_cons_zero, List.set_cons_succ, i64_w, i32_w]
        rfl
      refine pure_ (i := 2) (N := some 73) (v := ?_) (a' := ?_) #[false, true, true, false, false, false, false, false, false, false, false, false, false] rfl rfl (by kernel_rfl) (fun _ _ _ h => h) (Or.inl ⟨by rfl, ?_⟩) ?_ ?_
      rotate_left
      · intro w'
        go_simp
        with_reducible rfl
      rotate_left
      · simp only [Act.put, List.setIfInBounds_toArray, List.set_cons_zero, List.set_cons_succ, i64_w, i32_w]
        rfl
      refine pure_ (i := 3) (N := some 74) (v := ?_) (a' := ?_) #[false, true, true, true, false, false, false, false, false, false, false, false, false] rfl rfl (by kernel_rfl) (fun _ _ _ h => h) (Or.inl ⟨by rfl, ?_⟩) ?_ ?_
      rotate_left
      · intro w'
        go_simp
        with_reducible rfl
      rotate_left
      · simp only [Act.put, List.setIfInBounds_toArray, List.set_cons_zero, List.set_cons_succ, i64_w, i32_w]
        rfl
      refine pure_ (i := 5) (N := some 76) (v := ?_) (a' := ?_) #[false, true, true, true, false, true, false, false, false, false, false, false, false] rfl rfl (by kernel_rfl) (fun _ _ _ h => h) (Or.inl ⟨by rfl, ?_⟩) ?_ ?_
      rotate_left
      · intro w'
        go_simp
        with_reducible rfl
      rotate_left
      · simp only [Act.put, List.setIfInBounds_toArray, List.set_cons_zero, List.set_cons_succ, i64_w, i32_w]
        rfl
      refine take_ (i := 0) (N := some 71) (v := ?_) (a' := ?_) #[true, true, true, true, false, true, false, false, false, false, false, false, false] rfl rfl (by kernel_rfl) (fun _ _ _ h => h) (Or.inl ⟨by rfl, ?_⟩) hHeld ?_ ?_
      rotate_left
      · rintro w' ⟨s0, s1, s2, s3⟩
        go_simp
        with_reducible rfl
      rotate_left
      · simp only [Act.put, List.setIfInBounds_toArray, List.set_cons_zero, List.set_cons_succ, i64_w, i32_w]
        rfl
      refine take_ (i := 4) (N := some 75) (v := ?_) (a' := ?_) #[true, true, true, true, true, true, false, false, false, false, false, false, false] rfl rfl (by kernel_rfl) (fun _ _ _ h => h) (Or.inl ⟨by rfl, ?_⟩) hHeld ?_ ?_
      rotate_left
      · rintro w' ⟨s0, s1, s2, s3⟩
        go_simp
        with_reducible rfl
      rotate_left
      · simp only [Act.put, List.setIfInBounds_toArray, List.set_cons_zero, List.set_cons_succ, i64_w, i32_w]
        rfl
      refine take_ (i := 6) (N := some 77) (v := ?_) (a' := ?_) #[true, true, true, true, true, true, true, false, false, false, false, false, false] rfl rfl (by kernel_rfl) (fun _ _ _ h => h) (Or.inl ⟨by rfl, ?_⟩) hHeld ?_ ?_
      rotate_left
      · rintro w' ⟨s0, s1, s2, s3⟩
        go_simp
        with_reducible rfl
      rotate_left
      · simp only [Act.put, List.setIfInBounds_toArray, List.set_cons_zero, List.set_cons_succ, i64_w, i32_w]
        rfl
      refine one_ (i := 7) (N := some 78) #[true, true, true, true, true, true, true, true, false, false, false, false, false] rfl rfl (by kernel_rfl) (by decide) (fun K hK => ?_)
      refine goes_ Try.func30 (by kernel_rfl) rfl #[.int .i64 c, .string s, .int .i64 x, .int .i64 y] (by rfl) rfl rfl (by first | (simp only [List.map_toArray, List.map_cons, List.map_nil]; done) | (simp only [List.map_toArray, List.map_cons, List.map_nil]; rfl) | simp) ?_
      with_reducible refine (HG2.out _).mono ?_
      rintro e w3 ⟨rfl, hb⟩
      refine ⟨_, rfl, ?_⟩
      refine hK.out _ _ ⟨(blk_cell (blk_below (blk_drew HX0.out) hb) 0).trans rfl, (blk_cell (blk_below (blk_drew HX0.out) hb) 1).trans rfl, (blk_cell (blk_below (blk_drew HF0.out) hb) 0).trans rfl, (blk_cell (blk_below (blk_drew HF0.out) hb) 1).trans rfl⟩ (fun hHeld => ?_)
      clear hK K
      refine norm_ (a' := ?_) ?_ ?_
      rotate_left
      · show Act.put _ (some 78) _ = _
        simp only [Act.put, List.setIfInBounds_toArray, List.set_cons_zero, List.set_cons_succ, i64_w, i32_w]
        rfl
      refine pure_ (i := 8) (N := some 79) (v := ?_) (a' := ?_) #[true, true, true, true, true, true, true, true, true, false, false, false, false] rfl rfl (by kernel_rfl) (fun _ _ _ h => h) (Or.inl ⟨by rfl, ?_⟩) ?_ ?_
      rotate_left
      · intro w'
        go_simp
        with_reducible rfl
      rotate_left
      · simp only [Act.put, List.setIfInBounds_toArray, List.set_cons_zero, List.set_cons_succ, i64_w, i32_w]
        rfl
      refine pure_ (i := 9) (N := some 80) (v := ?_) (a' := ?_) #[true, true, true, true, true, true, true, true, true, true, false, false, false] rfl rfl (by kernel_rfl) (fun _ _ _ h => h) (Or.inl ⟨by rfl, ?_⟩) ?_ ?_
      rotate_left
      · intro w'
        go_simp
        with_reducible rfl
      rotate_left
      · simp only [Act.put, List.setIfInBounds_toArray, List.set_cons_zero, List.set_cons_succ, i64_w, i32_w]
        rfl
      refine one_ (i := 10) (N := some 81) #[true, true, true, true, true, true, true, true, true, true, true, false, false] rfl rfl (by kernel_rfl) (by decide) (fun K hK => ?_)
      refine goes_ Try.func25 (by kernel_rfl) rfl #[] (by rfl) rfl rfl (by first | (simp only [List.map_toArray, List.map_cons, List.map_nil]; done) | (simp only [List.map_toArray, List.map_cons, List.map_nil]; rfl) | simp) ?_
      with_reducible refine (awake04_calls _).mono ?_
      rintro e w4 ⟨rfl, hb2⟩
      refine ⟨_, rfl, ?_⟩
      refine hK.out _ _ ⟨(blk_cell (blk_below (blk_below (blk_drew HX0.out) hb) hb2) 0).trans rfl, (blk_cell (blk_below (blk_below (blk_drew HX0.out) hb) hb2) 1).trans rfl, (blk_cell (blk_below (blk_below (blk_drew HF0.out) hb) hb2) 0).trans rfl, (blk_cell (blk_below (blk_below (blk_drew HF0.out) hb) hb2) 1).trans rfl⟩ (fun hHeld => ?_)
      clear hK K
      refine norm_ (a' := ?_) ?_ ?_
      rotate_left
      · show Act.put _ (some 81) _ = _
        simp only [Act.put, List.setIfInBounds_toArray, List.set_cons_zero, List.set_cons_succ, i64_w, i32_w]
        rfl
      refine pure_ (i := 11) (N := some 82) (v := ?_) (a' := ?_) #[true, true, true, true, true, true, true, true, true, true, true, true, false] rfl rfl (by kernel_rfl) (fun _ _ _ h => h) (Or.inl ⟨by rfl, ?_⟩) ?_ ?_
      rotate_left
      · intro w'
        go_simp
        with_reducible rfl
      rotate_left
      · simp only [Act.put, List.setIfInBounds_toArray, List.set_cons_zero, List.set_cons_succ, i64_w, i32_w]
        rfl
      refine pure_ (i := 12) (N := some 6) (v := ?_) (a' := ?_) #[true, true, true, true, true, true, true, true, true, true, true, true, true] rfl rfl (by kernel_rfl) (fun _ _ _ h => h) (Or.inl ⟨by rfl, ?_⟩) ?_ ?_
      rotate_left
      · intro w'
        go_simp
        with_reducible rfl
      rotate_left
      · simp only [Act.put, List.setIfInBounds_toArray, List.set_cons_zero, List.set_cons_succ, i64_w, i32_w]
        rfl
      refine done_ (by kernel_rfl) ?_
      go_wp2
      go_ret
      exact ⟨rfl, below_step (below_step (below_drew1 HB0.out) hb) hb2⟩
namespace classTexts
open Go.ChangeShapes Go.WideShapes Go.ChangeAt Go.RowKit
open Go.ChangeMaps (open_string shut_string)
theorem own : ownKnob Try.prog.godebug = none := by kernel_rfl
set_option maxRecDepth 100000 in
theorem lifted (os : Os) (started : os.Started) (H : Type) (enc : TypeId × Value → H) :
    ReturnsInHanded {} Try.checked os 6 .any (Rows.classTextsSpec.pre6 enc Try.prog Try.f6 Rows.classTextsRow.domain false) (Rows.classTextsSpec.post enc Try.prog Try.f6 false true false false) := by
  refine returnsInHanded_of_change_sized (C := Try.checked) own started (by kernel_rfl) Try.func6
    (ChangeSpec.witness6 (enc := enc) (C := Try.checked) false ⟨#[], #[.int .i64 0, .string ByteArray.empty, .agg #[.int .i64 0, .int .i64 0]], []⟩ 8 (by kernel_rfl) (by kernel_rfl) (by kernel_rfl) (by kernel_rfl)) ?_
  intro W base args ds gs before hval0 hW hcnd hsz0 _
  have hsz : (DataW.weightsEach Try.prog (Try.f6.params.toList ++ Rows.classTextsSpec.plain.varTypes Try.prog) (ds ++ gs)).all (· ≤ reachBytes) = true := hsz0
  have hval : ∀ (j : Nat) t v, Try.f6.params[j]? = some t → args[j]? = some v → Value.okWide Try.prog W .any base t v := hval0
  have hW' := hW
  obtain ⟨p, q, hA0, hV, rfl, hfz, hnd⟩ := hW
  have hA : DataW.TrodAll enc Try.prog W 0 (fun _ => true) true Try.f6.params.toList args.toList ds p := hA0
  rw [Try.params6] at hA hval hsz
  obtain ⟨v0, vs0, d0, ds0, p0, q0, hargs, rfl, rfl, h0, r0⟩ := trodAll_cons hA
  obtain ⟨v1, vs1, d1, ds1, p1, q1, rfl, rfl, rfl, h1, r1⟩ := trodAll_cons r0
  obtain ⟨v2, vs2, d2, ds2, p2, q2, rfl, rfl, rfl, h2, r2⟩ := trodAll_cons r1
  obtain ⟨rfl, rfl, rfl⟩ := trodAll_nil r2
  obtain rfl : args = #[v0, v1, v2] := by cases args; simp_all
  obtain ⟨rfl, rfl⟩ := trodVars_none hV
  obtain ⟨a0, rfl, rfl, rfl, w0⟩ := open_int Try.underlying3 (hval 0 3 v0 rfl rfl) h0
  obtain ⟨a1, rfl, rfl, rfl, y1⟩ := open_string Try.underlying9 (hval 1 9 v1 rfl rfl) h1
  have w1 : a1.size ≤ 140737488351232 := by
    have z := sized_string hsz (j := 1) (t := 9) rfl rfl
    rw [Array.length_toList] at z
    exact z
  obtain ⟨a2, b2, rfl, rfl, rfl, w2, z2⟩ := open_ints2 Try.underlying37 Try.underlying3 (by kernel_rfl) (by kernel_rfl) (hval 2 37 v2 rfl rfl) h2
  clear hA0 hval0 hsz0 hsz
  refine (classTexts_walk a0 a1 a2 b2 W (bounds_i64 w0) w1 (bounds_i64 w2) (bounds_i64 z2)).mono fun e W' ⟨he, bel⟩ => ?_
  subst he
  exact ⟨_, rfl, _, _, _, [], _, [], hW', trodAll_mk1 (shut_bool Try.underlying4 _), (trodAll_cons_mk (shut_int Try.underlying3 w0) (trodAll_cons_mk (shut_string Try.underlying9 y1) (trodAll_cons_mk (shut_ints2 Try.underlying37 Try.underlying3 (by kernel_rfl) (by kernel_rfl) w2 z2) trodAll_mk0))), rfl, bel.frame _, fun h => by cases h⟩
theorem over : Rows.classTextsRow.holds Try.pinned (OpenSpec.ofChange Rows.classTextsSpec) :=
  OpenClaim.holds_of_wide 6 Try.f6 rfl rfl rfl rfl rfl rfl rfl ⟨rfl, rfl, rfl, rfl, rfl⟩ rfl rfl rfl rfl rfl (by kernel_rfl) Try.func6 (by kernel_rfl)
    (of_decide_eq_true (by kernel_rfl)) (by unfold Func.isWrapper; first | (rw [if_pos (by decide +kernel)]; kernel_rfl) | (rw [if_neg (by decide +kernel)]; exact ⟨rfl, rfl⟩))
    (fun os started H enc _ => lifted os started H enc)
theorem proved : Rows.ClassTextsSaid := over
end classTexts
/-- The row, under a short name, for the claim. -/
theorem classTexts_holds : Rows.ClassTextsSaid := classTexts.proved
#print axioms classTexts_holds
end Go.Proofs.Ytgaboaeeodiadaa
