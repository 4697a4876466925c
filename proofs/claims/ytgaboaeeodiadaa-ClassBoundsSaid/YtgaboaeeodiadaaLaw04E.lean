/- The laws of classes: ClassParts, ClassBounds; no condition. -/
import Derived.Test.YtgaboaeeodiadaaLaw04D
import Derived.Test.YtgaboaeeodiadaaLawKit
import Derived.Test.YtgaboaeeodiadaaLawArr
import Derived.Test.YtgaboaeeodiadaaRows
namespace Go.Proofs.Ytgaboaeeodiadaa
open Go.RowKit Go.Proofs.YtgaboaeeodiadaaW.PrintWords Go.Proofs.YtgaboaeeodiadaaW.PrintLast Go.Proofs.YtgaboaeeodiadaaW.PrintMore
set_option linter.unusedVariables false
set_option linter.unusedSimpArgs false
theorem eqFault (d : Nat) (w : World) (x0 y0 : Int) (x1 y1 : Int) :
    (Op.equalIn (d + 2) 40 (.agg #[.int .i64 x0, .int .i64 x1]) (.agg #[.int .i64 y0, .int .i64 y1])).run Try.prog w = .ok (x0 == y0 && (x1 == y1)) w := by
  refine eqA_of Try.underlying40 (by kernel_rfl) ?_
  refine eqf_cons (by rfl) (by go_simp; rfl) (by go_simp; rfl) (by go_simp) ?_
  exact eqf_last (by rfl) (by go_simp; rfl) (by go_simp; rfl) (by go_simp)
attribute [local go_sem high] eqFault
set_option maxHeartbeats 4000000 in
set_option maxRecDepth 100000 in
theorem classBounds_walk (c : Int) (s : ByteArray) (x y : Int) (w : World) (hcb : -9223372036854775808 ≤ c ∧ c ≤ 9223372036854775807) (hs : s.size ≤ 140737488351232) (hxb : -9223372036854775808 ≤ x ∧ x ≤ 9223372036854775807) (hyb : -9223372036854775808 ≤ y ∧ y ≤ 9223372036854775807) :
    Calls Try.prog 9 #[.int .i64 c, .string s, .agg #[.int .i64 x, .int .i64 y]] w fun e w' => e = .returned (.bool true) ∧ Below w.heap.size w w' := by
  have HB := Aside0.mk (Below.refl w.heap.size w)
  have HS := Aside0.mk (show s.size ≤ 9223372036854775807 by omega)
  have hu40 := Try.underlying40
  clear hcb hs hxb hyb
  by_cases h1 : 200 < (s.size : Int)
  · have t1 : decide (200 < (s.size : Int)) = true := decide_eq_true h1
    clear h1
    go_enter Try.func9, Try.ntmps9
    go_wp2_with fail
    with_reducible refine Calls.stepB (awake04_calls _) ⟨(by repeat (first | (with_reducible first | exact HB.out | apply below_alloc | apply pw_below_drewN | apply below_drew1) | exact HB.out))⟩ ?_
    clear HB
    intro w_ HK HB
    clear HK
    go_wp2
    go_ret
    exact ⟨rfl, (by repeat (first | (with_reducible first | exact HB.out | apply below_alloc | apply pw_below_drewN | apply below_drew1) | exact HB.out))⟩
  have t1 : decide (200 < (s.size : Int)) = false := decide_eq_false h1
  by_cases h2 : x < 0
  · have t2 : decide (x < 0) = true := decide_eq_true h2
    clear h1 h2
    go_enter Try.func9, Try.ntmps9
    go_wp2_with fail
    with_reducible refine Calls.stepB (awake04_calls _) ⟨(by repeat (first | (with_reducible first | exact HB.out | apply below_alloc | apply pw_below_drewN | apply below_drew1) | exact HB.out))⟩ ?_
    clear HB
    intro w_ HK HB
    clear HK
    go_wp2
    go_ret
    exact ⟨rfl, (by repeat (first | (with_reducible first | exact HB.out | apply below_alloc | apply pw_below_drewN | apply below_drew1) | exact HB.out))⟩
  have t2 : decide (x < 0) = false := decide_eq_false h2
  by_cases h3 : y < x
  · have t3 : decide (y < x) = true := decide_eq_true h3
    clear h1 h2 h3
    go_enter Try.func9, Try.ntmps9
    go_wp2_with fail
    with_reducible refine Calls.stepB (awake04_calls _) ⟨(by repeat (first | (with_reducible first | exact HB.out | apply below_alloc | apply pw_below_drewN | apply below_drew1) | exact HB.out))⟩ ?_
    clear HB
    intro w_ HK HB
    clear HK
    go_wp2
    go_ret
    exact ⟨rfl, (by repeat (first | (with_reducible first | exact HB.out | apply below_alloc | apply pw_below_drewN | apply below_drew1) | exact HB.out))⟩
  have t3 : decide (y < x) = false := decide_eq_false h3
  by_cases h4 : 300 < y
  · have t4 : decide (300 < y) = true := decide_eq_true h4
    clear h1 h2 h3 h4
    go_enter Try.func9, Try.ntmps9
    go_wp2_with fail
    with_reducible refine Calls.stepB (awake04_calls _) ⟨(by repeat (first | (with_reducible first | exact HB.out | apply below_alloc | apply pw_below_drewN | apply below_drew1) | exact HB.out))⟩ ?_
    clear HB
    intro w_ HK HB
    clear HK
    go_wp2
    go_ret
    exact ⟨rfl, (by repeat (first | (with_reducible first | exact HB.out | apply below_alloc | apply pw_below_drewN | apply below_drew1) | exact HB.out))⟩
  have t4 : decide (300 < y) = false := decide_eq_false h4
  have BX := Aside0.mk (blk_new w (.cells #[.int .i64 x, .int .i64 y] 37))
  cases hc : betB c 1 4 with
  | false =>
    have HC := Aside0.mk hc
    have HT := Aside0.mk (show textW c s x y = (1, 0) by unfold textW; rw [if_pos (.inl hc)])
    clear hc h1 h2 h3 h4
    go_enter Try.func9, Try.ntmps9
    go_wp2_with fail
    with_reducible refine Calls.stepEq (bad_no c s _ HC.out) ?_
    go_wp2_with fail
    with_reducible refine Calls.stepB (text_calls c s x y _ HS.out) ⟨(by repeat (first | (with_reducible first | exact HB.out | apply below_alloc | apply pw_below_drewN | apply below_drew1) | exact HB.out))⟩ ?_
    clear HB
    intro w_ HK HB
    clear HK
    rw [HT.out]
    go_wp2_with fail
    with_reducible refine Calls.stepB (awake04_calls _) ⟨(by repeat (first | (with_reducible first | exact HB.out | apply below_alloc | apply pw_below_drewN | apply below_drew1) | exact HB.out))⟩ ?_
    clear HB
    intro w_ HK HB
    clear HK
    go_wp2
    go_ret
    exact ⟨rfl, (by repeat (first | (with_reducible first | exact HB.out | apply below_alloc | apply pw_below_drewN | apply below_drew1) | exact HB.out))⟩
  | true =>
    have HC := Aside0.mk hc
    have hno : ¬ (betB c 1 4 = false ∨ x < 0 ∨ y < x) := fun h => h.elim (by rw [hc]; decide) (fun h => h.elim h2 h3)
    have HR := Aside0.mk (show 0 ≤ x ∧ x ≤ y ∧ y ≤ 300 ∧ (s.size : Int) ≤ 200 by omega)
    by_cases h5 : (s.size : Int) < x
    · have HT := Aside0.mk (show textW c s x y = (13, (s.size : Int)) by unfold textW; rw [if_neg hno, if_pos h5])
      obtain ⟨at0, hat⟩ : ∃ at0, badI (clsB c) s = at0 := ⟨_, rfl⟩
      have HAT := Aside0.mk hat
      have u1 : decide (x ≤ (s.size : Int)) = false := decide_eq_false (by omega)
      clear hc h1 h2 h3 h4 h5 hno hat
      go_enter Try.func9, Try.ntmps9
      go_wp2_with fail
      with_reducible refine (bad_yes c s _ HC.out HS.out).mono ?_
      rintro e w_ ⟨rfl, ⟨nd, rfl⟩⟩
      rw [HAT.out]
      go_wp2_with fail
      with_reducible refine Calls.stepB (text_calls c s x y _ HS.out) ⟨(by repeat (first | (with_reducible first | exact HB.out | apply below_alloc | apply pw_below_drewN | apply below_drew1) | exact HB.out))⟩ ?_
      clear HB
      intro w_ HK HB
      have n0 := Aside0.mk (blk_below (by with_reducible repeat (first | exact BX.out | apply blk_alloc | apply blk_drewN | apply blk_drew)) HK.out)
      clear BX
      have BX := n0
      clear n0
      clear HK
      rw [HT.out]
      have cx0 : (w_.alloc (.cells #[.int .i64 13, .int .i64 (s.size : Int)] 40)).cell? ⟨w.heap.size, 0, none⟩ = some (.int .i64 x) := (blk_cell (blk_alloc BX.out _) 0).trans rfl
      have cx1 : (w_.alloc (.cells #[.int .i64 13, .int .i64 (s.size : Int)] 40)).cell? ⟨w.heap.size, 1, none⟩ = some (.int .i64 y) := (blk_cell (blk_alloc BX.out _) 1).trans rfl
      go_wp2_with fail
      go_quiet (fail)
      go_wp2_with fail
      with_reducible refine Calls.stepB (awake04_calls _) ⟨(by repeat (first | (with_reducible first | exact HB.out | apply below_alloc | apply pw_below_drewN | apply below_drew1) | exact HB.out))⟩ ?_
      clear HB
      intro w_ HK HB
      clear HK
      go_wp2
      go_ret
      exact ⟨rfl, (by repeat (first | (with_reducible first | exact HB.out | apply below_alloc | apply pw_below_drewN | apply below_drew1) | exact HB.out))⟩
    by_cases h6 : y < (s.size : Int)
    · have HT := Aside0.mk (show textW c s x y = (12, y) by unfold textW; rw [if_neg hno, if_neg h5, if_pos h6])
      obtain ⟨at0, hat⟩ : ∃ at0, badI (clsB c) s = at0 := ⟨_, rfl⟩
      have HAT := Aside0.mk hat
      have u1 : decide (x ≤ (s.size : Int)) = true := decide_eq_true (by omega)
      have u2 : decide ((s.size : Int) ≤ y) = false := decide_eq_false (by omega)
      have u3 : decide (0 ≤ y) = true := decide_eq_true (by omega)
      have u4 : decide (y ≤ (s.size : Int)) = true := decide_eq_true (by omega)
      clear hc h1 h2 h3 h4 h5 h6 hno hat
      go_enter Try.func9, Try.ntmps9
      go_wp2_with fail
      with_reducible refine (bad_yes c s _ HC.out HS.out).mono ?_
      rintro e w_ ⟨rfl, ⟨nd, rfl⟩⟩
      rw [HAT.out]
      go_wp2_with fail
      with_reducible refine Calls.stepB (text_calls c s x y _ HS.out) ⟨(by repeat (first | (with_reducible first | exact HB.out | apply below_alloc | apply pw_below_drewN | apply below_drew1) | exact HB.out))⟩ ?_
      clear HB
      intro w_ HK HB
      have n0 := Aside0.mk (blk_below (by with_reducible repeat (first | exact BX.out | apply blk_alloc | apply blk_drewN | apply blk_drew)) HK.out)
      clear BX
      have BX := n0
      clear n0
      clear HK
      rw [HT.out]
      have cx0 : (w_.alloc (.cells #[.int .i64 12, .int .i64 y] 40)).cell? ⟨w.heap.size, 0, none⟩ = some (.int .i64 x) := (blk_cell (blk_alloc BX.out _) 0).trans rfl
      have cx1 : (w_.alloc (.cells #[.int .i64 12, .int .i64 y] 40)).cell? ⟨w.heap.size, 1, none⟩ = some (.int .i64 y) := (blk_cell (blk_alloc BX.out _) 1).trans rfl
      go_wp2_with fail
      go_quiet (fail)
      go_wp2_with fail
      with_reducible refine Calls.stepB (awake04_calls _) ⟨(by repeat (first | (with_reducible first | exact HB.out | apply below_alloc | apply pw_below_drewN | apply below_drew1) | exact HB.out))⟩ ?_
      clear HB
      intro w_ HK HB
      clear HK
      go_wp2
      go_ret
      exact ⟨rfl, (by repeat (first | (with_reducible first | exact HB.out | apply below_alloc | apply pw_below_drewN | apply below_drew1) | exact HB.out))⟩
    have u1 : decide (x ≤ (s.size : Int)) = true := decide_eq_true (by omega)
    have u2 : decide ((s.size : Int) ≤ y) = true := decide_eq_true (by omega)
    rcases badF_tells (clsB c) s s.size 0 (by omega) with ⟨k1, _⟩ | ⟨i, k1, _, k3, _, _⟩
    · have hat : badI (clsB c) s = -1 := k1
      have HAT := Aside0.mk hat
      have HT := Aside0.mk (show textW c s x y = (0, 0) by unfold textW; rw [if_neg hno, if_neg h5, if_neg h6, hat]; rfl)
      have HT2 := Aside0.mk (show textW c s (wrap64 (x.tdiv 2)) (wrap64 (y + x)) = (0, 0) by
        rw [IntWalk.wrap64_in (y + x) (by omega)]
        have h7 : x.tdiv 2 = x / 2 := Int.tdiv_eq_ediv_of_nonneg (by omega)
        rw [IntWalk.wrap64_in (x.tdiv 2) (by omega)]
        unfold textW
        rw [if_neg (fun h => h.elim (by rw [hc]; decide) (fun h => by omega)), if_neg (by omega), if_neg (by omega), hat]
        rfl)
      clear hc h1 h2 h3 h4 h5 h6 hno hat k1
      go_enter Try.func9, Try.ntmps9
      go_wp2_with fail
      with_reducible refine (bad_yes c s _ HC.out HS.out).mono ?_
      rintro e w_ ⟨rfl, ⟨nd, rfl⟩⟩
      rw [HAT.out]
      go_wp2_with fail
      with_reducible refine Calls.stepB (text_calls c s x y _ HS.out) ⟨(by repeat (first | (with_reducible first | exact HB.out | apply below_alloc | apply pw_below_drewN | apply below_drew1) | exact HB.out))⟩ ?_
      clear HB
      intro w_ HK HB
      have n0 := Aside0.mk (blk_below (by with_reducible repeat (first | exact BX.out | apply blk_alloc | apply blk_drewN | apply blk_drew)) HK.out)
      clear BX
      have BX := n0
      clear n0
      clear HK
      rw [HT.out]
      have cx0 : (w_.alloc (.cells #[.int .i64 0, .int .i64 0] 40)).cell? ⟨w.heap.size, 0, none⟩ = some (.int .i64 x) := (blk_cell (blk_alloc BX.out _) 0).trans rfl
      have cx1 : (w_.alloc (.cells #[.int .i64 0, .int .i64 0] 40)).cell? ⟨w.heap.size, 1, none⟩ = some (.int .i64 y) := (blk_cell (blk_alloc BX.out _) 1).trans rfl
      go_wp2_with fail
      have HX0 := Aside0.mk (blk_alloc BX.out (.cells #[.int .i64 0, .int .i64 0] 40))
      have HF0 := Aside0.mk (blk_new w_ (.cells #[.int .i64 0, .int .i64 0] 40))
      have HB0 := Aside0.mk (below_alloc HB.out (.cells #[.int .i64 0, .int .i64 0] 40))
      clear cx0 cx1
      refine start_ (n := 16) (S := fun w' => w'.cell? ⟨w.heap.size, 0, none⟩ = some (.int .i64 x) ∧ w'.cell? ⟨w.heap.size, 1, none⟩ = some (.int .i64 y) ∧ w'.cell? ⟨w_.heap.size, 0, none⟩ = some (.int .i64 0) ∧ w'.cell? ⟨w_.heap.size, 1, none⟩ = some (.int .i64 0)) (ds := []) #[false, false, false, false, false, false, false, false, false, false, false, false, false, false, false, false] (by kernel_rfl) rfl rfl ⟨(blk_cell HX0.out 0).trans rfl, (blk_cell HX0.out 1).trans rfl, (blk_cell HF0.out 0).trans rfl, (blk_cell HF0.out 1).trans rfl⟩ (fun hHeld => ?_)
      refine pure_ (i := 0) (N := some 74) (v := ?_) (a' := ?_) #[true, false, false, false, false, false, false, false, false, false, false, false, false, false, false, false] rfl rfl (by kernel_rfl) (fun _ _ _ h => h) (Or.inl ⟨by rfl, ?_⟩) ?_ ?_
      rotate_left
      · intro w'
        go_simp
        with_reducible rfl
      rotate_left
      · simp only [Act.put, List.setIfInBounds_toArray, List.set_cons_zero, List.set_cons_succ, i64_w, i32_w]
        rfl
      refine pure_ (i := 1) (N := some 75) (v := ?_) (a' := ?_) #[true, true, false, false, false, false, false, false, false, false, false, false, false, false, false, false] rfl rfl (by kernel_rfl) (fun _ _ _ h => h) (Or.inl ⟨by rfl, ?_⟩) ?_ ?_
      rotate_left
      · intro w'
        go_simp
        with_reducible rfl
      rotate_left
      · simp only [Act.put, List.setIfInBounds_toArray, List.set_cons_zero, List.set_cons_succ, i64_w, i32_w]
        rfl
      refine pure_ (i := 2) (N := some 76) (v := ?_) (a' := ?_) #[true, true, true, false, false, false, false, false, false, false, false, false, false, false, false, false] rfl rfl (by kernel_rfl) (fun _ _ _ h => h) (Or.inl ⟨by rfl, ?_⟩) ?_ ?_
      rotate_left
      · intro w'
        go_simp
        with_reducible rfl
      rotate_left
      · simp only [Act.put, List.setIfInBounds_toArray, List.set_cons_zero, List.set_cons_succ, i64_w, i32_w]
        rfl
      refine pure_ (i := 3) (N := some 77) (v := ?_) (a' := ?_) #[true, true, true, true, false, false, false, false, false, false, false, false, false, false, false, false] rfl rfl (by kernel_rfl) (fun _ _ _ h => h) (Or.inl ⟨by rfl, ?_⟩) ?_ ?_
      rotate_left
      · intro w'
        go_simp
        with_reducible rfl
      rotate_left
      · simp only [Act.put, List.setIfInBounds_toArray, List.set_cons_zero, List.set_cons_succ, i64_w, i32_w]
        rfl
      refine pure_ (i := 4) (N := some 78) (v := ?_) (a' := ?_) #[true, true, true, true, true, false, false, false, false, false, false, false, false, false, false, false] rfl rfl (by kernel_rfl) (fun _ _ _ h => h) (Or.inl ⟨by rfl, ?_⟩) ?_ ?_
      rotate_left
      · intro w'
        go_simp
        with_reducible rfl
      rotate_left
      · simp only [Act.put, List.setIfInBounds_toArray, List.set_cons_zero, List.set_cons_succ, i64_w, i32_w]
        rfl
      refine pure_ (i := 7) (N := some 81) (v := ?_) (a' := ?_) #[true, true, true, true, true, false, false, true, false, false, false, false, false, false, false, false] rfl rfl (by kernel_rfl) (fun _ _ _ h => h) (Or.inl ⟨by rfl, ?_⟩) ?_ ?_
      rotate_left
      · intro w'
        go_simp
        with_reducible rfl
      rotate_left
      · simp only [Act.put, List.setIfInBounds_toArray, List.set_cons_zero, List.set_cons_succ, i64_w, i32_w]
        rfl
      refine pure_ (i := 9) (N := some 83) (v := ?_) (a' := ?_) #[true, true, true, true, true, false, false, true, false, true, false, false, false, false, false, false] rfl rfl (by kernel_rfl) (fun _ _ _ h => h) (Or.inl ⟨by rfl, ?_⟩) ?_ ?_
      rotate_left
      · intro w'
        go_simp
        with_reducible rfl
      rotate_left
      · simp only [Act.put, List.setIfInBounds_toArray, List.set_cons_zero, List.set_cons_succ, i64_w, i32_w]
        rfl
      refine take_ (i := 5) (N := some 79) (v := ?_) (a' := ?_) #[true, true, true, true, true, true, false, true, false, true, false, false, false, false, false, false] rfl rfl (by kernel_rfl) (fun _ _ _ h => h) (Or.inl ⟨by rfl, ?_⟩) hHeld ?_ ?_
      rotate_left
      · rintro w' ⟨s0, s1, s2, s3⟩
        go_simp
        with_reducible rfl
      rotate_left
      · simp only [Act.put, List.setIfInBounds_toArray, List.set_cons_zero, List.set_cons_succ, i64_w, i32_w]
        rfl
      refine pure_ (i := 6) (N := some 80) (v := ?_) (a' := ?_) #[true, true, true, true, true, true, true, true, false, true, false, false, false, false, false, false] rfl rfl (by kernel_rfl) (fun _ _ _ h => h) (Or.inl ⟨by rfl, ?_⟩) ?_ ?_
      rotate_left
      · intro w'
        go_simp
        with_reducible rfl
      rotate_left
      · simp only [Act.put, List.setIfInBounds_toArray, List.set_cons_zero, List.set_cons_succ, i64_w, i32_w]
        rfl
      refine take_ (i := 8) (N := some 82) (v := ?_) (a' := ?_) #[true, true, true, true, true, true, true, true, true, true, false, false, false, false, false, false] rfl rfl (by kernel_rfl) (fun _ _ _ h => h) (Or.inl ⟨by rfl, ?_⟩) hHeld ?_ ?_
      rotate_left
      · rintro w' ⟨s0, s1, s2, s3⟩
        go_simp
        with_reducible rfl
      rotate_left
      · simp only [Act.put, List.setIfInBounds_toArray, List.set_cons_zero, List.set_cons_succ, i64_w, i32_w]
        rfl
      refine take_ (i := 10) (N := some 84) (v := ?_) (a' := ?_) #[true, true, true, true, true, true, true, true, true, true, true, false, false, false, false, false] rfl rfl (by kernel_rfl) (fun _ _ _ h => h) (Or.inl ⟨by rfl, ?_⟩) hHeld ?_ ?_
      rotate_left
      · rintro w' ⟨s0, s1, s2, s3⟩
        go_simp
        with_reducible rfl
      rotate_left
      · simp only [Act.put, List.setIfInBounds_toArray, List.set_cons_zero, List.set_cons_succ, i64_w, i32_w]
        rfl
      refine pure_ (i := 11) (N := some 85) (v := ?_) (a' := ?_) #[true, true, true, true, true, true, true, true, true, true, true, true, false, false, false, false] rfl rfl (by kernel_rfl) (fun _ _ _ h => h) (Or.inl ⟨by rfl, ?_⟩) ?_ ?_
      rotate_left
      · intro w'
        go_simp
        with_reducible rfl
      rotate_left
      · simp only [Act.put, List.setIfInBounds_toArray, List.set_cons_zero, List.set_cons_succ, i64_w, i32_w]
        rfl
      refine take_ (i := 13) (N := some 87) (v := ?_) (a' := ?_) #[true, true, true, true, true, true, true, true, true, true, true, true, false, true, false, false] rfl rfl (by kernel_rfl) (fun _ _ _ h => h) (Or.inl ⟨by rfl, ?_⟩) hHeld ?_ ?_
      rotate_left
      · rintro w' ⟨s0, s1, s2, s3⟩
        go_simp
        with_reducible rfl
      rotate_left
      · simp only [Act.put, List.setIfInBounds_toArray, List.set_cons_zero, List.set_cons_succ, i64_w, i32_w]
        rfl
      refine one_ (i := 12) (N := some 86) #[true, true, true, true, true, true, true, true, true, true, true, true, true, true, false, false] rfl rfl (by kernel_rfl) (by decide) (fun K hK => ?_)
      refine goes_ Try.func28 (by kernel_rfl) rfl #[.int .i64 c, .string s, .int .i64 (wrap64 (x.tdiv 2)), .int .i64 (wrap64 (y + x))] (by rfl) rfl rfl (by first | (simp only [List.map_toArray, List.map_cons, List.map_nil]; done) | (simp only [List.map_toArray, List.map_cons, List.map_nil]; rfl) | simp) ?_
      with_reducible refine (text_calls c s (wrap64 (x.tdiv 2)) (wrap64 (y + x)) _ HS.out).mono ?_
      rintro e w3 ⟨rfl, hb⟩
      rw [HT2.out]
      refine ⟨_, rfl, ?_⟩
      refine hK.out _ _ ⟨(blk_cell (blk_below (blk_drew HX0.out) hb) 0).trans rfl, (blk_cell (blk_below (blk_drew HX0.out) hb) 1).trans rfl, (blk_cell (blk_below (blk_drew HF0.out) hb) 0).trans rfl, (blk_cell (blk_below (blk_drew HF0.out) hb) 1).trans rfl⟩ (fun hHeld => ?_)
      clear hK K
      refine norm_ (a' := ?_) ?_ ?_
      rotate_left
      · show Act.put _ (some 86) _ = _
        simp only [Act.put, List.setIfInBounds_toArray, List.set_cons_zero, List.set_cons_succ, i64_w, i32_w]
        rfl
      refine pure_ (i := 14) (N := some 88) (v := ?_) (a' := ?_) #[true, true, true, true, true, true, true, true, true, true, true, true, true, true, true, false] rfl rfl (by kernel_rfl) (fun _ _ _ h => h) (Or.inl ⟨by rfl, ?_⟩) ?_ ?_
      rotate_left
      · intro w'
        go_simp
        with_reducible rfl
      rotate_left
      · simp only [Act.put, List.setIfInBounds_toArray, List.set_cons_zero, List.set_cons_succ, i64_w, i32_w]
        rfl
      refine pure_ (i := 15) (N := some 89) (v := ?_) (a' := ?_) #[true, true, true, true, true, true, true, true, true, true, true, true, true, true, true, true] rfl rfl (by kernel_rfl) (fun _ _ _ h => h) (Or.inl ⟨by rfl, ?_⟩) ?_ ?_
      rotate_left
      · intro w'
        go_simp
        with_reducible rfl
      rotate_left
      · simp only [Act.put, List.setIfInBounds_toArray, List.set_cons_zero, List.set_cons_succ, i64_w, i32_w]
        rfl
      refine done_ (by kernel_rfl) ?_
      have n0_ := Aside0.mk (below_step (below_drew1 HB0.out) hb)
      clear HB
      have HB := n0_
      go_wp2_with fail
      with_reducible refine Calls.stepB (awake04_calls _) ⟨(by repeat (first | (with_reducible first | exact HB.out | apply below_alloc | apply pw_below_drewN | apply below_drew1) | exact HB.out))⟩ ?_
      clear HB
      intro w_ HK HB
      clear HK
      go_wp2
      go_ret
      exact ⟨rfl, (by repeat (first | (with_reducible first | exact HB.out | apply below_alloc | apply pw_below_drewN | apply below_drew1) | exact HB.out))⟩
    · obtain ⟨z, hz⟩ : ∃ z : Int, z = (i : Nat) := ⟨_, rfl⟩
      have hat : badI (clsB c) s = z := by rw [hz]; exact k1
      have HAT := Aside0.mk hat
      have HT := Aside0.mk (show textW c s x y = (14, z) by unfold textW; rw [if_neg hno, if_neg h5, if_neg h6, hat, if_pos (by omega)])
      have u3 : decide (0 ≤ z) = true := decide_eq_true (by omega)
      have u4 : decide (z ≤ (s.size : Int)) = true := decide_eq_true (by omega)
      have u5 : (z == -1) = false := beq_eq_false_iff_ne.mpr (by omega)
      clear hc h1 h2 h3 h4 h5 h6 hno hat k1 k3 hz
      go_enter Try.func9, Try.ntmps9
      go_wp2_with fail
      with_reducible refine (bad_yes c s _ HC.out HS.out).mono ?_
      rintro e w_ ⟨rfl, ⟨nd, rfl⟩⟩
      rw [HAT.out]
      go_wp2_with fail
      with_reducible refine Calls.stepB (text_calls c s x y _ HS.out) ⟨(by repeat (first | (with_reducible first | exact HB.out | apply below_alloc | apply pw_below_drewN | apply below_drew1) | exact HB.out))⟩ ?_
      clear HB
      intro w_ HK HB
      have n0 := Aside0.mk (blk_below (by with_reducible repeat (first | exact BX.out | apply blk_alloc | apply blk_drewN | apply blk_drew)) HK.out)
      clear BX
      have BX := n0
      clear n0
      clear HK
      rw [HT.out]
      have cx0 : (w_.alloc (.cells #[.int .i64 14, .int .i64 z] 40)).cell? ⟨w.heap.size, 0, none⟩ = some (.int .i64 x) := (blk_cell (blk_alloc BX.out _) 0).trans rfl
      have cx1 : (w_.alloc (.cells #[.int .i64 14, .int .i64 z] 40)).cell? ⟨w.heap.size, 1, none⟩ = some (.int .i64 y) := (blk_cell (blk_alloc BX.out _) 1).trans rfl
      go_wp2_with fail
      go_quiet (fail)
      go_wp2_with fail
      with_reducible refine Calls.stepB (awake04_calls _) ⟨(by repeat (first | (with_reducible first | exact HB.out | apply below_alloc | apply pw_below_drewN | apply below_drew1) | exact HB.out))⟩ ?_
      clear HB
      intro w_ HK HB
      clear HK
      go_wp2
      go_ret
      exact ⟨rfl, (by repeat (first | (with_reducible first | exact HB.out | apply below_alloc | apply pw_below_drewN | apply below_drew1) | exact HB.out))⟩
namespace classBounds
open Go.ChangeShapes Go.WideShapes Go.ChangeAt Go.RowKit
open Go.ChangeMaps (open_string shut_string)
theorem own : ownKnob Try.prog.godebug = none := by kernel_rfl
set_option maxRecDepth 100000 in
theorem lifted (os : Os) (started : os.Started) (H : Type) (enc : TypeId × Value → H) :
    ReturnsInHanded {} Try.checked os 9 .any (Rows.classBoundsSpec.pre6 enc Try.prog Try.f9 Rows.classBoundsRow.domain false) (Rows.classBoundsSpec.post enc Try.prog Try.f9 false true false false) := by
  refine returnsInHanded_of_change_sized (C := Try.checked) own started (by kernel_rfl) Try.func9
    (ChangeSpec.witness6 (enc := enc) (C := Try.checked) false ⟨#[], #[.int .i64 0, .string ByteArray.empty, .agg #[.int .i64 0, .int .i64 0]], []⟩ 8 (by kernel_rfl) (by kernel_rfl) (by kernel_rfl) (by kernel_rfl)) ?_
  intro W base args ds gs before hval0 hW hcnd hsz0 _
  have hsz : (DataW.weightsEach Try.prog (Try.f9.params.toList ++ Rows.classBoundsSpec.plain.varTypes Try.prog) (ds ++ gs)).all (· ≤ reachBytes) = true := hsz0
  have hval : ∀ (j : Nat) t v, Try.f9.params[j]? = some t → args[j]? = some v → Value.okWide Try.prog W .any base t v := hval0
  have hW' := hW
  obtain ⟨p, q, hA0, hV, rfl, hfz, hnd⟩ := hW
  have hA : DataW.TrodAll enc Try.prog W 0 (fun _ => true) true Try.f9.params.toList args.toList ds p := hA0
  rw [Try.params9] at hA hval hsz
  obtain ⟨v0, vs0, d0, ds0, p0, q0, hargs, rfl, rfl, h0, r0⟩ := trodAll_cons hA
  obtain ⟨v1, vs1, d1, ds1, p1, q1, rfl, rfl, rfl, h1, r1⟩ := trodAll_cons r0
  obtain ⟨v2, vs2, d2, ds2, p2, q2, rfl, rfl, rfl, h2, r2⟩ := trodAll_cons r1
  obtain ⟨rfl, rfl, rfl⟩ := trodAll_nil r2
  obtain rfl : args = #[v0, v1, v2] := by cases args; simp_all
  obtain ⟨rfl, rfl⟩ := trodVars_none hV
  obtain ⟨a0, rfl, rfl, rfl, w0⟩ := open_int Try.underlying3 (hval 0 3 v0 rfl rfl) h0
  obtain ⟨a1, rfl, rfl, rfl, y1⟩ := open_string Try.underlying9 (hval 1 9 v1 rfl rfl) h1
  have w1 : a1.size ≤ 140737488351232 := by
    have z := sized_string hsz (j := 1) (t := 9) rfl rfl
    rw [Array.length_toList] at z
    exact z
  obtain ⟨a2, b2, rfl, rfl, rfl, w2, z2⟩ := open_ints2 Try.underlying37 Try.underlying3 (by kernel_rfl) (by kernel_rfl) (hval 2 37 v2 rfl rfl) h2
  clear hA0 hval0 hsz0 hsz
  refine (classBounds_walk a0 a1 a2 b2 W (bounds_i64 w0) w1 (bounds_i64 w2) (bounds_i64 z2)).mono fun e W' ⟨he, bel⟩ => ?_
  subst he
  exact ⟨_, rfl, _, _, _, [], _, [], hW', trodAll_mk1 (shut_bool Try.underlying4 _), (trodAll_cons_mk (shut_int Try.underlying3 w0) (trodAll_cons_mk (shut_string Try.underlying9 y1) (trodAll_cons_mk (shut_ints2 Try.underlying37 Try.underlying3 (by kernel_rfl) (by kernel_rfl) w2 z2) trodAll_mk0))), rfl, bel.frame _, fun h => by cases h⟩
theorem over : Rows.classBoundsRow.holds Try.pinned (OpenSpec.ofChange Rows.classBoundsSpec) :=
  OpenClaim.holds_of_wide 9 Try.f9 rfl rfl rfl rfl rfl rfl rfl ⟨rfl, rfl, rfl, rfl, rfl⟩ rfl rfl rfl rfl rfl (by kernel_rfl) Try.func9 (by kernel_rfl)
    (of_decide_eq_true (by kernel_rfl)) (by unfold Func.isWrapper; first | (rw [if_pos (by decide +kernel)]; kernel_rfl) | (rw [if_neg (by decide +kernel)]; exact ⟨rfl, rfl⟩))
    (fun os started H enc _ => lifted os started H enc)
theorem proved : Rows.ClassBoundsSaid := over
end classBounds
/-- The row, under a short name, for the claim. -/
theorem classBounds_holds : Rows.ClassBoundsSaid := classBounds.proved
#print axioms classBounds_holds
end Go.Proofs.Ytgaboaeeodiadaa
