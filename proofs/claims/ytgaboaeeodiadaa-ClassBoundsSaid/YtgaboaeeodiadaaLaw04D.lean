/- The laws of classes: ClassParts, ClassBounds; no condition. -/
import Derived.Test.YtgaboaeeodiadaaLaw04A
import Derived.Test.YtgaboaeeodiadaaLawKit
import Derived.Test.YtgaboaeeodiadaaLawArr
import Derived.Test.YtgaboaeeodiadaaRows
namespace Go.Proofs.Ytgaboaeeodiadaa
open Go.RowKit Go.Proofs.YtgaboaeeodiadaaW.PrintWords Go.Proofs.YtgaboaeeodiadaaW.PrintLast Go.Proofs.YtgaboaeeodiadaaW.PrintMore
set_option linter.unusedVariables false
set_option linter.unusedSimpArgs false
/-- What the first bad place tells. -/
theorem badF_tells (f : Int → Bool) (s : ByteArray) : ∀ k i, i + k ≤ s.size → (badF f s k i = -1 ∧ ∀ j, i ≤ j → j < i + k → f (bt s (j : Nat)) = true) ∨ (∃ j : Nat, badF f s k i = (j : Nat) ∧ i ≤ j ∧ j < i + k ∧ f (bt s (j : Nat)) = false ∧ ∀ j2, i ≤ j2 → j2 < j → f (bt s (j2 : Nat)) = true)
  | 0, i, _ => .inl ⟨rfl, fun j h1 h2 => by omega⟩
  | k + 1, i, h => by
    unfold badF
    cases hq : f (bt s (i : Nat)) with
    | false =>
      rw [if_neg (by decide)]
      exact .inr ⟨i, rfl, by omega, by omega, hq, fun j2 h1 h2 => by omega⟩
    | true =>
      rw [if_pos rfl]
      rcases badF_tells f s k (i + 1) (by omega) with ⟨h1, h2⟩ | ⟨j, h1, h2, h3, h4, h5⟩
      · refine .inl ⟨h1, fun j h3 h4 => ?_⟩
        by_cases e : j = i
        · subst e; exact hq
        · exact h2 j (by omega) (by omega)
      · refine .inr ⟨j, h1, by omega, by omega, h4, fun j2 h6 h7 => ?_⟩
        by_cases e : j2 = i
        · subst e; exact hq
        · exact h5 j2 (by omega) h7
theorem badI_of_all (f : Int → Bool) (s : ByteArray) (h : ∀ j, j < s.size → f (bt s (j : Nat)) = true) : badI f s = -1 := by
  rcases badF_tells f s s.size 0 (by omega) with ⟨h1, _⟩ | ⟨j, _, _, h3, h4, _⟩
  · exact h1
  · rw [h j (by omega)] at h4
    cases h4
theorem badI_of_one (f : Int → Bool) (s : ByteArray) (j : Nat) (hj : j < s.size) (h : ∀ i, i < j → f (bt s (i : Nat)) = true) (h2 : f (bt s (j : Nat)) = false) : badI f s = (j : Nat) := by
  rcases badF_tells f s s.size 0 (by omega) with ⟨_, h1⟩ | ⟨i, h1, _, h3, h4, h5⟩
  · rw [h1 j (by omega) (by omega)] at h2
    cases h2
  · rcases Nat.lt_trichotomy i j with h6 | h6 | h6
    · rw [h i h6] at h4
      cases h4
    · subst h6; exact h1
    · rw [h5 j (by omega) h6] at h2
      cases h2
theorem bt_left (a b : ByteArray) (i : Nat) (h : i < a.size) : bt (a ++ b) (i : Nat) = bt a (i : Nat) := by
  unfold bt
  rw [dif_pos (by rw [ByteArray.size_append]; simp only [Int.toNat_natCast]; omega), dif_pos (by simpa using h)]
  congr 2
  simp only [Int.toNat_natCast]
  exact ByteArray.getElem_append_left h
theorem bt_right (a b : ByteArray) (i : Nat) (h : i < b.size) : bt (a ++ b) ((a.size + i : Nat) : Int) = bt b (i : Nat) := by
  unfold bt
  rw [dif_pos (by rw [ByteArray.size_append]; simp only [Int.toNat_natCast]; omega), dif_pos (by simpa using h)]
  congr 2
  simp only [Int.toNat_natCast]
  rw [ByteArray.getElem_append_right (by omega)]
  congr 1
  omega
/-- The first bad place of two texts. -/
theorem badI_append (f : Int → Bool) (a b : ByteArray) : badI f (a ++ b) = if badI f a = -1 then (if badI f b = -1 then -1 else badI f b + a.size) else badI f a := by
  rcases badF_tells f a a.size 0 (by omega) with ⟨h1, h2⟩ | ⟨i, h1, _, h3, h4, h5⟩
  · have e1 : badI f a = -1 := h1
    rw [if_pos e1]
    rcases badF_tells f b b.size 0 (by omega) with ⟨g1, g2⟩ | ⟨j, g1, _, g3, g4, g5⟩
    · have e2 : badI f b = -1 := g1
      rw [if_pos e2]
      refine badI_of_all f _ fun j hj => ?_
      rw [ByteArray.size_append] at hj
      by_cases e : j < a.size
      · rw [bt_left a b j e]
        exact h2 j (by omega) (by omega)
      · obtain ⟨i, rfl⟩ := Nat.exists_eq_add_of_le (show a.size ≤ j by omega)
        rw [bt_right a b i (by omega)]
        exact g2 i (by omega) (by omega)
    · have e2 : badI f b = (j : Nat) := g1
      rw [if_neg (by omega), e2]
      rw [badI_of_one f (a ++ b) (a.size + j) (by rw [ByteArray.size_append]; omega) (fun i hi => ?_) (by rw [bt_right a b j (by omega)]; exact g4)]
      · omega
      · by_cases e : i < a.size
        · rw [bt_left a b i e]
          exact h2 i (by omega) (by omega)
        · obtain ⟨k, rfl⟩ := Nat.exists_eq_add_of_le (show a.size ≤ i by omega)
          rw [bt_right a b k (by omega)]
          exact g5 k (by omega) (by omega)
  · have e1 : badI f a = (i : Nat) := h1
    rw [if_neg (by omega), e1]
    refine badI_of_one f (a ++ b) i (by rw [ByteArray.size_append]; omega) (fun k hk => ?_) ?_
    · rw [bt_left a b k (by omega)]
      exact h5 k (by omega) hk
    · rw [bt_left a b i (by omega)]
      exact h4
set_option maxHeartbeats 4000000 in
set_option maxRecDepth 100000 in
theorem classParts_walk (c : Int) (a b : ByteArray) (w : World) (hcb : -9223372036854775808 ≤ c ∧ c ≤ 9223372036854775807) (ha : a.size ≤ maxLen) (hb : b.size ≤ maxLen) :
    Calls Try.prog 8 #[.int .i64 c, .agg #[.string a, .string b]] w fun e w' => e = .returned (.bool true) ∧ Below w.heap.size w w' := by
  clear hcb ha hb
  have HB := Aside0.mk (Below.refl w.heap.size w)
  by_cases h1 : 200 < (a.size : Int)
  · have t1 : decide (200 < (a.size : Int)) = true := decide_eq_true h1
    clear h1
    go_enter Try.func8, Try.ntmps8
    go_wp2_with fail
    with_reducible refine Calls.stepB (awake04_calls _) ⟨(by repeat (first | (with_reducible first | exact HB.out | apply below_alloc | apply pw_below_drewN | apply below_drew1) | exact HB.out))⟩ ?_
    clear HB
    intro w_ HK HB
    clear HK
    go_wp2
    go_ret
    exact ⟨rfl, (by repeat (first | (with_reducible first | exact HB.out | apply below_alloc | apply pw_below_drewN | apply below_drew1) | exact HB.out))⟩
  have t1 : decide (200 < (a.size : Int)) = false := decide_eq_false h1
  by_cases h2 : 200 < (b.size : Int)
  · have t2 : decide (200 < (b.size : Int)) = true := decide_eq_true h2
    clear h1 h2
    go_enter Try.func8, Try.ntmps8
    go_wp2_with fail
    with_reducible refine Calls.stepB (awake04_calls _) ⟨(by repeat (first | (with_reducible first | exact HB.out | apply below_alloc | apply pw_below_drewN | apply below_drew1) | exact HB.out))⟩ ?_
    clear HB
    intro w_ HK HB
    clear HK
    go_wp2
    go_ret
    exact ⟨rfl, (by repeat (first | (with_reducible first | exact HB.out | apply below_alloc | apply pw_below_drewN | apply below_drew1) | exact HB.out))⟩
  have t2 : decide (200 < (b.size : Int)) = false := decide_eq_false h2
  have t3 : a.size + b.size ≤ 9223372036854775807 := by omega
  have SA := Aside0.mk (show a.size ≤ 9223372036854775807 by omega)
  have SB := Aside0.mk (show b.size ≤ 9223372036854775807 by omega)
  have SC := Aside0.mk (show (a ++ b).size ≤ 9223372036854775807 by rw [ByteArray.size_append]; omega)
  have SN := Aside0.mk (show a.size ≤ 200 ∧ b.size ≤ 200 by omega)
  have q3 := eq_true t3
  have q3b : decide (a.size + b.size ≤ 9223372036854775807) = true := decide_eq_true t3
  have q3c : (9223372036854775807 < a.size + b.size) = False := eq_false (Nat.not_lt.2 t3)
  clear h1 h2 t3
  cases hc : betB c 1 4 with
  | false =>
    have HC := Aside0.mk hc
    have hcc : c < 1 ∨ (¬ c < 1 ∧ 4 < c) := by
      by_cases h : c < 1
      · exact .inl h
      · refine .inr ⟨h, ?_⟩
        have := hc
        unfold betB at this
        rw [decide_eq_true (show 1 ≤ c by omega), Bool.true_and] at this
        have := of_decide_eq_false this
        omega
    clear hc
    rcases hcc with h | ⟨h, h2⟩
    · have u1 : decide (c < 1) = true := decide_eq_true h
      clear h
      go_enter Try.func8, Try.ntmps8
      go_wp2_with fail
      with_reducible refine Calls.stepEq (bad_no c a _ HC.out) ?_
      go_wp2_with fail
      with_reducible refine Calls.stepEq (bad_no c b _ HC.out) ?_
      go_wp2_with fail
      with_reducible refine Calls.stepEq (bad_no c (a ++ b) _ HC.out) ?_
      go_wp2_with fail
      with_reducible refine Calls.stepB (awake04_calls _) ⟨(by repeat (first | (with_reducible first | exact HB.out | apply below_alloc | apply pw_below_drewN | apply below_drew1) | exact HB.out))⟩ ?_
      clear HB
      intro w_ HK HB
      clear HK
      go_wp2
      go_ret
      exact ⟨rfl, (by repeat (first | (with_reducible first | exact HB.out | apply below_alloc | apply pw_below_drewN | apply below_drew1) | exact HB.out))⟩
    · have u1 : decide (c < 1) = false := decide_eq_false h
      have u2 : decide (4 < c) = true := decide_eq_true h2
      clear h h2
      go_enter Try.func8, Try.ntmps8
      go_wp2_with fail
      with_reducible refine Calls.stepEq (bad_no c a _ HC.out) ?_
      go_wp2_with fail
      with_reducible refine Calls.stepEq (bad_no c b _ HC.out) ?_
      go_wp2_with fail
      with_reducible refine Calls.stepEq (bad_no c (a ++ b) _ HC.out) ?_
      go_wp2_with fail
      with_reducible refine Calls.stepB (awake04_calls _) ⟨(by repeat (first | (with_reducible first | exact HB.out | apply below_alloc | apply pw_below_drewN | apply below_drew1) | exact HB.out))⟩ ?_
      clear HB
      intro w_ HK HB
      clear HK
      go_wp2
      go_ret
      exact ⟨rfl, (by repeat (first | (with_reducible first | exact HB.out | apply below_alloc | apply pw_below_drewN | apply below_drew1) | exact HB.out))⟩
  | true =>
    have HC := Aside0.mk hc
    have HA := badI_append (clsB c) a b
    have GA := fun w : World => bad_yes c a w hc SA.out
    have GB := fun w : World => bad_yes c b w hc SB.out
    have GC := fun w : World => bad_yes c (a ++ b) w hc SC.out
    rcases badF_tells (clsB c) a a.size 0 (by omega) with ⟨g1, _⟩ | ⟨i, g1, _, g3, g4, _⟩
    · have e1 : badI (clsB c) a = -1 := g1
      rw [e1] at GA HA
      rw [if_pos rfl] at HA
      have u1 : decide ((a.size : Int) ≤ -1) = false := decide_eq_false (by omega)
      rcases badF_tells (clsB c) b b.size 0 (by omega) with ⟨k1, _⟩ | ⟨i, k1, _, k3, _, _⟩
      · have e2 : badI (clsB c) b = -1 := k1
        rw [e2] at GB HA
        rw [if_pos rfl] at HA
        rw [HA] at GC
        have HGA := Aside0.mk GA
        have HGB := Aside0.mk GB
        have HGC := Aside0.mk GC
        clear GA GB GC HA e1 e2 g1 k1 hc
        go_enter Try.func8, Try.ntmps8
        go_wp2_with fail
        with_reducible refine (HGA.out _).mono ?_
        rintro e w_ ⟨rfl, ⟨nd, rfl⟩⟩
        go_wp2_with fail
        with_reducible refine (HGB.out _).mono ?_
        rintro e w_ ⟨rfl, ⟨nd, rfl⟩⟩
        go_wp2_with fail
        with_reducible refine (HGC.out _).mono ?_
        rintro e w_ ⟨rfl, ⟨nd, rfl⟩⟩
        go_wp2_with fail
        with_reducible refine Calls.stepB (awake04_calls _) ⟨(by repeat (first | (with_reducible first | exact HB.out | apply below_alloc | apply pw_below_drewN | apply below_drew1) | exact HB.out))⟩ ?_
        clear HB
        intro w_ HK HB
        clear HK
        go_wp2
        go_ret
        exact ⟨rfl, (by repeat (first | (with_reducible first | exact HB.out | apply below_alloc | apply pw_below_drewN | apply below_drew1) | exact HB.out))⟩
      · have e2 : badI (clsB c) b = (i : Nat) := k1
        rw [e2] at GB HA
        rw [if_neg (by omega)] at HA
        rw [HA] at GC
        have u3 : decide ((0 : Int) ≤ (i : Nat)) = true := decide_eq_true (by omega)
        have hw := IntWalk.wrap64_in ((i : Int) + (a.size : Int)) (by have := SN.out; omega)
        have HGA := Aside0.mk GA
        have HGB := Aside0.mk GB
        have HGC := Aside0.mk GC
        clear GA GB GC HA e1 e2 g1 k1 k3 hc
        go_enter Try.func8, Try.ntmps8
        go_wp2_with fail
        with_reducible refine (HGA.out _).mono ?_
        rintro e w_ ⟨rfl, ⟨nd, rfl⟩⟩
        go_wp2_with fail
        with_reducible refine (HGB.out _).mono ?_
        rintro e w_ ⟨rfl, ⟨nd, rfl⟩⟩
        go_wp2_with fail
        with_reducible refine (HGC.out _).mono ?_
        rintro e w_ ⟨rfl, ⟨nd, rfl⟩⟩
        go_wp2_with fail
        with_reducible refine Calls.stepB (awake04_calls _) ⟨(by repeat (first | (with_reducible first | exact HB.out | apply below_alloc | apply pw_below_drewN | apply below_drew1) | exact HB.out))⟩ ?_
        clear HB
        intro w_ HK HB
        clear HK
        go_wp2
        go_ret
        exact ⟨rfl, (by repeat (first | (with_reducible first | exact HB.out | apply below_alloc | apply pw_below_drewN | apply below_drew1) | exact HB.out))⟩
    · have e1 : badI (clsB c) a = (i : Nat) := g1
      rw [e1] at GA HA
      rw [if_neg (by omega)] at HA
      rw [HA] at GC
      have u1 : decide ((a.size : Int) ≤ (i : Nat)) = false := decide_eq_false (by omega)
      have u2 : decide (((i : Nat) : Int) < -1) = false := decide_eq_false (by omega)
      have u3 : decide ((0 : Int) ≤ (i : Nat)) = true := decide_eq_true (by omega)
      obtain ⟨x, hx⟩ : ∃ x : Int, x = (i : Nat) := ⟨_, rfl⟩
      obtain ⟨y, hy⟩ : ∃ y, y = badI (clsB c) b := ⟨_, rfl⟩
      rw [← hy] at GB
      rw [← hx] at GA GC u1 u2 u3 g4
      have hx8 := bt_at a x
      have p8 := eq_true (show 0 ≤ x by omega)
      have q8 := eq_true (show x < (a.size : Int) by omega)
      have u4 : decide (x < (a.size : Int)) = true := decide_eq_true (by omega)
      have HGA := Aside0.mk GA
      have HGB := Aside0.mk GB
      have HGC := Aside0.mk GC
      have HG4 := Aside0.mk g4
      clear GA GB GC HA e1 g1 g3 g4 hc hx hy
      go_enter Try.func8, Try.ntmps8
      go_wp2_with fail
      with_reducible refine (HGA.out _).mono ?_
      rintro e w_ ⟨rfl, ⟨nd, rfl⟩⟩
      go_wp2_with fail
      with_reducible refine (HGB.out _).mono ?_
      rintro e w_ ⟨rfl, ⟨nd, rfl⟩⟩
      go_wp2_with fail
      with_reducible refine (HGC.out _).mono ?_
      rintro e w_ ⟨rfl, ⟨nd, rfl⟩⟩
      go_wp2_with fail
      with_reducible refine Calls.stepEq (is_calls c (bt a x) _) ?_
      rw [HG4.out]
      go_wp2_with fail
      with_reducible refine Calls.stepB (awake04_calls _) ⟨(by repeat (first | (with_reducible first | exact HB.out | apply below_alloc | apply pw_below_drewN | apply below_drew1) | exact HB.out))⟩ ?_
      clear HB
      intro w_ HK HB
      clear HK
      go_wp2
      go_ret
      exact ⟨rfl, (by repeat (first | (with_reducible first | exact HB.out | apply below_alloc | apply pw_below_drewN | apply below_drew1) | exact HB.out))⟩
namespace classParts
open Go.ChangeShapes Go.WideShapes Go.ChangeAt Go.RowKit
open Go.ChangeMaps (open_string shut_string)
theorem own : ownKnob Try.prog.godebug = none := by kernel_rfl
set_option maxRecDepth 100000 in
theorem lifted (os : Os) (started : os.Started) (H : Type) (enc : TypeId × Value → H) :
    ReturnsInHanded {} Try.checked os 8 .any (Rows.classPartsSpec.pre6 enc Try.prog Try.f8 Rows.classPartsRow.domain false) (Rows.classPartsSpec.post enc Try.prog Try.f8 false true false false) := by
  refine returnsInHanded_of_change_sized (C := Try.checked) own started (by kernel_rfl) Try.func8
    (ChangeSpec.witness6 (enc := enc) (C := Try.checked) false ⟨#[], #[.int .i64 0, .agg #[.string ByteArray.empty, .string ByteArray.empty]], []⟩ 8 (by kernel_rfl) (by kernel_rfl) (by kernel_rfl) (by kernel_rfl)) ?_
  intro W base args ds gs before hval0 hW hcnd hsz0 _
  have hsz : (DataW.weightsEach Try.prog (Try.f8.params.toList ++ Rows.classPartsSpec.plain.varTypes Try.prog) (ds ++ gs)).all (· ≤ reachBytes) = true := hsz0
  have hval : ∀ (j : Nat) t v, Try.f8.params[j]? = some t → args[j]? = some v → Value.okWide Try.prog W .any base t v := hval0
  have hW' := hW
  obtain ⟨p, q, hA0, hV, rfl, hfz, hnd⟩ := hW
  have hA : DataW.TrodAll enc Try.prog W 0 (fun _ => true) true Try.f8.params.toList args.toList ds p := hA0
  rw [Try.params8] at hA hval hsz
  obtain ⟨v0, vs0, d0, ds0, p0, q0, hargs, rfl, rfl, h0, r0⟩ := trodAll_cons hA
  obtain ⟨v1, vs1, d1, ds1, p1, q1, rfl, rfl, rfl, h1, r1⟩ := trodAll_cons r0
  obtain ⟨rfl, rfl, rfl⟩ := trodAll_nil r1
  obtain rfl : args = #[v0, v1] := by cases args; simp_all
  obtain ⟨rfl, rfl⟩ := trodVars_none hV
  obtain ⟨a0, rfl, rfl, rfl, w0⟩ := open_int Try.underlying3 (hval 0 3 v0 rfl rfl) h0
  obtain ⟨a1, b1, rfl, rfl, rfl, w1, z1⟩ := open_strs2 Try.underlying45 Try.underlying9 (by kernel_rfl) (by kernel_rfl) (hval 1 45 v1 rfl rfl) h1
  clear hA0 hval0 hsz0 hsz
  refine (classParts_walk a0 a1 b1 W (bounds_i64 w0) w1 z1).mono fun e W' ⟨he, bel⟩ => ?_
  subst he
  exact ⟨_, rfl, _, _, _, [], _, [], hW', trodAll_mk1 (shut_bool Try.underlying4 _), (trodAll_cons_mk (shut_int Try.underlying3 w0) (trodAll_cons_mk (shut_strs2 Try.underlying45 Try.underlying9 (by kernel_rfl) (by kernel_rfl) w1 z1) trodAll_mk0)), rfl, bel.frame _, fun h => by cases h⟩
theorem over : Rows.classPartsRow.holds Try.pinned (OpenSpec.ofChange Rows.classPartsSpec) :=
  OpenClaim.holds_of_wide 8 Try.f8 rfl rfl rfl rfl rfl rfl rfl ⟨rfl, rfl, rfl, rfl, rfl⟩ rfl rfl rfl rfl rfl (by kernel_rfl) Try.func8 (by kernel_rfl)
    (of_decide_eq_true (by kernel_rfl)) (by unfold Func.isWrapper; first | (rw [if_pos (by decide +kernel)]; kernel_rfl) | (rw [if_neg (by decide +kernel)]; exact ⟨rfl, rfl⟩))
    (fun os started H enc _ => lifted os started H enc)
theorem proved : Rows.ClassPartsSaid := over
end classParts
/-- The row, under a short name, for the claim. -/
theorem classParts_holds : Rows.ClassPartsSaid := classParts.proved
#print axioms classParts_holds
end Go.Proofs.Ytgaboaeeodiadaa
