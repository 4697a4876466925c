/- The laws of classes: ClassNests; no condition. -/
import Derived.Test.YtgaboaeeodiadaaLaw04A
import Derived.Test.YtgaboaeeodiadaaVarRef
import Derived.Test.YtgaboaeeodiadaaLawKit
import Derived.Test.YtgaboaeeodiadaaRows
namespace Go.Proofs.Ytgaboaeeodiadaa
open Go.RowKit Go.Proofs.YtgaboaeeodiadaaW.PrintWords Go.Proofs.YtgaboaeeodiadaaW.PrintLast Go.Proofs.YtgaboaeeodiadaaW.PrintMore
set_option linter.unusedVariables false
set_option linter.unusedSimpArgs false
def nestsB (b : Int) (d n k v : Bool) : Bool :=
  (!d || n) && (!n || k) && (!k || v) && (!v || (!decide (b < 33) && !decide (126 < b) && !(b == 44) && !(b == 124))) && (d == (decide (48 ≤ b) && decide (b ≤ 57))) && (!k || n || b == 47)
theorem nests_fin : ∀ n : Fin 256, nestsB (n.val : Int) (clsB 4 (n.val : Int)) (clsB 1 (n.val : Int)) (clsB 2 (n.val : Int)) (clsB 3 (n.val : Int)) = true := by decide +kernel
theorem nests_facts (b : Int) (hb : 0 ≤ b ∧ b ≤ 255) : nestsB b (clsB 4 b) (clsB 1 b) (clsB 2 b) (clsB 3 b) = true := by
  obtain ⟨n, rfl⟩ := Int.eq_ofNat_of_zero_le hb.1
  exact nests_fin ⟨n, by omega⟩
theorem nests_v {b : Int} {d n k : Bool} (h : nestsB b d n k true = true) : 33 ≤ b ∧ b ≤ 126 ∧ ¬ b = 44 ∧ ¬ b = 124 := by
  have h1 := h
  simp [nestsB] at h1
  omega
theorem nests_47 {b : Int} {d v : Bool} (h : nestsB b d false true v = true) : b = 47 := by
  have h1 := h
  simp [nestsB] at h1
  omega
theorem nests_d {b : Int} {n k v : Bool} (h : nestsB b true n k v = true) : 48 ≤ b ∧ b ≤ 57 := by
  have h1 := h
  simp [nestsB] at h1
  omega
theorem nests_nd {b : Int} {n k v : Bool} (h : nestsB b false n k v = true) : ¬ 48 ≤ b ∨ (48 ≤ b ∧ ¬ b ≤ 57) := by
  by_cases h2 : 48 ≤ b
  · refine .inr ⟨h2, fun h3 => ?_⟩
    have h1 := h
    simp only [nestsB, decide_eq_true h2, decide_eq_true h3] at h1
    simp at h1
  · exact .inl h2
theorem cls_none (c b : Int) (h : betB c 1 4 = false) : clsB c b = false := by
  unfold clsB
  have h1 : ¬ c = 1 := fun e => by subst e; exact absurd h (by decide)
  have h2 : ¬ c = 2 := fun e => by subst e; exact absurd h (by decide)
  have h3 : ¬ c = 3 := fun e => by subst e; exact absurd h (by decide)
  have h4 : ¬ c = 4 := fun e => by subst e; exact absurd h (by decide)
  rw [if_neg h3, if_neg h2, if_neg h1, if_neg h4]
theorem bad_one (c b : Int) (hb : 0 ≤ b ∧ b ≤ 255) : badI (clsB c) (strOfNums [b]) = if clsB c b = true then -1 else 0 := by
  have e : bt (strOfNums [b]) 0 = b := by
    unfold bt
    rw [dif_pos (by rw [strOfNums_size]; exact Nat.zero_lt_one)]
    simp [strOfNums]
    show ((UInt8.ofNat b.toNat).toNat : Int) = b
    rw [UInt8.toNat_ofNat']
    omega
  have e2 : badI (clsB c) (strOfNums [b]) = badF (clsB c) (strOfNums [b]) 1 0 := by unfold badI; rw [strOfNums_size]; rfl
  rw [e2]
  show (if clsB c (bt (strOfNums [b]) 0) = true then (-1 : Int) else 0) = _
  rw [e]
set_option maxHeartbeats 4000000 in
set_option maxRecDepth 100000 in
theorem classNests_walk (b c : Int) (w : World) (hb : 0 ≤ b ∧ b ≤ 255) (hc : -9223372036854775808 ≤ c ∧ c ≤ 9223372036854775807) :
    Calls Try.prog 7 #[.int .u8 b, .int .i64 c] w fun e w' => e = .returned (.bool true) ∧ Below w.heap.size w w' := by
  have HB := Aside0.mk (Below.refl w.heap.size w)
  have F0 := nests_facts b hb
  have H1 := Aside0.mk (fun w : World => is_calls 1 b w)
  have H2 := Aside0.mk (fun w : World => is_calls 2 b w)
  have H3 := Aside0.mk (fun w : World => is_calls 3 b w)
  have H4 := Aside0.mk (fun w : World => is_calls 4 b w)
  obtain ⟨d, hd⟩ : ∃ d, d = clsB 4 b := ⟨_, rfl⟩
  obtain ⟨n, hn⟩ : ∃ n, n = clsB 1 b := ⟨_, rfl⟩
  obtain ⟨k, hk⟩ : ∃ k, k = clsB 2 b := ⟨_, rfl⟩
  obtain ⟨v, hv⟩ : ∃ v, v = clsB 3 b := ⟨_, rfl⟩
  rw [← hd] at H4 F0
  rw [← hn] at H1 F0
  rw [← hk] at H2 F0
  rw [← hv] at H3 F0
  have F := Aside0.mk F0
  have HBB := Aside0.mk hb
  clear F0 hd hn hk hv hb
  go_enter Try.func7, Try.ntmps7
  go_upto_region 5 with (first | (go_at_call 23; with_reducible refine Calls.stepEq (H4.out _) ?_) | (go_at_call 23; with_reducible refine Calls.stepEq (H1.out _) ?_) | (go_at_call 23; with_reducible refine Calls.stepEq (H2.out _) ?_) | (go_at_call 23; with_reducible refine Calls.stepEq (H3.out _) ?_))
  (try simp only [Act.put, List.setIfInBounds_toArray, List.set_cons_zero, List.set_cons_succ])
  go_cut [56] (fun v56 wc => v56 = .bool false ∧ w = wc)
  case first =>
    cases d <;> cases n <;> cases k <;> cases v
    all_goals first
    | (exfalso; have f := F.out; simp only [nestsB, Bool.not_true, Bool.not_false, Bool.false_or, Bool.or_false, Bool.false_and, Bool.and_false, Bool.true_and, Bool.false_eq_true] at f; done)
    | (go_wp2; go_meet; case rel => exact ⟨rfl, rfl⟩)
    | skip
    all_goals
      have f1 := nests_v F.out
      have t1 : decide (b < 33) = false := decide_eq_false (by omega)
      have t2 : decide (126 < b) = false := decide_eq_false (by omega)
      have t3 : (b == 44) = false := beq_eq_false_iff_ne.mpr (by omega)
      have t4 : (b == 124) = false := beq_eq_false_iff_ne.mpr (by omega)
      clear f1
      go_wp2
      go_meet
      case rel => exact ⟨rfl, rfl⟩
  case rest =>
    obtain ⟨rfl, rfl⟩ := hcut
    go_upto_region 7 with (fail)
    (try simp only [Act.put, List.setIfInBounds_toArray, List.set_cons_zero, List.set_cons_succ])
    go_cut [75] (fun v75 wc => v75 = .bool false ∧ w = wc)
    case first =>
      cases d with
      | true =>
        have f := nests_d F.out
        have t1 : decide (48 ≤ b) = true := decide_eq_true f.1
        have t2 : decide (b ≤ 57) = true := decide_eq_true f.2
        clear f
        cases k <;> cases n
        all_goals first
        | (exfalso; have f := F.out; simp only [nestsB, Bool.not_true, Bool.not_false, Bool.false_or, Bool.or_false, Bool.false_and, Bool.and_false, Bool.true_and, Bool.false_eq_true] at f; done)
        | (go_wp2; go_meet; case rel => exact ⟨rfl, rfl⟩)
      | false =>
        rcases nests_nd F.out with f | ⟨f1, f2⟩
        · have t1 : decide (48 ≤ b) = false := decide_eq_false f
          clear f
          cases k <;> cases n
          · go_wp2
            go_meet
            case rel => exact ⟨rfl, rfl⟩
          · go_wp2
            go_meet
            case rel => exact ⟨rfl, rfl⟩
          · have t3 : (b == 47) = true := beq_iff_eq.mpr (nests_47 F.out)
            have t4 : (b != 47) = false := bne_eq_false_iff_eq.mpr (nests_47 F.out)
            go_wp2
            go_meet
            case rel => exact ⟨rfl, rfl⟩
          · go_wp2
            go_meet
            case rel => exact ⟨rfl, rfl⟩
        · have t1 : decide (48 ≤ b) = true := decide_eq_true f1
          have t2 : decide (b ≤ 57) = false := decide_eq_false f2
          cases k <;> cases n
          · go_wp2
            go_meet
            case rel => exact ⟨rfl, rfl⟩
          · go_wp2
            go_meet
            case rel => exact ⟨rfl, rfl⟩
          · exact absurd (nests_47 F.out) (by omega)
          · clear f1 f2
            go_wp2
            go_meet
            case rel => exact ⟨rfl, rfl⟩
    case rest =>
      obtain ⟨rfl, rfl⟩ := hcut
      go_upto_region 9 with (fail)
      (try simp only [Act.put, List.setIfInBounds_toArray, List.set_cons_zero, List.set_cons_succ])
      go_cut [81] (fun v81 wc => v81 = .bool (!betB c 1 4) ∧ w = wc)
      case first =>
        by_cases c1 : c < 1
        · have t1 : decide (c < 1) = true := decide_eq_true c1
          have HQ := Aside0.mk (show betB c 1 4 = false by unfold betB; rw [decide_eq_false (show ¬ 1 ≤ c by omega)]; rfl)
          clear c1
          go_wp2
          go_meet
          case rel => exact ⟨by rw [HQ.out]; rfl, rfl⟩
        · have t1 : decide (c < 1) = false := decide_eq_false c1
          by_cases c2 : 4 < c
          · have t2 : decide (4 < c) = true := decide_eq_true c2
            have HQ := Aside0.mk (show betB c 1 4 = false by unfold betB; rw [decide_eq_false (show ¬ c ≤ 4 by omega), Bool.and_false])
            clear c1 c2
            go_wp2
            go_meet
            case rel => exact ⟨by rw [HQ.out]; rfl, rfl⟩
          · have t2 : decide (4 < c) = false := decide_eq_false c2
            have HQ := Aside0.mk (show betB c 1 4 = true by unfold betB; rw [decide_eq_true (show c ≤ 4 by omega), decide_eq_true (show 1 ≤ c by omega)]; rfl)
            clear c1 c2
            go_wp2
            go_meet
            case rel => exact ⟨by rw [HQ.out]; rfl, rfl⟩
      case rest =>
        obtain ⟨rfl, rfl⟩ := hcut
        have HIS := Aside0.mk (fun w : World => is_calls c b w)
        cases hq : betB c 1 4 with
        | false =>
          have HN := Aside0.mk (cls_none c b hq)
          rw [HN.out] at HIS
          clear hq
          go_wp2_with (first | (go_at_call 23; with_reducible refine Calls.stepEq (HIS.out _) ?_))
          go_wp2_with fail
          with_reducible refine Calls.stepB (awake04_calls _) ⟨(by repeat (first | (with_reducible first | exact HB.out | apply below_alloc | apply pw_below_drewN | apply below_drew1) | exact HB.out))⟩ ?_
          clear HB
          intro w_ HK HB
          clear HK
          go_wp2
          go_ret
          exact ⟨rfl, (by repeat (first | (with_reducible first | exact HB.out | apply below_alloc | apply pw_below_drewN | apply below_drew1) | exact HB.out))⟩
        | true =>
          have HQ := Aside0.mk hq
          have HBO := bad_one c b HBB.out
          have hcv : (convert 22 9 (.slice (some ⟨w.heap.size, 0, none⟩) 1 1)).run Try.prog (w.alloc (.cells #[.int .u8 b] 5)) = .ok (.string (strOfNums [b])) (w.alloc (.cells #[.int .u8 b] 5)) := (own_string (P := Try.prog) Try.underlying22 Try.underlying5 Try.underlying9 (Kd.own_of_R (R_lit_u8 (w := w) 5 (below_size HB.out) [b] (by simp))))
          have HZ := Aside0.mk (show (strOfNums [b]).size ≤ 9223372036854775807 by rw [strOfNums_size]; simp)
          cases hx : clsB c b with
          | false =>
            rw [hx, if_neg (by decide)] at HBO
            rw [hx] at HIS
            have HBO := Aside0.mk HBO
            clear hx hq
            go_wp2_with fail
            with_reducible refine (bad_yes c (strOfNums [b]) _ HQ.out HZ.out).mono ?_
            rintro e w_ ⟨rfl, ⟨nd, rfl⟩⟩
            rw [HBO.out]
            go_wp2_with fail
            with_reducible refine Calls.stepEq (HIS.out _) ?_
            go_wp2_with fail
            with_reducible refine Calls.stepB (awake04_calls _) ⟨(by repeat (first | (with_reducible first | exact HB.out | apply below_alloc | apply pw_below_drewN | apply below_drew1) | exact HB.out))⟩ ?_
            clear HB
            intro w_ HK HB
            clear HK
            go_wp2
            go_ret
            exact ⟨rfl, (by repeat (first | (with_reducible first | exact HB.out | apply below_alloc | apply pw_below_drewN | apply below_drew1) | exact HB.out))⟩
          | true =>
            rw [hx, if_pos rfl] at HBO
            rw [hx] at HIS
            have HBO := Aside0.mk HBO
            clear hx hq
            go_wp2_with fail
            with_reducible refine (bad_yes c (strOfNums [b]) _ HQ.out HZ.out).mono ?_
            rintro e w_ ⟨rfl, ⟨nd, rfl⟩⟩
            rw [HBO.out]
            go_wp2_with fail
            with_reducible refine Calls.stepEq (HIS.out _) ?_
            go_wp2_with fail
            with_reducible refine Calls.stepB (awake04_calls _) ⟨(by repeat (first | (with_reducible first | exact HB.out | apply below_alloc | apply pw_below_drewN | apply below_drew1) | exact HB.out))⟩ ?_
            clear HB
            intro w_ HK HB
            clear HK
            go_wp2
            go_ret
            exact ⟨rfl, (by repeat (first | (with_reducible first | exact HB.out | apply below_alloc | apply pw_below_drewN | apply below_drew1) | exact HB.out))⟩
namespace classNests
open Go.ChangeShapes Go.WideShapes Go.ChangeAt Go.RowKit
open Go.ChangeMaps (open_string shut_string)
theorem own : ownKnob Try.prog.godebug = none := by kernel_rfl
set_option maxRecDepth 100000 in
theorem lifted (os : Os) (started : os.Started) (H : Type) (enc : TypeId × Value → H) :
    ReturnsInHanded {} Try.checked os 7 .any (Rows.classNestsSpec.pre6 enc Try.prog Try.f7 Rows.classNestsRow.domain false) (Rows.classNestsSpec.post enc Try.prog Try.f7 false true false false) := by
  refine returnsInHanded_of_change_sized (C := Try.checked) own started (by kernel_rfl) Try.func7
    (ChangeSpec.witness6 (enc := enc) (C := Try.checked) false ⟨#[], #[.int .u8 0, .int .i64 0], []⟩ 8 (by kernel_rfl) (by kernel_rfl) (by kernel_rfl) (by kernel_rfl)) ?_
  intro W base args ds gs before hval0 hW hcnd hsz0 _
  have hsz : (DataW.weightsEach Try.prog (Try.f7.params.toList ++ Rows.classNestsSpec.plain.varTypes Try.prog) (ds ++ gs)).all (· ≤ reachBytes) = true := hsz0
  have hval : ∀ (j : Nat) t v, Try.f7.params[j]? = some t → args[j]? = some v → Value.okWide Try.prog W .any base t v := hval0
  have hW' := hW
  obtain ⟨p, q, hA0, hV, rfl, hfz, hnd⟩ := hW
  have hA : DataW.TrodAll enc Try.prog W 0 (fun _ => true) true Try.f7.params.toList args.toList ds p := hA0
  rw [Try.params7] at hA hval hsz
  obtain ⟨v0, vs0, d0, ds0, p0, q0, hargs, rfl, rfl, h0, r0⟩ := trodAll_cons hA
  obtain ⟨v1, vs1, d1, ds1, p1, q1, rfl, rfl, rfl, h1, r1⟩ := trodAll_cons r0
  obtain ⟨rfl, rfl, rfl⟩ := trodAll_nil r1
  obtain rfl : args = #[v0, v1] := by cases args; simp_all
  obtain ⟨rfl, rfl⟩ := trodVars_none hV
  obtain ⟨a0, rfl, rfl, rfl, w0⟩ := open_int Try.underlying5 (hval 0 5 v0 rfl rfl) h0
  obtain ⟨a1, rfl, rfl, rfl, w1⟩ := open_int Try.underlying3 (hval 1 3 v1 rfl rfl) h1
  clear hA0 hval0 hsz0 hsz
  refine (classNests_walk a0 a1 W (bounds_u8 w0) (bounds_i64 w1)).mono fun e W' ⟨he, bel⟩ => ?_
  subst he
  exact ⟨_, rfl, _, _, _, [], _, [], hW', trodAll_mk1 (shut_bool Try.underlying4 _), (trodAll_cons_mk (shut_int Try.underlying5 w0) (trodAll_cons_mk (shut_int Try.underlying3 w1) trodAll_mk0)), rfl, bel.frame _, fun h => by cases h⟩
theorem over : Rows.classNestsRow.holds Try.pinned (OpenSpec.ofChange Rows.classNestsSpec) :=
  OpenClaim.holds_of_wide 7 Try.f7 rfl rfl rfl rfl rfl rfl rfl ⟨rfl, rfl, rfl, rfl, rfl⟩ rfl rfl rfl rfl rfl (by kernel_rfl) Try.func7 (by kernel_rfl)
    (of_decide_eq_true (by kernel_rfl)) (by unfold Func.isWrapper; first | (rw [if_pos (by decide +kernel)]; kernel_rfl) | (rw [if_neg (by decide +kernel)]; exact ⟨rfl, rfl⟩))
    (fun os started H enc _ => lifted os started H enc)
theorem proved : Rows.ClassNestsSaid := over
end classNests
/-- The row, under a short name, for the claim. -/
theorem classNests_holds : Rows.ClassNestsSaid := classNests.proved
#print axioms classNests_holds
end Go.Proofs.Ytgaboaeeodiadaa
