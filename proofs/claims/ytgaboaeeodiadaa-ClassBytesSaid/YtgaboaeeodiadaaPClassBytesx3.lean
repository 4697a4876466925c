-- PRINTED BY print.sh 35421559b90ae4d0a3588c463048766b98c2df88dd9212a6774a882060cdf62d: not written by this session
import Derived.Test.YtgaboaeeodiadaaPClassBytesx0
import Derived.Test.YtgaboaeeodiadaaPClassBytesx1
import Derived.Test.YtgaboaeeodiadaaPClassBytesx2
namespace Go.Proofs.Ytgaboaeeodiadaa.PClassBytes
open Go.RowKit Go.Proofs.YtgaboaeeodiadaaW.PrintWords Go.Proofs.YtgaboaeeodiadaaW.PrintLast Go.Proofs.YtgaboaeeodiadaaW.PrintMore
attribute [local go_sem] max2_int min2_int max_two min_two max_three min_three max_four min_four   -- for this text's walks alone
set_option linter.unusedVariables false
set_option linter.unusedSimpArgs false

attribute [local go_sem high] eqA40
/-! ### class_Text: function 28 -/
def class_Text.j0 : Nat → ByteArray → Int → Int → Int → Bool → Option (Int × Int)
  | 0, _, _, _, _, _ => none
  | k + 1, x1, x2, x3, x9, x17 => if x17 = true then (some (1, 0)) else (if (x1.size : Int) < x2 then (some (13, (x1.size : Int))) else (if (x1.size : Int) > x3 then (some (12, x3)) else (if x9 ≥ 0 then (some (14, x9)) else (some (0, 0)))))
def class_Text.f (k : Nat) (a0 : Int) (a1 : ByteArray) (a2 : Int) (a3 : Int) : Option (Int × Int) := (class_Bad.f k a0 a1).bind fun bt112 => (if bt112.2 = 0 then (if a2 < 0 then (class_Text.j0 k a1 a2 a3 bt112.1 true) else (class_Text.j0 k a1 a2 a3 bt112.1 (decide (a3 < a2)))) else (class_Text.j0 k a1 a2 a3 bt112.1 true))
theorem class_Text.mono_l : ∀ k, (∀ y0 y1 y2 y3 y4, LeO (class_Text.j0 k y0 y1 y2 y3 y4) (class_Text.j0 (k + 1) y0 y1 y2 y3 y4))
  | 0 => fun _ _ _ _ _ r h => by simp [class_Text.j0] at h
  | k + 1 => by
    have ih0 := class_Text.mono_l k
    · intro y0 y1 y2 y3 y4
      unfold class_Text.j0
      repeat' first
      | (with_reducible exact ih0 _ _ _ _ _)
      | (with_reducible exact class_Bad.mono _ _ _)
      | (with_reducible exact LeO.refl _)
      | (with_reducible exact LeO.none _)
      | (with_reducible refine LeO.ite ?_ ?_)
      | (with_reducible refine LeO.bind ?_ (fun _ => ?_))
      | exact ih0 _ _ _ _ _
      | exact class_Bad.mono _ _ _
      | exact LeO.none _
      | refine LeO.ite ?_ ?_
      | refine LeO.bind ?_ (fun _ => ?_)
theorem class_Text.mono : ∀ a0 a1 a2 a3 k, LeO (class_Text.f k a0 a1 a2 a3) (class_Text.f (k + 1) a0 a1 a2 a3) := by
  intro a0 a1 a2 a3 k
  have ih0 := class_Text.mono_l k
  unfold class_Text.f
  repeat' first
      | (with_reducible exact ih0 _ _ _ _ _)
      | (with_reducible exact class_Bad.mono _ _ _)
      | (with_reducible exact LeO.refl _)
      | (with_reducible exact LeO.none _)
      | (with_reducible refine LeO.ite ?_ ?_)
      | (with_reducible refine LeO.bind ?_ (fun _ => ?_))
      | exact ih0 _ _ _ _ _
      | exact class_Bad.mono _ _ _
      | exact LeO.none _
      | refine LeO.ite ?_ ?_
      | refine LeO.bind ?_ (fun _ => ?_)
set_option maxHeartbeats 8000000 in
set_option maxRecDepth 100000 in
theorem class_Text.calls (k : Nat) (a0 : Int) (a1 : ByteArray) (a2 : Int) (a3 : Int) (r1 : Int) (r2 : Int) (w : World) (h : class_Text.f k a0 a1 a2 a3 = some (r1, r2)) :
    Calls Try.prog 28 #[.int .i64 a0, .string a1, .int .i64 a2, .int .i64 a3] w fun e w' => e = .returned (.agg #[.int .i64 r1, .int .i64 r2]) ∧ Below w.heap.size w w' := by
  have hu40 := Try.underlying40
  have HB := Aside0.mk (Below.refl w.heap.size w)
  have H : ((class_Bad.f k a0 a1).bind fun bt112 => (if bt112.2 = 0 then (if a2 < 0 then (class_Text.j0 k a1 a2 a3 bt112.1 true) else (class_Text.j0 k a1 a2 a3 bt112.1 (decide (a3 < a2)))) else (class_Text.j0 k a1 a2 a3 bt112.1 true))) = some (r1, r2) := h
  clear h
  replace H := Option.bind_eq_some_iff.mp H
  obtain ⟨⟨t112, t113⟩, A50, H⟩ := H
  replace H : (if t113 = 0 then (if a2 < 0 then (class_Text.j0 k a1 a2 a3 t112 true) else (class_Text.j0 k a1 a2 a3 t112 (decide (a3 < a2)))) else (class_Text.j0 k a1 a2 a3 t112 true)) = some (r1, r2) := H
  have A5 := Aside0.mk A50
  clear A50
  have HC6 := Aside0.mk H
  clear H
  go_enter Try.func28, Try.ntmps28
  go_upto_region 2 with (first | ((with_reducible refine gate_dst (N := 8) rfl ?_); refine box_event ?hg (N := 8) ?hd (cs := #[.int .i64 0, .int .i64 0]) (t := 40) ?hr ?_; (case hd => rfl); (case hg => rfl); (case hr => first | (go_simp; done) | (go_simp; rfl)); intro gb111 hg w7 hbox hb; have n0_ := Aside0.mk (below_step (by repeat (first | (with_reducible first | exact HB.out | apply below_alloc | apply pw_below_drewN | apply below_drew1) | exact HB.out)) hb); have n1_ := Aside0.mk (hbox); have n2_ := Aside0.mk ((by rw [hg]; exact (below_size (by repeat (first | (with_reducible first | exact HB.out | apply below_alloc | apply pw_below_drewN | apply below_drew1) | exact HB.out))) : w.heap.size ≤ gb111)); have n3_ := Aside0.mk ((by rw [hg]; exact (below_size (by repeat (first | (with_reducible first | exact HB.out | apply below_alloc | apply pw_below_drewN | apply below_drew1) | exact HB.out))) : w.heap.size ≤ gb111)); clear HB; have HB := n0_; have BK111 := n1_; have GW111 := n2_; have GE111 := n3_; clear n0_ n1_ n2_ n3_; clear hb hbox hg) | ((with_reducible refine gate_callee (f := 27) rfl ?_); refine goesL_ (some 14) rfl rfl Try.func27 (by kernel_rfl) rfl #[.int .i64 a0, .string a1] rfl (by (try simp only [List.map_toArray, List.map_cons, List.map_nil]); first | done | rfl | (simp only [List.length_drop, List.length_take]; rfl)) ?_; (with_reducible refine (class_Bad.calls k a0 a1 t112 t113 _ A5.out).mono ?_); rintro e w' ⟨rfl, ⟨nd, rfl⟩⟩; refine ⟨_, rfl, ?_⟩))
  (try simp only [Act.put, List.setIfInBounds_toArray, List.set_cons_zero, List.set_cons_succ])
  go_cut [17] (fun v17 wc => ∃ (kq : Nat) (x17_5 : Bool), v17 = .bool x17_5 ∧ Aside0 (class_Text.j0 kq a1 a2 a3 t112 x17_5 = some (r1, r2)) ∧ Aside0 (kq ≤ k) ∧ Aside0 (wc.heap[gb111]? = some (.cells #[.int .i64 0, .int .i64 0] 40 (0, 0))) ∧ Aside0 (Below w.heap.size w wc))
  case first =>
    have H := HC6.out
    clear HC6
    by_cases c8 : t113 = 0
    · rw [if_pos c8] at H
      have c8b0 : (t113 == 0) = true := beq_iff_eq.mpr c8
      have c8b1 : (t113 != 0) = false := bne_eq_false_iff_eq.mpr c8
      clear c8
      (first | rw [c8b0] | (simp only [i64_w, i32_w]; rw [c8b0]) | skip)
      by_cases c9 : a2 < 0
      · rw [if_pos c9] at H
        have c9b0 : decide (a2 < 0) = true := decide_eq_true c9
        clear c9
        have H' := Aside0.mk H
        clear H
        go_wp2
        go_meet
        case rel => exact ⟨_, (true), (by first | rfl | (simp; done) | (simp [*]; done)), H', ⟨by first | omega | exact Nat.le_refl _⟩, ⟨by (with_reducible repeat (first | refine blk_drewN ?_ _ | refine blk_drew ?_ | refine blk_alloc ?_ _)); exact BK111.out⟩, ⟨by repeat (first | (with_reducible first | exact HB.out | apply below_alloc | apply pw_below_drewN | apply below_drew1 | refine below_set ?_ GE111.out) | exact HB.out)⟩⟩
      · rw [if_neg c9] at H
        have c9b0 : decide (a2 < 0) = false := decide_eq_false c9
        clear c9
        have H' := Aside0.mk H
        clear H
        go_wp2
        go_meet
        case rel => exact ⟨_, (decide (a3 < a2)), (by first | rfl | (simp; done) | (simp [*]; done)), H', ⟨by first | omega | exact Nat.le_refl _⟩, ⟨by (with_reducible repeat (first | refine blk_drewN ?_ _ | refine blk_drew ?_ | refine blk_alloc ?_ _)); exact BK111.out⟩, ⟨by repeat (first | (with_reducible first | exact HB.out | apply below_alloc | apply pw_below_drewN | apply below_drew1 | refine below_set ?_ GE111.out) | exact HB.out)⟩⟩
    · rw [if_neg c8] at H
      have c8b0 : (t113 == 0) = false := beq_eq_false_iff_ne.mpr c8
      have c8b1 : (t113 != 0) = true := bne_iff_ne.mpr c8
      (first | rw [c8b0] | (simp only [i64_w, i32_w]; rw [c8b0]) | skip)
      have H' := Aside0.mk H
      clear H
      go_wp2
      go_meet
      case rel => exact ⟨_, (true), (by first | rfl | (simp; done) | (simp [*]; done)), H', ⟨by first | omega | exact Nat.le_refl _⟩, ⟨by (with_reducible repeat (first | refine blk_drewN ?_ _ | refine blk_drew ?_ | refine blk_alloc ?_ _)); exact BK111.out⟩, ⟨by repeat (first | (with_reducible first | exact HB.out | apply below_alloc | apply pw_below_drewN | apply below_drew1 | refine below_set ?_ GE111.out) | exact HB.out)⟩⟩
  case rest =>
    clear HC6
    try clear c2
    try clear p2
    try clear c8
    try clear c8b0
    try clear c8b1
    try clear c9
    try clear c9b0
    obtain ⟨kq, x17_5, rfl, HA, HJ5, BK111, HB⟩ := hcut
    cases kq with
    | zero => exact absurd HA.out (by simp [class_Text.j0])
    | succ kj5 =>
      have H := HA.out
      clear HA
      simp only [class_Text.j0] at H
      by_cases c10 : x17_5 = true
      · subst c10
        have H1 : (some (1, 0)) = some (r1, r2) := by rw [if_pos rfl] at H; exact H
        clear H
        have H := H1
        clear H1
        simp only [Option.some.injEq, Prod.mk.injEq] at H
        obtain ⟨rfl, rfl⟩ := H
        have hcz11_0 : wc.cell? ⟨gb111, 0, none⟩ = some (.int .i64 0) := (blk_cell BK111.out 0).trans rfl
        have hcz11_1 : wc.cell? ⟨gb111, 1, none⟩ = some (.int .i64 0) := (blk_cell BK111.out 1).trans rfl
        have hfz11_0 := blk_frozen BK111.out 0
        have hfz11_1 := blk_frozen BK111.out 1
        go_wp2
        refine bodyPost_ret (results_cell_row rfl _ _ gb111 40 #[.int .i64 1, .int .i64 0] (0, 0) _ rfl (by (with_reducible repeat (first | refine blk_drewN ?_ _ | refine blk_drew ?_ | refine blk_alloc ?_ _)); refine blk_put (cs := #[.int .i64 1, .int .i64 0]) ?_ 1 _ rfl; (with_reducible repeat (first | refine blk_drewN ?_ _ | refine blk_drew ?_ | refine blk_alloc ?_ _)); refine blk_put (cs := #[.int .i64 0, .int .i64 0]) ?_ 0 _ rfl; (with_reducible repeat (first | refine blk_drewN ?_ _ | refine blk_drew ?_ | refine blk_alloc ?_ _)); exact BK111.out) Try.underlying40 rfl (by kernel_rfl)) rfl ?_
        exact ⟨by first | rfl | (simp [errW_none, errW_some] <;> rfl) | (simp [*, errW_none, errW_some] <;> rfl), by repeat (first | (with_reducible first | exact HB.out | apply below_alloc | apply pw_below_drewN | apply below_drew1 | refine below_set ?_ GE111.out) | exact HB.out)⟩
      · replace c10 := Bool.eq_false_iff.mpr c10
        subst c10
        have H1 : (if (a1.size : Int) < a2 then (some (13, (a1.size : Int))) else (if (a1.size : Int) > a3 then (some (12, a3)) else (if t112 ≥ 0 then (some (14, t112)) else (some (0, 0))))) = some (r1, r2) := by rw [if_neg (show ¬ (false = true) by decide)] at H; exact H
        clear H
        have H := H1
        clear H1
        by_cases c12 : (a1.size : Int) < a2
        · rw [if_pos c12] at H
          have c12b0 : decide ((a1.size : Int) < a2) = true := decide_eq_true c12
          clear c12
          simp only [Option.some.injEq, Prod.mk.injEq] at H
          obtain ⟨rfl, rfl⟩ := H
          have hcz13_0 : wc.cell? ⟨gb111, 0, none⟩ = some (.int .i64 0) := (blk_cell BK111.out 0).trans rfl
          have hcz13_1 : wc.cell? ⟨gb111, 1, none⟩ = some (.int .i64 0) := (blk_cell BK111.out 1).trans rfl
          have hfz13_0 := blk_frozen BK111.out 0
          have hfz13_1 := blk_frozen BK111.out 1
          go_wp2
          refine bodyPost_ret (results_cell_row rfl _ _ gb111 40 #[.int .i64 13, .int .i64 (a1.size : Int)] (0, 0) _ rfl (by (with_reducible repeat (first | refine blk_drewN ?_ _ | refine blk_drew ?_ | refine blk_alloc ?_ _)); refine blk_put (cs := #[.int .i64 13, .int .i64 0]) ?_ 1 _ rfl; (with_reducible repeat (first | refine blk_drewN ?_ _ | refine blk_drew ?_ | refine blk_alloc ?_ _)); refine blk_put (cs := #[.int .i64 0, .int .i64 0]) ?_ 0 _ rfl; (with_reducible repeat (first | refine blk_drewN ?_ _ | refine blk_drew ?_ | refine blk_alloc ?_ _)); exact BK111.out) Try.underlying40 rfl (by kernel_rfl)) rfl ?_
          exact ⟨by first | rfl | (simp [errW_none, errW_some] <;> rfl) | (simp [*, errW_none, errW_some] <;> rfl), by repeat (first | (with_reducible first | exact HB.out | apply below_alloc | apply pw_below_drewN | apply below_drew1 | refine below_set ?_ GE111.out) | exact HB.out)⟩
        · rw [if_neg c12] at H
          have c12b0 : decide ((a1.size : Int) < a2) = false := decide_eq_false c12
          clear c12
          by_cases c14 : (a1.size : Int) > a3
          · rw [if_pos c14] at H
            have c14b0 : decide (a3 < (a1.size : Int)) = true := decide_eq_true c14
            clear c14
            simp only [Option.some.injEq, Prod.mk.injEq] at H
            obtain ⟨rfl, rfl⟩ := H
            have hcz15_0 : wc.cell? ⟨gb111, 0, none⟩ = some (.int .i64 0) := (blk_cell BK111.out 0).trans rfl
            have hcz15_1 : wc.cell? ⟨gb111, 1, none⟩ = some (.int .i64 0) := (blk_cell BK111.out 1).trans rfl
            have hfz15_0 := blk_frozen BK111.out 0
            have hfz15_1 := blk_frozen BK111.out 1
            go_wp2
            refine bodyPost_ret (results_cell_row rfl _ _ gb111 40 #[.int .i64 12, .int .i64 a3] (0, 0) _ rfl (by (with_reducible repeat (first | refine blk_drewN ?_ _ | refine blk_drew ?_ | refine blk_alloc ?_ _)); refine blk_put (cs := #[.int .i64 12, .int .i64 0]) ?_ 1 _ rfl; (with_reducible repeat (first | refine blk_drewN ?_ _ | refine blk_drew ?_ | refine blk_alloc ?_ _)); refine blk_put (cs := #[.int .i64 0, .int .i64 0]) ?_ 0 _ rfl; (with_reducible repeat (first | refine blk_drewN ?_ _ | refine blk_drew ?_ | refine blk_alloc ?_ _)); exact BK111.out) Try.underlying40 rfl (by kernel_rfl)) rfl ?_
            exact ⟨by first | rfl | (simp [errW_none, errW_some] <;> rfl) | (simp [*, errW_none, errW_some] <;> rfl), by repeat (first | (with_reducible first | exact HB.out | apply below_alloc | apply pw_below_drewN | apply below_drew1 | refine below_set ?_ GE111.out) | exact HB.out)⟩
          · rw [if_neg c14] at H
            have c14b0 : decide (a3 < (a1.size : Int)) = false := decide_eq_false c14
            clear c14
            by_cases c16 : t112 ≥ 0
            · rw [if_pos c16] at H
              have c16b0 : decide (0 ≤ t112) = true := decide_eq_true c16
              clear c16
              simp only [Option.some.injEq, Prod.mk.injEq] at H
              obtain ⟨rfl, rfl⟩ := H
              have hcz17_0 : wc.cell? ⟨gb111, 0, none⟩ = some (.int .i64 0) := (blk_cell BK111.out 0).trans rfl
              have hcz17_1 : wc.cell? ⟨gb111, 1, none⟩ = some (.int .i64 0) := (blk_cell BK111.out 1).trans rfl
              have hfz17_0 := blk_frozen BK111.out 0
              have hfz17_1 := blk_frozen BK111.out 1
              go_wp2
              refine bodyPost_ret (results_cell_row rfl _ _ gb111 40 #[.int .i64 14, .int .i64 t112] (0, 0) _ rfl (by (with_reducible repeat (first | refine blk_drewN ?_ _ | refine blk_drew ?_ | refine blk_alloc ?_ _)); refine blk_put (cs := #[.int .i64 14, .int .i64 0]) ?_ 1 _ rfl; (with_reducible repeat (first | refine blk_drewN ?_ _ | refine blk_drew ?_ | refine blk_alloc ?_ _)); refine blk_put (cs := #[.int .i64 0, .int .i64 0]) ?_ 0 _ rfl; (with_reducible repeat (first | refine blk_drewN ?_ _ | refine blk_drew ?_ | refine blk_alloc ?_ _)); exact BK111.out) Try.underlying40 rfl (by kernel_rfl)) rfl ?_
              exact ⟨by first | rfl | (simp [errW_none, errW_some] <;> rfl) | (simp [*, errW_none, errW_some] <;> rfl), by repeat (first | (with_reducible first | exact HB.out | apply below_alloc | apply pw_below_drewN | apply below_drew1 | refine below_set ?_ GE111.out) | exact HB.out)⟩
            · rw [if_neg c16] at H
              have c16b0 : decide (0 ≤ t112) = false := decide_eq_false c16
              clear c16
              simp only [Option.some.injEq, Prod.mk.injEq] at H
              obtain ⟨rfl, rfl⟩ := H
              have hcz18_0 : wc.cell? ⟨gb111, 0, none⟩ = some (.int .i64 0) := (blk_cell BK111.out 0).trans rfl
              have hcz18_1 : wc.cell? ⟨gb111, 1, none⟩ = some (.int .i64 0) := (blk_cell BK111.out 1).trans rfl
              have hfz18_0 := blk_frozen BK111.out 0
              have hfz18_1 := blk_frozen BK111.out 1
              go_wp2
              refine bodyPost_ret (results_cell_row rfl _ _ gb111 40 #[.int .i64 0, .int .i64 0] (0, 0) _ rfl (by (with_reducible repeat (first | refine blk_drewN ?_ _ | refine blk_drew ?_ | refine blk_alloc ?_ _)); refine blk_put (cs := #[.int .i64 0, .int .i64 0]) ?_ 1 _ rfl; (with_reducible repeat (first | refine blk_drewN ?_ _ | refine blk_drew ?_ | refine blk_alloc ?_ _)); refine blk_put (cs := #[.int .i64 0, .int .i64 0]) ?_ 0 _ rfl; (with_reducible repeat (first | refine blk_drewN ?_ _ | refine blk_drew ?_ | refine blk_alloc ?_ _)); exact BK111.out) Try.underlying40 rfl (by kernel_rfl)) rfl ?_
              exact ⟨by first | rfl | (simp [errW_none, errW_some] <;> rfl) | (simp [*, errW_none, errW_some] <;> rfl), by repeat (first | (with_reducible first | exact HB.out | apply below_alloc | apply pw_below_drewN | apply below_drew1 | refine below_set ?_ GE111.out) | exact HB.out)⟩

/-! ### forebaylaw04_awake: function 25 -/
def forebaylaw04_awake.j0 : Nat → Bool → Option (Bool)
  | 0, _ => none
  | k + 1, x54 => if x54 = true then (some false) else ((class_Text.f k 4 (⟨#[49, 50, 97]⟩ : ByteArray) 1 3).bind fun bt122 => (if (bt122.1 == 14 && (bt122.2 == 2)) = true then ((class_Text.f k 4 (⟨#[49, 50, 51, 52]⟩ : ByteArray) 1 3).bind fun bt124 => (if (bt124.1 == 12 && (bt124.2 == 3)) = true then ((class_Text.f k 4 (⟨#[]⟩ : ByteArray) 1 3).bind fun bt126 => (some (bt126.1 == 13 && (bt126.2 == 0)))) else (some false))) else (some false)))
def forebaylaw04_awake.f (k : Nat)  : Option (Bool) := (class_Bad.f k 1 (⟨#[97, 47, 98]⟩ : ByteArray)).bind fun bt114 => ((class_Bad.f k 2 (⟨#[97, 47, 98]⟩ : ByteArray)).bind fun bt116 => ((class_Count.f k 1).bind fun bt118 => ((class_Count.f k 3).bind fun bt120 => (if bt114.1 = 1 then (if bt114.2 = 0 then (if bt116.1 = (-1) then (if bt116.2 = 0 then (if bt118.1 = 65 then (if bt118.2 = 0 then (if bt120.1 = 92 then (forebaylaw04_awake.j0 k (bt120.2 != 0)) else (forebaylaw04_awake.j0 k true)) else (forebaylaw04_awake.j0 k true)) else (forebaylaw04_awake.j0 k true)) else (forebaylaw04_awake.j0 k true)) else (forebaylaw04_awake.j0 k true)) else (forebaylaw04_awake.j0 k true)) else (forebaylaw04_awake.j0 k true)))))
theorem forebaylaw04_awake.mono_l : ∀ k, (∀ y0, LeO (forebaylaw04_awake.j0 k y0) (forebaylaw04_awake.j0 (k + 1) y0))
  | 0 => fun _ r h => by simp [forebaylaw04_awake.j0] at h
  | k + 1 => by
    have ih0 := forebaylaw04_awake.mono_l k
    · intro y0
      unfold forebaylaw04_awake.j0
      repeat' first
      | (with_reducible exact ih0 _)
      | (with_reducible exact class_Bad.mono _ _ _)
      | (with_reducible exact class_Count.mono _ _)
      | (with_reducible exact class_Text.mono _ _ _ _ _)
      | (with_reducible exact LeO.refl _)
      | (with_reducible exact LeO.none _)
      | (with_reducible refine LeO.ite ?_ ?_)
      | (with_reducible refine LeO.bind ?_ (fun _ => ?_))
      | exact ih0 _
      | exact class_Bad.mono _ _ _
      | exact class_Count.mono _ _
      | exact class_Text.mono _ _ _ _ _
      | exact LeO.none _
      | refine LeO.ite ?_ ?_
      | refine LeO.bind ?_ (fun _ => ?_)
theorem forebaylaw04_awake.mono : ∀ k, LeO (forebaylaw04_awake.f k ) (forebaylaw04_awake.f (k + 1) ) := by
  intro  k
  have ih0 := forebaylaw04_awake.mono_l k
  unfold forebaylaw04_awake.f
  repeat' first
      | (with_reducible exact ih0 _)
      | (with_reducible exact class_Bad.mono _ _ _)
      | (with_reducible exact class_Count.mono _ _)
      | (with_reducible exact class_Text.mono _ _ _ _ _)
      | (with_reducible exact LeO.refl _)
      | (with_reducible exact LeO.none _)
      | (with_reducible refine LeO.ite ?_ ?_)
      | (with_reducible refine LeO.bind ?_ (fun _ => ?_))
      | exact ih0 _
      | exact class_Bad.mono _ _ _
      | exact class_Count.mono _ _
      | exact class_Text.mono _ _ _ _ _
      | exact LeO.none _
      | refine LeO.ite ?_ ?_
      | refine LeO.bind ?_ (fun _ => ?_)
set_option maxHeartbeats 8000000 in
set_option maxRecDepth 100000 in
theorem forebaylaw04_awake.calls (k : Nat)  (r : Bool) (w : World) (h : forebaylaw04_awake.f k  = some r) :
    Calls Try.prog 25 #[] w fun e w' => e = .returned (.bool r) ∧ Below w.heap.size w w' := by
  have hu40 := Try.underlying40
  have HB := Aside0.mk (Below.refl w.heap.size w)
  have H : ((class_Bad.f k 1 (⟨#[97, 47, 98]⟩ : ByteArray)).bind fun bt114 => ((class_Bad.f k 2 (⟨#[97, 47, 98]⟩ : ByteArray)).bind fun bt116 => ((class_Count.f k 1).bind fun bt118 => ((class_Count.f k 3).bind fun bt120 => (if bt114.1 = 1 then (if bt114.2 = 0 then (if bt116.1 = (-1) then (if bt116.2 = 0 then (if bt118.1 = 65 then (if bt118.2 = 0 then (if bt120.1 = 92 then (forebaylaw04_awake.j0 k (bt120.2 != 0)) else (forebaylaw04_awake.j0 k true)) else (forebaylaw04_awake.j0 k true)) else (forebaylaw04_awake.j0 k true)) else (forebaylaw04_awake.j0 k true)) else (forebaylaw04_awake.j0 k true)) else (forebaylaw04_awake.j0 k true)) else (forebaylaw04_awake.j0 k true)))))) = some r := h
  clear h
  replace H := Option.bind_eq_some_iff.mp H
  obtain ⟨⟨t114, t115⟩, A10, H⟩ := H
  replace H : ((class_Bad.f k 2 (⟨#[97, 47, 98]⟩ : ByteArray)).bind fun bt116 => ((class_Count.f k 1).bind fun bt118 => ((class_Count.f k 3).bind fun bt120 => (if t114 = 1 then (if t115 = 0 then (if bt116.1 = (-1) then (if bt116.2 = 0 then (if bt118.1 = 65 then (if bt118.2 = 0 then (if bt120.1 = 92 then (forebaylaw04_awake.j0 k (bt120.2 != 0)) else (forebaylaw04_awake.j0 k true)) else (forebaylaw04_awake.j0 k true)) else (forebaylaw04_awake.j0 k true)) else (forebaylaw04_awake.j0 k true)) else (forebaylaw04_awake.j0 k true)) else (forebaylaw04_awake.j0 k true)) else (forebaylaw04_awake.j0 k true))))) = some r := H
  have A1 := Aside0.mk A10
  clear A10
  replace H := Option.bind_eq_some_iff.mp H
  obtain ⟨⟨t116, t117⟩, A20, H⟩ := H
  replace H : ((class_Count.f k 1).bind fun bt118 => ((class_Count.f k 3).bind fun bt120 => (if t114 = 1 then (if t115 = 0 then (if t116 = (-1) then (if t117 = 0 then (if bt118.1 = 65 then (if bt118.2 = 0 then (if bt120.1 = 92 then (forebaylaw04_awake.j0 k (bt120.2 != 0)) else (forebaylaw04_awake.j0 k true)) else (forebaylaw04_awake.j0 k true)) else (forebaylaw04_awake.j0 k true)) else (forebaylaw04_awake.j0 k true)) else (forebaylaw04_awake.j0 k true)) else (forebaylaw04_awake.j0 k true)) else (forebaylaw04_awake.j0 k true)))) = some r := H
  have A2 := Aside0.mk A20
  clear A20
  replace H := Option.bind_eq_some_iff.mp H
  obtain ⟨⟨t118, t119⟩, A30, H⟩ := H
  replace H : ((class_Count.f k 3).bind fun bt120 => (if t114 = 1 then (if t115 = 0 then (if t116 = (-1) then (if t117 = 0 then (if t118 = 65 then (if t119 = 0 then (if bt120.1 = 92 then (forebaylaw04_awake.j0 k (bt120.2 != 0)) else (forebaylaw04_awake.j0 k true)) else (forebaylaw04_awake.j0 k true)) else (forebaylaw04_awake.j0 k true)) else (forebaylaw04_awake.j0 k true)) else (forebaylaw04_awake.j0 k true)) else (forebaylaw04_awake.j0 k true)) else (forebaylaw04_awake.j0 k true))) = some r := H
  have A3 := Aside0.mk A30
  clear A30
  replace H := Option.bind_eq_some_iff.mp H
  obtain ⟨⟨t120, t121⟩, A40, H⟩ := H
  replace H : (if t114 = 1 then (if t115 = 0 then (if t116 = (-1) then (if t117 = 0 then (if t118 = 65 then (if t119 = 0 then (if t120 = 92 then (forebaylaw04_awake.j0 k (t121 != 0)) else (forebaylaw04_awake.j0 k true)) else (forebaylaw04_awake.j0 k true)) else (forebaylaw04_awake.j0 k true)) else (forebaylaw04_awake.j0 k true)) else (forebaylaw04_awake.j0 k true)) else (forebaylaw04_awake.j0 k true)) else (forebaylaw04_awake.j0 k true)) = some r := H
  have A4 := Aside0.mk A40
  clear A40
  have HC5 := Aside0.mk H
  clear H
  go_enter Try.func25, Try.ntmps25
  go_upto_region 5 with (first | ((with_reducible refine gate_callee (f := 27) rfl ?_); refine goesL_ (some 10) rfl rfl Try.func27 (by kernel_rfl) rfl #[.int .i64 1, .string (⟨#[97, 47, 98]⟩ : ByteArray)] rfl (by (try simp only [List.map_toArray, List.map_cons, List.map_nil]); first | done | rfl | (simp only [List.length_drop, List.length_take]; rfl)) ?_; (with_reducible refine (class_Bad.calls k 1 (⟨#[97, 47, 98]⟩ : ByteArray) t114 t115 _ A1.out).mono ?_); rintro e w' ⟨rfl, ⟨nd, rfl⟩⟩; refine ⟨_, rfl, ?_⟩) | ((with_reducible refine gate_callee (f := 27) rfl ?_); refine goesL_ (some 14) rfl rfl Try.func27 (by kernel_rfl) rfl #[.int .i64 2, .string (⟨#[97, 47, 98]⟩ : ByteArray)] rfl (by (try simp only [List.map_toArray, List.map_cons, List.map_nil]); first | done | rfl | (simp only [List.length_drop, List.length_take]; rfl)) ?_; (with_reducible refine (class_Bad.calls k 2 (⟨#[97, 47, 98]⟩ : ByteArray) t116 t117 _ A2.out).mono ?_); rintro e w' ⟨rfl, ⟨nd, rfl⟩⟩; refine ⟨_, rfl, ?_⟩) | ((with_reducible refine gate_callee (f := 21) rfl ?_); refine goesL_ (some 18) rfl rfl Try.func21 (by kernel_rfl) rfl #[.int .i64 1] rfl (by (try simp only [List.map_toArray, List.map_cons, List.map_nil]); first | done | rfl | (simp only [List.length_drop, List.length_take]; rfl)) ?_; (with_reducible refine (class_Count.calls k 1 t118 t119 _ A3.out).mono ?_); rintro e w' ⟨rfl, ⟨nd, rfl⟩⟩; refine ⟨_, rfl, ?_⟩) | ((with_reducible refine gate_callee (f := 21) rfl ?_); refine goesL_ (some 22) rfl rfl Try.func21 (by kernel_rfl) rfl #[.int .i64 3] rfl (by (try simp only [List.map_toArray, List.map_cons, List.map_nil]); first | done | rfl | (simp only [List.length_drop, List.length_take]; rfl)) ?_; (with_reducible refine (class_Count.calls k 3 t120 t121 _ A4.out).mono ?_); rintro e w' ⟨rfl, ⟨nd, rfl⟩⟩; refine ⟨_, rfl, ?_⟩))
  (try simp only [Act.put, List.setIfInBounds_toArray, List.set_cons_zero, List.set_cons_succ])
  go_cut [54] (fun v54 wc => ∃ (kq : Nat) (x54_4 : Bool), v54 = .bool x54_4 ∧ Aside0 (forebaylaw04_awake.j0 kq x54_4 = some r) ∧ Aside0 (kq ≤ k) ∧ Aside0 (Below w.heap.size w wc))
  case first =>
    have H := HC5.out
    clear HC5
    by_cases c6 : t114 = 1
    · rw [if_pos c6] at H
      have c6b0 : (t114 == 1) = true := beq_iff_eq.mpr c6
      have c6b1 : (t114 != 1) = false := bne_eq_false_iff_eq.mpr c6
      clear c6
      (first | rw [c6b0] | (simp only [i64_w, i32_w]; rw [c6b0]) | skip)
      by_cases c7 : t115 = 0
      · rw [if_pos c7] at H
        have c7b0 : (t115 == 0) = true := beq_iff_eq.mpr c7
        have c7b1 : (t115 != 0) = false := bne_eq_false_iff_eq.mpr c7
        clear c7
        by_cases c8 : t116 = (-1)
        · rw [if_pos c8] at H
          have c8b0 : (t116 == (-1)) = true := beq_iff_eq.mpr c8
          have c8b1 : (t116 != (-1)) = false := bne_eq_false_iff_eq.mpr c8
          clear c8
          by_cases c9 : t117 = 0
          · rw [if_pos c9] at H
            have c9b0 : (t117 == 0) = true := beq_iff_eq.mpr c9
            have c9b1 : (t117 != 0) = false := bne_eq_false_iff_eq.mpr c9
            clear c9
            by_cases c10 : t118 = 65
            · rw [if_pos c10] at H
              have c10b0 : (t118 == 65) = true := beq_iff_eq.mpr c10
              have c10b1 : (t118 != 65) = false := bne_eq_false_iff_eq.mpr c10
              clear c10
              by_cases c11 : t119 = 0
              · rw [if_pos c11] at H
                have c11b0 : (t119 == 0) = true := beq_iff_eq.mpr c11
                have c11b1 : (t119 != 0) = false := bne_eq_false_iff_eq.mpr c11
                clear c11
                by_cases c12 : t120 = 92
                · rw [if_pos c12] at H
                  have c12b0 : (t120 == 92) = true := beq_iff_eq.mpr c12
                  have c12b1 : (t120 != 92) = false := bne_eq_false_iff_eq.mpr c12
                  clear c12
                  have H' := Aside0.mk H
                  clear H
                  go_wp2
                  go_meet
                  case rel => exact ⟨_, ((t121 != 0)), (by first | rfl | (simp; done) | (simp [*]; done)), H', ⟨by first | omega | exact Nat.le_refl _⟩, ⟨by repeat (first | (with_reducible first | exact HB.out | apply below_alloc | apply pw_below_drewN | apply below_drew1) | exact HB.out)⟩⟩
                · rw [if_neg c12] at H
                  have c12b0 : (t120 == 92) = false := beq_eq_false_iff_ne.mpr c12
                  have c12b1 : (t120 != 92) = true := bne_iff_ne.mpr c12
                  have H' := Aside0.mk H
                  clear H
                  go_wp2
                  go_meet
                  case rel => exact ⟨_, (true), (by first | rfl | (simp; done) | (simp [*]; done)), H', ⟨by first | omega | exact Nat.le_refl _⟩, ⟨by repeat (first | (with_reducible first | exact HB.out | apply below_alloc | apply pw_below_drewN | apply below_drew1) | exact HB.out)⟩⟩
              · rw [if_neg c11] at H
                have c11b0 : (t119 == 0) = false := beq_eq_false_iff_ne.mpr c11
                have c11b1 : (t119 != 0) = true := bne_iff_ne.mpr c11
                have H' := Aside0.mk H
                clear H
                go_wp2
                go_meet
                case rel => exact ⟨_, (true), (by first | rfl | (simp; done) | (simp [*]; done)), H', ⟨by first | omega | exact Nat.le_refl _⟩, ⟨by repeat (first | (with_reducible first | exact HB.out | apply below_alloc | apply pw_below_drewN | apply below_drew1) | exact HB.out)⟩⟩
            · rw [if_neg c10] at H
              have c10b0 : (t118 == 65) = false := beq_eq_false_iff_ne.mpr c10
              have c10b1 : (t118 != 65) = true := bne_iff_ne.mpr c10
              have H' := Aside0.mk H
              clear H
              go_wp2
              go_meet
              case rel => exact ⟨_, (true), (by first | rfl | (simp; done) | (simp [*]; done)), H', ⟨by first | omega | exact Nat.le_refl _⟩, ⟨by repeat (first | (with_reducible first | exact HB.out | apply below_alloc | apply pw_below_drewN | apply below_drew1) | exact HB.out)⟩⟩
          · rw [if_neg c9] at H
            have c9b0 : (t117 == 0) = false := beq_eq_false_iff_ne.mpr c9
            have c9b1 : (t117 != 0) = true := bne_iff_ne.mpr c9
            have H' := Aside0.mk H
            clear H
            go_wp2
            go_meet
            case rel => exact ⟨_, (true), (by first | rfl | (simp; done) | (simp [*]; done)), H', ⟨by first | omega | exact Nat.le_refl _⟩, ⟨by repeat (first | (with_reducible first | exact HB.out | apply below_alloc | apply pw_below_drewN | apply below_drew1) | exact HB.out)⟩⟩
        · rw [if_neg c8] at H
          have c8b0 : (t116 == (-1)) = false := beq_eq_false_iff_ne.mpr c8
          have c8b1 : (t116 != (-1)) = true := bne_iff_ne.mpr c8
          have H' := Aside0.mk H
          clear H
          go_wp2
          go_meet
          case rel => exact ⟨_, (true), (by first | rfl | (simp; done) | (simp [*]; done)), H', ⟨by first | omega | exact Nat.le_refl _⟩, ⟨by repeat (first | (with_reducible first | exact HB.out | apply below_alloc | apply pw_below_drewN | apply below_drew1) | exact HB.out)⟩⟩
      · rw [if_neg c7] at H
        have c7b0 : (t115 == 0) = false := beq_eq_false_iff_ne.mpr c7
        have c7b1 : (t115 != 0) = true := bne_iff_ne.mpr c7
        have H' := Aside0.mk H
        clear H
        go_wp2
        go_meet
        case rel => exact ⟨_, (true), (by first | rfl | (simp; done) | (simp [*]; done)), H', ⟨by first | omega | exact Nat.le_refl _⟩, ⟨by repeat (first | (with_reducible first | exact HB.out | apply below_alloc | apply pw_below_drewN | apply below_drew1) | exact HB.out)⟩⟩
    · rw [if_neg c6] at H
      have c6b0 : (t114 == 1) = false := beq_eq_false_iff_ne.mpr c6
      have c6b1 : (t114 != 1) = true := bne_iff_ne.mpr c6
      (first | rw [c6b0] | (simp only [i64_w, i32_w]; rw [c6b0]) | skip)
      have H' := Aside0.mk H
      clear H
      go_wp2
      go_meet
      case rel => exact ⟨_, (true), (by first | rfl | (simp; done) | (simp [*]; done)), H', ⟨by first | omega | exact Nat.le_refl _⟩, ⟨by repeat (first | (with_reducible first | exact HB.out | apply below_alloc | apply pw_below_drewN | apply below_drew1) | exact HB.out)⟩⟩
  case rest =>
    clear HC5
    try clear c1
    try clear c2
    try clear p2
    try clear c6
    try clear c6b0
    try clear c6b1
    try clear c7
    try clear c7b0
    try clear c7b1
    try clear c8
    try clear c8b0
    try clear c8b1
    try clear c9
    try clear c9b0
    try clear c9b1
    try clear c10
    try clear c10b0
    try clear c10b1
    try clear c11
    try clear c11b0
    try clear c11b1
    try clear c12
    try clear c12b0
    try clear c12b1
    obtain ⟨kq, x54_4, rfl, HA, HJ4, HB⟩ := hcut
    cases kq with
    | zero => exact absurd HA.out (by simp [forebaylaw04_awake.j0])
    | succ kj4 =>
      have H := HA.out
      clear HA
      simp only [forebaylaw04_awake.j0] at H
      by_cases c13 : x54_4 = true
      · subst c13
        have H1 : (some false) = some r := by rw [if_pos rfl] at H; exact H
        clear H
        have H := H1
        clear H1
        obtain rfl := Option.some.inj H
        go_wp2
        go_ret
        exact ⟨by first | rfl | (simp [errW_none, errW_some] <;> rfl) | (simp [*, errW_none, errW_some] <;> rfl), by repeat (first | (with_reducible first | exact HB.out | apply below_alloc | apply pw_below_drewN | apply below_drew1) | exact HB.out)⟩
      · replace c13 := Bool.eq_false_iff.mpr c13
        subst c13
        have H1 : ((class_Text.f kj4 4 (⟨#[49, 50, 97]⟩ : ByteArray) 1 3).bind fun bt122 => (if (bt122.1 == 14 && (bt122.2 == 2)) = true then ((class_Text.f kj4 4 (⟨#[49, 50, 51, 52]⟩ : ByteArray) 1 3).bind fun bt124 => (if (bt124.1 == 12 && (bt124.2 == 3)) = true then ((class_Text.f kj4 4 (⟨#[]⟩ : ByteArray) 1 3).bind fun bt126 => (some (bt126.1 == 13 && (bt126.2 == 0)))) else (some false))) else (some false))) = some r := by rw [if_neg (show ¬ (false = true) by decide)] at H; exact H
        clear H
        have H := H1
        clear H1
        replace H := Option.bind_eq_some_iff.mp H
        obtain ⟨⟨t122, t123⟩, A140, H⟩ := H
        replace H : (if (t122 == 14 && (t123 == 2)) = true then ((class_Text.f kj4 4 (⟨#[49, 50, 51, 52]⟩ : ByteArray) 1 3).bind fun bt124 => (if (bt124.1 == 12 && (bt124.2 == 3)) = true then ((class_Text.f kj4 4 (⟨#[]⟩ : ByteArray) 1 3).bind fun bt126 => (some (bt126.1 == 13 && (bt126.2 == 0)))) else (some false))) else (some false)) = some r := H
        have A14 := Aside0.mk A140
        clear A140
        by_cases c15 : (t122 == 14 && (t123 == 2)) = true
        · rw [if_pos c15] at H
          have c15b0 : (t122 == 14 && (t123 == 2)) = true := c15
          (try (have c15b1 : decide (t122 = 14 && (t123 == 2)) = true := by simpa using c15))
          (try (have c15b2 : (t122 == 14 && (t123 == 2)) = true := by simpa using c15))
          clear c15
          replace H := Option.bind_eq_some_iff.mp H
          obtain ⟨⟨t124, t125⟩, A160, H⟩ := H
          replace H : (if (t124 == 12 && (t125 == 3)) = true then ((class_Text.f kj4 4 (⟨#[]⟩ : ByteArray) 1 3).bind fun bt126 => (some (bt126.1 == 13 && (bt126.2 == 0)))) else (some false)) = some r := H
          have A16 := Aside0.mk A160
          clear A160
          by_cases c17 : (t124 == 12 && (t125 == 3)) = true
          · rw [if_pos c17] at H
            have c17b0 : (t124 == 12 && (t125 == 3)) = true := c17
            (try (have c17b1 : decide (t124 = 12 && (t125 == 3)) = true := by simpa using c17))
            (try (have c17b2 : (t124 == 12 && (t125 == 3)) = true := by simpa using c17))
            clear c17
            replace H := Option.bind_eq_some_iff.mp H
            obtain ⟨⟨t126, t127⟩, A180, H⟩ := H
            replace H : (some (t126 == 13 && (t127 == 0))) = some r := H
            have A18 := Aside0.mk A180
            clear A180
            obtain rfl := Option.some.inj H
            go_wp2_with (first | ((with_reducible refine gate_callee (f := 28) rfl ?_); refine goesL_ (some 55) rfl rfl Try.func28 (by kernel_rfl) rfl #[.int .i64 4, .string (⟨#[49, 50, 97]⟩ : ByteArray), .int .i64 1, .int .i64 3] rfl (by (try simp only [List.map_toArray, List.map_cons, List.map_nil]); first | done | rfl | (simp only [List.length_drop, List.length_take]; rfl)) ?_; (with_reducible refine (class_Text.calls kj4 4 (⟨#[49, 50, 97]⟩ : ByteArray) 1 3 t122 t123 _ A14.out).mono ?_); rintro e w19 ⟨rfl, hb⟩; refine ⟨_, rfl, ?_⟩; have n0_ := Aside0.mk (below_step (by repeat (first | (with_reducible first | exact HB.out | apply below_alloc | apply pw_below_drewN | apply below_drew1) | exact HB.out)) hb); clear HB; have HB := n0_; clear n0_; (try clear hb); (try clear hb2); (try clear hk); (try clear hi)) | (go_at_call 28; (with_reducible refine (class_Text.calls kj4 4 (⟨#[49, 50, 51, 52]⟩ : ByteArray) 1 3 t124 t125 _ A16.out).mono ?_); rintro e w20 ⟨rfl, hb⟩; have n0_ := Aside0.mk (below_step (by repeat (first | (with_reducible first | exact HB.out | apply below_alloc | apply pw_below_drewN | apply below_drew1) | exact HB.out)) hb); clear HB; have HB := n0_; clear n0_; (try clear hb); (try clear hb2); (try clear hk); (try clear hi)) | (go_at_call 28; (with_reducible refine (class_Text.calls kj4 4 (⟨#[]⟩ : ByteArray) 1 3 t126 t127 _ A18.out).mono ?_); rintro e w21 ⟨rfl, hb⟩; have n0_ := Aside0.mk (below_step (by repeat (first | (with_reducible first | exact HB.out | apply below_alloc | apply pw_below_drewN | apply below_drew1) | exact HB.out)) hb); clear HB; have HB := n0_; clear n0_; (try clear hb); (try clear hb2); (try clear hk); (try clear hi)))
            go_ret
            exact ⟨by first | rfl | (simp [errW_none, errW_some] <;> rfl) | (simp [*, errW_none, errW_some] <;> rfl), by repeat (first | (with_reducible first | exact HB.out | apply below_alloc | apply pw_below_drewN | apply below_drew1) | exact HB.out)⟩
          · rw [if_neg c17] at H
            have c17b0 : (t124 == 12 && (t125 == 3)) = false := by simpa using c17
            (try (have c17b1 : decide (t124 = 12 && (t125 == 3)) = false := by simpa using c17))
            (try (have c17b2 : (t124 == 12 && (t125 == 3)) = false := by simpa using c17))
            (try (have c17b3 : ¬ (t124 = 12 && (t125 == 3)) := by simpa using c17))
            clear c17
            obtain rfl := Option.some.inj H
            go_wp2_with (first | ((with_reducible refine gate_callee (f := 28) rfl ?_); refine goesL_ (some 55) rfl rfl Try.func28 (by kernel_rfl) rfl #[.int .i64 4, .string (⟨#[49, 50, 97]⟩ : ByteArray), .int .i64 1, .int .i64 3] rfl (by (try simp only [List.map_toArray, List.map_cons, List.map_nil]); first | done | rfl | (simp only [List.length_drop, List.length_take]; rfl)) ?_; (with_reducible refine (class_Text.calls kj4 4 (⟨#[49, 50, 97]⟩ : ByteArray) 1 3 t122 t123 _ A14.out).mono ?_); rintro e w22 ⟨rfl, hb⟩; refine ⟨_, rfl, ?_⟩; have n0_ := Aside0.mk (below_step (by repeat (first | (with_reducible first | exact HB.out | apply below_alloc | apply pw_below_drewN | apply below_drew1) | exact HB.out)) hb); clear HB; have HB := n0_; clear n0_; (try clear hb); (try clear hb2); (try clear hk); (try clear hi)) | (go_at_call 28; (with_reducible refine (class_Text.calls kj4 4 (⟨#[49, 50, 51, 52]⟩ : ByteArray) 1 3 t124 t125 _ A16.out).mono ?_); rintro e w23 ⟨rfl, hb⟩; have n0_ := Aside0.mk (below_step (by repeat (first | (with_reducible first | exact HB.out | apply below_alloc | apply pw_below_drewN | apply below_drew1) | exact HB.out)) hb); clear HB; have HB := n0_; clear n0_; (try clear hb); (try clear hb2); (try clear hk); (try clear hi)))
            go_ret
            exact ⟨by first | rfl | (simp [errW_none, errW_some] <;> rfl) | (simp [*, errW_none, errW_some] <;> rfl), by repeat (first | (with_reducible first | exact HB.out | apply below_alloc | apply pw_below_drewN | apply below_drew1) | exact HB.out)⟩
        · rw [if_neg c15] at H
          have c15b0 : (t122 == 14 && (t123 == 2)) = false := by simpa using c15
          (try (have c15b1 : decide (t122 = 14 && (t123 == 2)) = false := by simpa using c15))
          (try (have c15b2 : (t122 == 14 && (t123 == 2)) = false := by simpa using c15))
          (try (have c15b3 : ¬ (t122 = 14 && (t123 == 2)) := by simpa using c15))
          clear c15
          obtain rfl := Option.some.inj H
          go_wp2_with (first | ((with_reducible refine gate_callee (f := 28) rfl ?_); refine goesL_ (some 55) rfl rfl Try.func28 (by kernel_rfl) rfl #[.int .i64 4, .string (⟨#[49, 50, 97]⟩ : ByteArray), .int .i64 1, .int .i64 3] rfl (by (try simp only [List.map_toArray, List.map_cons, List.map_nil]); first | done | rfl | (simp only [List.length_drop, List.length_take]; rfl)) ?_; (with_reducible refine (class_Text.calls kj4 4 (⟨#[49, 50, 97]⟩ : ByteArray) 1 3 t122 t123 _ A14.out).mono ?_); rintro e w24 ⟨rfl, hb⟩; refine ⟨_, rfl, ?_⟩; have n0_ := Aside0.mk (below_step (by repeat (first | (with_reducible first | exact HB.out | apply below_alloc | apply pw_below_drewN | apply below_drew1) | exact HB.out)) hb); clear HB; have HB := n0_; clear n0_; (try clear hb); (try clear hb2); (try clear hk); (try clear hi)))
          go_ret
          exact ⟨by first | rfl | (simp [errW_none, errW_some] <;> rfl) | (simp [*, errW_none, errW_some] <;> rfl), by repeat (first | (with_reducible first | exact HB.out | apply below_alloc | apply pw_below_drewN | apply below_drew1) | exact HB.out)⟩

/-! ### forebaylaw04_ClassBytes: function 5 -/
def forebaylaw04_ClassBytes.f (k : Nat) (a0 : Int) (a1 : Int) : Option (Bool) := (class_Count.f k a0).bind fun bt128 => ((forebaylaw04_number.f a0).bind fun t130 => ((class_Is.f k a0 a1).bind fun t131 => ((forebayref04_Is.f k t130 a1).bind fun t132 => (if (t131 != t132) = true then (some false) else (if t130 = 0 then (if bt128.1 = 0 then (if bt128.2 = 1 then ((forebaylaw04_awake.f k).bind fun t133 => (some t133)) else (some false)) else (some false)) else ((forebayref04_Bytes.f t130).bind fun t134 => (if bt128.1 = (t134.size : Int) then (if bt128.2 = 0 then ((forebaylaw04_awake.f k).bind fun t135 => (some t135)) else (some false)) else (some false))))))))
theorem forebaylaw04_ClassBytes.mono : ∀ a0 a1 k, LeO (forebaylaw04_ClassBytes.f k a0 a1) (forebaylaw04_ClassBytes.f (k + 1) a0 a1) := by
  intro a0 a1 k
  unfold forebaylaw04_ClassBytes.f
  repeat' first
      | (with_reducible exact class_Count.mono _ _)
      | (with_reducible exact class_Is.mono _ _ _)
      | (with_reducible exact forebaylaw04_awake.mono _)
      | (with_reducible exact forebayref04_Is.mono _ _ _)
      | (with_reducible exact LeO.refl _)
      | (with_reducible exact LeO.none _)
      | (with_reducible refine LeO.ite ?_ ?_)
      | (with_reducible refine LeO.bind ?_ (fun _ => ?_))
      | exact class_Count.mono _ _
      | exact class_Is.mono _ _ _
      | exact forebaylaw04_awake.mono _
      | exact forebayref04_Is.mono _ _ _
      | exact LeO.none _
      | refine LeO.ite ?_ ?_
      | refine LeO.bind ?_ (fun _ => ?_)
set_option maxHeartbeats 8000000 in
set_option maxRecDepth 100000 in
theorem forebaylaw04_ClassBytes.calls (k : Nat) (a0 : Int) (a1 : Int) (r : Bool) (w : World) (h : forebaylaw04_ClassBytes.f k a0 a1 = some r) :
    Calls Try.prog 5 #[.int .i64 a0, .int .u8 a1] w fun e w' => e = .returned (.bool r) ∧ Below w.heap.size w w' := by
  have HB := Aside0.mk (Below.refl w.heap.size w)
  have H : ((class_Count.f k a0).bind fun bt128 => ((forebaylaw04_number.f a0).bind fun t130 => ((class_Is.f k a0 a1).bind fun t131 => ((forebayref04_Is.f k t130 a1).bind fun t132 => (if (t131 != t132) = true then (some false) else (if t130 = 0 then (if bt128.1 = 0 then (if bt128.2 = 1 then ((forebaylaw04_awake.f k).bind fun t133 => (some t133)) else (some false)) else (some false)) else ((forebayref04_Bytes.f t130).bind fun t134 => (if bt128.1 = (t134.size : Int) then (if bt128.2 = 0 then ((forebaylaw04_awake.f k).bind fun t135 => (some t135)) else (some false)) else (some false))))))))) = some r := h
  clear h
  replace H := Option.bind_eq_some_iff.mp H
  obtain ⟨⟨t128, t129⟩, A30, H⟩ := H
  replace H : ((forebaylaw04_number.f a0).bind fun t130 => ((class_Is.f k a0 a1).bind fun t131 => ((forebayref04_Is.f k t130 a1).bind fun t132 => (if (t131 != t132) = true then (some false) else (if t130 = 0 then (if t128 = 0 then (if t129 = 1 then ((forebaylaw04_awake.f k).bind fun t133 => (some t133)) else (some false)) else (some false)) else ((forebayref04_Bytes.f t130).bind fun t134 => (if t128 = (t134.size : Int) then (if t129 = 0 then ((forebaylaw04_awake.f k).bind fun t135 => (some t135)) else (some false)) else (some false)))))))) = some r := H
  have A3 := Aside0.mk A30
  clear A30
  replace H := Option.bind_eq_some_iff.mp H
  obtain ⟨t130, A40, H⟩ := H
  replace H : ((class_Is.f k a0 a1).bind fun t131 => ((forebayref04_Is.f k t130 a1).bind fun t132 => (if (t131 != t132) = true then (some false) else (if t130 = 0 then (if t128 = 0 then (if t129 = 1 then ((forebaylaw04_awake.f k).bind fun t133 => (some t133)) else (some false)) else (some false)) else ((forebayref04_Bytes.f t130).bind fun t134 => (if t128 = (t134.size : Int) then (if t129 = 0 then ((forebaylaw04_awake.f k).bind fun t135 => (some t135)) else (some false)) else (some false))))))) = some r := H
  have A4 := Aside0.mk A40
  clear A40
  replace H := Option.bind_eq_some_iff.mp H
  obtain ⟨t131, A50, H⟩ := H
  replace H : ((forebayref04_Is.f k t130 a1).bind fun t132 => (if (t131 != t132) = true then (some false) else (if t130 = 0 then (if t128 = 0 then (if t129 = 1 then ((forebaylaw04_awake.f k).bind fun t133 => (some t133)) else (some false)) else (some false)) else ((forebayref04_Bytes.f t130).bind fun t134 => (if t128 = (t134.size : Int) then (if t129 = 0 then ((forebaylaw04_awake.f k).bind fun t135 => (some t135)) else (some false)) else (some false)))))) = some r := H
  have A5 := Aside0.mk A50
  clear A50
  replace H := Option.bind_eq_some_iff.mp H
  obtain ⟨t132, A60, H⟩ := H
  replace H : (if (t131 != t132) = true then (some false) else (if t130 = 0 then (if t128 = 0 then (if t129 = 1 then ((forebaylaw04_awake.f k).bind fun t133 => (some t133)) else (some false)) else (some false)) else ((forebayref04_Bytes.f t130).bind fun t134 => (if t128 = (t134.size : Int) then (if t129 = 0 then ((forebaylaw04_awake.f k).bind fun t135 => (some t135)) else (some false)) else (some false))))) = some r := H
  have A6 := Aside0.mk A60
  clear A60
  by_cases c7 : (t131 != t132) = true
  · rw [if_pos c7] at H
    have c7b0 : (t131 != t132) = true := c7
    (try (have c7b1 : decide (t131 = t132) = false := by simpa using c7))
    (try (have c7b2 : (t131 == t132) = false := by simpa using c7))
    (try (have c7b3 : ¬ (t131 = t132) := by simpa using c7))
    clear c7
    obtain rfl := Option.some.inj H
    go_enter Try.func5, Try.ntmps5
    go_wp2_with (first | ((with_reducible refine gate_callee (f := 21) rfl ?_); refine goesL_ (some 10) rfl rfl Try.func21 (by kernel_rfl) rfl #[.int .i64 a0] rfl (by (try simp only [List.map_toArray, List.map_cons, List.map_nil]); first | done | rfl | (simp only [List.length_drop, List.length_take]; rfl)) ?_; (with_reducible refine (class_Count.calls k a0 t128 t129 _ A3.out).mono ?_); rintro e w' ⟨rfl, ⟨nd, rfl⟩⟩; refine ⟨_, rfl, ?_⟩) | ((with_reducible refine gate_callee (f := 22) rfl ?_); refine goesL_ (some 14) rfl rfl Try.func22 (by kernel_rfl) rfl #[.int .i64 a0] rfl (by (try simp only [List.map_toArray, List.map_cons, List.map_nil]); first | done | rfl | (simp only [List.length_drop, List.length_take]; rfl)) ?_; (with_reducible refine (forebaylaw04_number.calls a0 t130 _ A4.out).mono ?_); rintro e w' ⟨rfl, ⟨nd, rfl⟩⟩; refine ⟨_, rfl, ?_⟩) | ((with_reducible refine gate_callee (f := 23) rfl ?_); refine goesL_ (some 17) rfl rfl Try.func23 (by kernel_rfl) rfl #[.int .i64 a0, .int .u8 a1] rfl (by (try simp only [List.map_toArray, List.map_cons, List.map_nil]); first | done | rfl | (simp only [List.length_drop, List.length_take]; rfl)) ?_; (with_reducible refine (class_Is.calls k a0 a1 t131 _ A5.out).mono ?_); rintro e w' ⟨rfl, ⟨nd, rfl⟩⟩; refine ⟨_, rfl, ?_⟩) | ((with_reducible refine gate_callee (f := 24) rfl ?_); refine goesL_ (some 20) rfl rfl Try.func24 (by kernel_rfl) rfl #[.int .i64 t130, .int .u8 a1] rfl (by (try simp only [List.map_toArray, List.map_cons, List.map_nil]); first | done | rfl | (simp only [List.length_drop, List.length_take]; rfl)) ?_; (with_reducible refine (forebayref04_Is.calls k t130 a1 t132 _ A6.out).mono ?_); rintro e w' ⟨rfl, ⟨nd, rfl⟩⟩; refine ⟨_, rfl, ?_⟩))
    go_ret
    exact ⟨by first | rfl | (simp [errW_none, errW_some] <;> rfl) | (simp [*, errW_none, errW_some] <;> rfl), by repeat (first | (with_reducible first | exact HB.out | apply below_alloc | apply pw_below_drewN | apply below_drew1) | exact HB.out)⟩
  · rw [if_neg c7] at H
    have c7b0 : (t131 != t132) = false := by simpa using c7
    (try (have c7b1 : decide (t131 = t132) = true := by simpa using c7))
    (try (have c7b2 : (t131 == t132) = true := by simpa using c7))
    clear c7
    by_cases c8 : t130 = 0
    · rw [if_pos c8] at H
      have c8b0 : (t130 == 0) = true := beq_iff_eq.mpr c8
      have c8b1 : (t130 != 0) = false := bne_eq_false_iff_eq.mpr c8
      clear c8
      by_cases c9 : t128 = 0
      · rw [if_pos c9] at H
        have c9b0 : (t128 == 0) = true := beq_iff_eq.mpr c9
        have c9b1 : (t128 != 0) = false := bne_eq_false_iff_eq.mpr c9
        clear c9
        by_cases c10 : t129 = 1
        · rw [if_pos c10] at H
          have c10b0 : (t129 == 1) = true := beq_iff_eq.mpr c10
          have c10b1 : (t129 != 1) = false := bne_eq_false_iff_eq.mpr c10
          clear c10
          replace H := Option.bind_eq_some_iff.mp H
          obtain ⟨t133, A110, H⟩ := H
          replace H : (some t133) = some r := H
          have A11 := Aside0.mk A110
          clear A110
          obtain rfl := Option.some.inj H
          go_enter Try.func5, Try.ntmps5
          go_wp2_with (first | ((with_reducible refine gate_callee (f := 21) rfl ?_); refine goesL_ (some 10) rfl rfl Try.func21 (by kernel_rfl) rfl #[.int .i64 a0] rfl (by (try simp only [List.map_toArray, List.map_cons, List.map_nil]); first | done | rfl | (simp only [List.length_drop, List.length_take]; rfl)) ?_; (with_reducible refine (class_Count.calls k a0 t128 t129 _ A3.out).mono ?_); rintro e w' ⟨rfl, ⟨nd, rfl⟩⟩; refine ⟨_, rfl, ?_⟩) | ((with_reducible refine gate_callee (f := 22) rfl ?_); refine goesL_ (some 14) rfl rfl Try.func22 (by kernel_rfl) rfl #[.int .i64 a0] rfl (by (try simp only [List.map_toArray, List.map_cons, List.map_nil]); first | done | rfl | (simp only [List.length_drop, List.length_take]; rfl)) ?_; (with_reducible refine (forebaylaw04_number.calls a0 t130 _ A4.out).mono ?_); rintro e w' ⟨rfl, ⟨nd, rfl⟩⟩; refine ⟨_, rfl, ?_⟩) | ((with_reducible refine gate_callee (f := 23) rfl ?_); refine goesL_ (some 17) rfl rfl Try.func23 (by kernel_rfl) rfl #[.int .i64 a0, .int .u8 a1] rfl (by (try simp only [List.map_toArray, List.map_cons, List.map_nil]); first | done | rfl | (simp only [List.length_drop, List.length_take]; rfl)) ?_; (with_reducible refine (class_Is.calls k a0 a1 t131 _ A5.out).mono ?_); rintro e w' ⟨rfl, ⟨nd, rfl⟩⟩; refine ⟨_, rfl, ?_⟩) | ((with_reducible refine gate_callee (f := 24) rfl ?_); refine goesL_ (some 20) rfl rfl Try.func24 (by kernel_rfl) rfl #[.int .i64 t130, .int .u8 a1] rfl (by (try simp only [List.map_toArray, List.map_cons, List.map_nil]); first | done | rfl | (simp only [List.length_drop, List.length_take]; rfl)) ?_; (with_reducible refine (forebayref04_Is.calls k t130 a1 t132 _ A6.out).mono ?_); rintro e w' ⟨rfl, ⟨nd, rfl⟩⟩; refine ⟨_, rfl, ?_⟩) | (go_at_call 25; (with_reducible refine (forebaylaw04_awake.calls k  t133 _ A11.out).mono ?_); rintro e w12 ⟨rfl, hb⟩; have n0_ := Aside0.mk (below_step (by repeat (first | (with_reducible first | exact HB.out | apply below_alloc | apply pw_below_drewN | apply below_drew1) | exact HB.out)) hb); clear HB; have HB := n0_; clear n0_; (try clear hb); (try clear hb2); (try clear hk); (try clear hi)))
          go_ret
          exact ⟨by first | rfl | (simp [errW_none, errW_some] <;> rfl) | (simp [*, errW_none, errW_some] <;> rfl), by repeat (first | (with_reducible first | exact HB.out | apply below_alloc | apply pw_below_drewN | apply below_drew1) | exact HB.out)⟩
        · rw [if_neg c10] at H
          have c10b0 : (t129 == 1) = false := beq_eq_false_iff_ne.mpr c10
          have c10b1 : (t129 != 1) = true := bne_iff_ne.mpr c10
          obtain rfl := Option.some.inj H
          go_enter Try.func5, Try.ntmps5
          go_wp2_with (first | ((with_reducible refine gate_callee (f := 21) rfl ?_); refine goesL_ (some 10) rfl rfl Try.func21 (by kernel_rfl) rfl #[.int .i64 a0] rfl (by (try simp only [List.map_toArray, List.map_cons, List.map_nil]); first | done | rfl | (simp only [List.length_drop, List.length_take]; rfl)) ?_; (with_reducible refine (class_Count.calls k a0 t128 t129 _ A3.out).mono ?_); rintro e w' ⟨rfl, ⟨nd, rfl⟩⟩; refine ⟨_, rfl, ?_⟩) | ((with_reducible refine gate_callee (f := 22) rfl ?_); refine goesL_ (some 14) rfl rfl Try.func22 (by kernel_rfl) rfl #[.int .i64 a0] rfl (by (try simp only [List.map_toArray, List.map_cons, List.map_nil]); first | done | rfl | (simp only [List.length_drop, List.length_take]; rfl)) ?_; (with_reducible refine (forebaylaw04_number.calls a0 t130 _ A4.out).mono ?_); rintro e w' ⟨rfl, ⟨nd, rfl⟩⟩; refine ⟨_, rfl, ?_⟩) | ((with_reducible refine gate_callee (f := 23) rfl ?_); refine goesL_ (some 17) rfl rfl Try.func23 (by kernel_rfl) rfl #[.int .i64 a0, .int .u8 a1] rfl (by (try simp only [List.map_toArray, List.map_cons, List.map_nil]); first | done | rfl | (simp only [List.length_drop, List.length_take]; rfl)) ?_; (with_reducible refine (class_Is.calls k a0 a1 t131 _ A5.out).mono ?_); rintro e w' ⟨rfl, ⟨nd, rfl⟩⟩; refine ⟨_, rfl, ?_⟩) | ((with_reducible refine gate_callee (f := 24) rfl ?_); refine goesL_ (some 20) rfl rfl Try.func24 (by kernel_rfl) rfl #[.int .i64 t130, .int .u8 a1] rfl (by (try simp only [List.map_toArray, List.map_cons, List.map_nil]); first | done | rfl | (simp only [List.length_drop, List.length_take]; rfl)) ?_; (with_reducible refine (forebayref04_Is.calls k t130 a1 t132 _ A6.out).mono ?_); rintro e w' ⟨rfl, ⟨nd, rfl⟩⟩; refine ⟨_, rfl, ?_⟩))
          go_ret
          exact ⟨by first | rfl | (simp [errW_none, errW_some] <;> rfl) | (simp [*, errW_none, errW_some] <;> rfl), by repeat (first | (with_reducible first | exact HB.out | apply below_alloc | apply pw_below_drewN | apply below_drew1) | exact HB.out)⟩
      · rw [if_neg c9] at H
        have c9b0 : (t128 == 0) = false := beq_eq_false_iff_ne.mpr c9
        have c9b1 : (t128 != 0) = true := bne_iff_ne.mpr c9
        obtain rfl := Option.some.inj H
        go_enter Try.func5, Try.ntmps5
        go_wp2_with (first | ((with_reducible refine gate_callee (f := 21) rfl ?_); refine goesL_ (some 10) rfl rfl Try.func21 (by kernel_rfl) rfl #[.int .i64 a0] rfl (by (try simp only [List.map_toArray, List.map_cons, List.map_nil]); first | done | rfl | (simp only [List.length_drop, List.length_take]; rfl)) ?_; (with_reducible refine (class_Count.calls k a0 t128 t129 _ A3.out).mono ?_); rintro e w' ⟨rfl, ⟨nd, rfl⟩⟩; refine ⟨_, rfl, ?_⟩) | ((with_reducible refine gate_callee (f := 22) rfl ?_); refine goesL_ (some 14) rfl rfl Try.func22 (by kernel_rfl) rfl #[.int .i64 a0] rfl (by (try simp only [List.map_toArray, List.map_cons, List.map_nil]); first | done | rfl | (simp only [List.length_drop, List.length_take]; rfl)) ?_; (with_reducible refine (forebaylaw04_number.calls a0 t130 _ A4.out).mono ?_); rintro e w' ⟨rfl, ⟨nd, rfl⟩⟩; refine ⟨_, rfl, ?_⟩) | ((with_reducible refine gate_callee (f := 23) rfl ?_); refine goesL_ (some 17) rfl rfl Try.func23 (by kernel_rfl) rfl #[.int .i64 a0, .int .u8 a1] rfl (by (try simp only [List.map_toArray, List.map_cons, List.map_nil]); first | done | rfl | (simp only [List.length_drop, List.length_take]; rfl)) ?_; (with_reducible refine (class_Is.calls k a0 a1 t131 _ A5.out).mono ?_); rintro e w' ⟨rfl, ⟨nd, rfl⟩⟩; refine ⟨_, rfl, ?_⟩) | ((with_reducible refine gate_callee (f := 24) rfl ?_); refine goesL_ (some 20) rfl rfl Try.func24 (by kernel_rfl) rfl #[.int .i64 t130, .int .u8 a1] rfl (by (try simp only [List.map_toArray, List.map_cons, List.map_nil]); first | done | rfl | (simp only [List.length_drop, List.length_take]; rfl)) ?_; (with_reducible refine (forebayref04_Is.calls k t130 a1 t132 _ A6.out).mono ?_); rintro e w' ⟨rfl, ⟨nd, rfl⟩⟩; refine ⟨_, rfl, ?_⟩))
        go_ret
        exact ⟨by first | rfl | (simp [errW_none, errW_some] <;> rfl) | (simp [*, errW_none, errW_some] <;> rfl), by repeat (first | (with_reducible first | exact HB.out | apply below_alloc | apply pw_below_drewN | apply below_drew1) | exact HB.out)⟩
    · rw [if_neg c8] at H
      have c8b0 : (t130 == 0) = false := beq_eq_false_iff_ne.mpr c8
      have c8b1 : (t130 != 0) = true := bne_iff_ne.mpr c8
      replace H := Option.bind_eq_some_iff.mp H
      obtain ⟨t134, A130, H⟩ := H
      replace H : (if t128 = (t134.size : Int) then (if t129 = 0 then ((forebaylaw04_awake.f k).bind fun t135 => (some t135)) else (some false)) else (some false)) = some r := H
      have A13 := Aside0.mk A130
      clear A130
      by_cases c14 : t128 = (t134.size : Int)
      · rw [if_pos c14] at H
        have c14b0 : (t128 == (t134.size : Int)) = true := beq_iff_eq.mpr c14
        have c14b1 : (t128 != (t134.size : Int)) = false := bne_eq_false_iff_eq.mpr c14
        clear c14
        by_cases c15 : t129 = 0
        · rw [if_pos c15] at H
          have c15b0 : (t129 == 0) = true := beq_iff_eq.mpr c15
          have c15b1 : (t129 != 0) = false := bne_eq_false_iff_eq.mpr c15
          clear c15
          replace H := Option.bind_eq_some_iff.mp H
          obtain ⟨t135, A160, H⟩ := H
          replace H : (some t135) = some r := H
          have A16 := Aside0.mk A160
          clear A160
          obtain rfl := Option.some.inj H
          go_enter Try.func5, Try.ntmps5
          go_wp2_with (first | ((with_reducible refine gate_callee (f := 21) rfl ?_); refine goesL_ (some 10) rfl rfl Try.func21 (by kernel_rfl) rfl #[.int .i64 a0] rfl (by (try simp only [List.map_toArray, List.map_cons, List.map_nil]); first | done | rfl | (simp only [List.length_drop, List.length_take]; rfl)) ?_; (with_reducible refine (class_Count.calls k a0 t128 t129 _ A3.out).mono ?_); rintro e w' ⟨rfl, ⟨nd, rfl⟩⟩; refine ⟨_, rfl, ?_⟩) | ((with_reducible refine gate_callee (f := 22) rfl ?_); refine goesL_ (some 14) rfl rfl Try.func22 (by kernel_rfl) rfl #[.int .i64 a0] rfl (by (try simp only [List.map_toArray, List.map_cons, List.map_nil]); first | done | rfl | (simp only [List.length_drop, List.length_take]; rfl)) ?_; (with_reducible refine (forebaylaw04_number.calls a0 t130 _ A4.out).mono ?_); rintro e w' ⟨rfl, ⟨nd, rfl⟩⟩; refine ⟨_, rfl, ?_⟩) | ((with_reducible refine gate_callee (f := 23) rfl ?_); refine goesL_ (some 17) rfl rfl Try.func23 (by kernel_rfl) rfl #[.int .i64 a0, .int .u8 a1] rfl (by (try simp only [List.map_toArray, List.map_cons, List.map_nil]); first | done | rfl | (simp only [List.length_drop, List.length_take]; rfl)) ?_; (with_reducible refine (class_Is.calls k a0 a1 t131 _ A5.out).mono ?_); rintro e w' ⟨rfl, ⟨nd, rfl⟩⟩; refine ⟨_, rfl, ?_⟩) | ((with_reducible refine gate_callee (f := 24) rfl ?_); refine goesL_ (some 20) rfl rfl Try.func24 (by kernel_rfl) rfl #[.int .i64 t130, .int .u8 a1] rfl (by (try simp only [List.map_toArray, List.map_cons, List.map_nil]); first | done | rfl | (simp only [List.length_drop, List.length_take]; rfl)) ?_; (with_reducible refine (forebayref04_Is.calls k t130 a1 t132 _ A6.out).mono ?_); rintro e w' ⟨rfl, ⟨nd, rfl⟩⟩; refine ⟨_, rfl, ?_⟩) | ((with_reducible refine gate_callee (f := 26) rfl ?_); refine goesL_ (some 35) rfl rfl Try.func26 (by kernel_rfl) rfl #[.int .i64 t130] rfl (by (try simp only [List.map_toArray, List.map_cons, List.map_nil]); first | done | rfl | (simp only [List.length_drop, List.length_take]; rfl)) ?_; (with_reducible refine (forebayref04_Bytes.calls t130 t134 _ A13.out).mono ?_); rintro e w' ⟨rfl, ⟨nd, rfl⟩⟩; refine ⟨_, rfl, ?_⟩) | (go_at_call 25; (with_reducible refine (forebaylaw04_awake.calls k  t135 _ A16.out).mono ?_); rintro e w17 ⟨rfl, hb⟩; have n0_ := Aside0.mk (below_step (by repeat (first | (with_reducible first | exact HB.out | apply below_alloc | apply pw_below_drewN | apply below_drew1) | exact HB.out)) hb); clear HB; have HB := n0_; clear n0_; (try clear hb); (try clear hb2); (try clear hk); (try clear hi)))
          go_ret
          exact ⟨by first | rfl | (simp [errW_none, errW_some] <;> rfl) | (simp [*, errW_none, errW_some] <;> rfl), by repeat (first | (with_reducible first | exact HB.out | apply below_alloc | apply pw_below_drewN | apply below_drew1) | exact HB.out)⟩
        · rw [if_neg c15] at H
          have c15b0 : (t129 == 0) = false := beq_eq_false_iff_ne.mpr c15
          have c15b1 : (t129 != 0) = true := bne_iff_ne.mpr c15
          obtain rfl := Option.some.inj H
          go_enter Try.func5, Try.ntmps5
          go_wp2_with (first | ((with_reducible refine gate_callee (f := 21) rfl ?_); refine goesL_ (some 10) rfl rfl Try.func21 (by kernel_rfl) rfl #[.int .i64 a0] rfl (by (try simp only [List.map_toArray, List.map_cons, List.map_nil]); first | done | rfl | (simp only [List.length_drop, List.length_take]; rfl)) ?_; (with_reducible refine (class_Count.calls k a0 t128 t129 _ A3.out).mono ?_); rintro e w' ⟨rfl, ⟨nd, rfl⟩⟩; refine ⟨_, rfl, ?_⟩) | ((with_reducible refine gate_callee (f := 22) rfl ?_); refine goesL_ (some 14) rfl rfl Try.func22 (by kernel_rfl) rfl #[.int .i64 a0] rfl (by (try simp only [List.map_toArray, List.map_cons, List.map_nil]); first | done | rfl | (simp only [List.length_drop, List.length_take]; rfl)) ?_; (with_reducible refine (forebaylaw04_number.calls a0 t130 _ A4.out).mono ?_); rintro e w' ⟨rfl, ⟨nd, rfl⟩⟩; refine ⟨_, rfl, ?_⟩) | ((with_reducible refine gate_callee (f := 23) rfl ?_); refine goesL_ (some 17) rfl rfl Try.func23 (by kernel_rfl) rfl #[.int .i64 a0, .int .u8 a1] rfl (by (try simp only [List.map_toArray, List.map_cons, List.map_nil]); first | done | rfl | (simp only [List.length_drop, List.length_take]; rfl)) ?_; (with_reducible refine (class_Is.calls k a0 a1 t131 _ A5.out).mono ?_); rintro e w' ⟨rfl, ⟨nd, rfl⟩⟩; refine ⟨_, rfl, ?_⟩) | ((with_reducible refine gate_callee (f := 24) rfl ?_); refine goesL_ (some 20) rfl rfl Try.func24 (by kernel_rfl) rfl #[.int .i64 t130, .int .u8 a1] rfl (by (try simp only [List.map_toArray, List.map_cons, List.map_nil]); first | done | rfl | (simp only [List.length_drop, List.length_take]; rfl)) ?_; (with_reducible refine (forebayref04_Is.calls k t130 a1 t132 _ A6.out).mono ?_); rintro e w' ⟨rfl, ⟨nd, rfl⟩⟩; refine ⟨_, rfl, ?_⟩) | ((with_reducible refine gate_callee (f := 26) rfl ?_); refine goesL_ (some 35) rfl rfl Try.func26 (by kernel_rfl) rfl #[.int .i64 t130] rfl (by (try simp only [List.map_toArray, List.map_cons, List.map_nil]); first | done | rfl | (simp only [List.length_drop, List.length_take]; rfl)) ?_; (with_reducible refine (forebayref04_Bytes.calls t130 t134 _ A13.out).mono ?_); rintro e w' ⟨rfl, ⟨nd, rfl⟩⟩; refine ⟨_, rfl, ?_⟩))
          go_ret
          exact ⟨by first | rfl | (simp [errW_none, errW_some] <;> rfl) | (simp [*, errW_none, errW_some] <;> rfl), by repeat (first | (with_reducible first | exact HB.out | apply below_alloc | apply pw_below_drewN | apply below_drew1) | exact HB.out)⟩
      · rw [if_neg c14] at H
        have c14b0 : (t128 == (t134.size : Int)) = false := beq_eq_false_iff_ne.mpr c14
        have c14b1 : (t128 != (t134.size : Int)) = true := bne_iff_ne.mpr c14
        obtain rfl := Option.some.inj H
        go_enter Try.func5, Try.ntmps5
        go_wp2_with (first | ((with_reducible refine gate_callee (f := 21) rfl ?_); refine goesL_ (some 10) rfl rfl Try.func21 (by kernel_rfl) rfl #[.int .i64 a0] rfl (by (try simp only [List.map_toArray, List.map_cons, List.map_nil]); first | done | rfl | (simp only [List.length_drop, List.length_take]; rfl)) ?_; (with_reducible refine (class_Count.calls k a0 t128 t129 _ A3.out).mono ?_); rintro e w' ⟨rfl, ⟨nd, rfl⟩⟩; refine ⟨_, rfl, ?_⟩) | ((with_reducible refine gate_callee (f := 22) rfl ?_); refine goesL_ (some 14) rfl rfl Try.func22 (by kernel_rfl) rfl #[.int .i64 a0] rfl (by (try simp only [List.map_toArray, List.map_cons, List.map_nil]); first | done | rfl | (simp only [List.length_drop, List.length_take]; rfl)) ?_; (with_reducible refine (forebaylaw04_number.calls a0 t130 _ A4.out).mono ?_); rintro e w' ⟨rfl, ⟨nd, rfl⟩⟩; refine ⟨_, rfl, ?_⟩) | ((with_reducible refine gate_callee (f := 23) rfl ?_); refine goesL_ (some 17) rfl rfl Try.func23 (by kernel_rfl) rfl #[.int .i64 a0, .int .u8 a1] rfl (by (try simp only [List.map_toArray, List.map_cons, List.map_nil]); first | done | rfl | (simp only [List.length_drop, List.length_take]; rfl)) ?_; (with_reducible refine (class_Is.calls k a0 a1 t131 _ A5.out).mono ?_); rintro e w' ⟨rfl, ⟨nd, rfl⟩⟩; refine ⟨_, rfl, ?_⟩) | ((with_reducible refine gate_callee (f := 24) rfl ?_); refine goesL_ (some 20) rfl rfl Try.func24 (by kernel_rfl) rfl #[.int .i64 t130, .int .u8 a1] rfl (by (try simp only [List.map_toArray, List.map_cons, List.map_nil]); first | done | rfl | (simp only [List.length_drop, List.length_take]; rfl)) ?_; (with_reducible refine (forebayref04_Is.calls k t130 a1 t132 _ A6.out).mono ?_); rintro e w' ⟨rfl, ⟨nd, rfl⟩⟩; refine ⟨_, rfl, ?_⟩) | ((with_reducible refine gate_callee (f := 26) rfl ?_); refine goesL_ (some 35) rfl rfl Try.func26 (by kernel_rfl) rfl #[.int .i64 t130] rfl (by (try simp only [List.map_toArray, List.map_cons, List.map_nil]); first | done | rfl | (simp only [List.length_drop, List.length_take]; rfl)) ?_; (with_reducible refine (forebayref04_Bytes.calls t130 t134 _ A13.out).mono ?_); rintro e w' ⟨rfl, ⟨nd, rfl⟩⟩; refine ⟨_, rfl, ?_⟩))
        go_ret
        exact ⟨by first | rfl | (simp [errW_none, errW_some] <;> rfl) | (simp [*, errW_none, errW_some] <;> rfl), by repeat (first | (with_reducible first | exact HB.out | apply below_alloc | apply pw_below_drewN | apply below_drew1) | exact HB.out)⟩

/-- THE ONE PURE STATEMENT of forebaylaw04_ClassBytes: yours. -/
def forebaylaw04_ClassBytes.Pure : Prop := ∀ (a0 : Int) (a1 : Int), (Lit.int .i64 a0).wf = true → (Lit.int .u8 a1).wf = true → ∃ k, forebaylaw04_ClassBytes.f k a0 a1 = some true
theorem forebaylaw04_ClassBytes.walk (P : forebaylaw04_ClassBytes.Pure) (a0 : Int) (a1 : Int) (w : World) (w0 : (Lit.int .i64 a0).wf = true) (w1 : (Lit.int .u8 a1).wf = true) :
    Calls Try.prog 5 #[.int .i64 a0, .int .u8 a1] w fun e w' => e = .returned (.bool true) ∧ Below w.heap.size w w' := by
  obtain ⟨k, h⟩ := P a0 a1 w0 w1
  refine (forebaylaw04_ClassBytes.calls k a0 a1 true w h).mono ?_
  rintro e w' ⟨rfl, hd⟩
  exact ⟨rfl, hd⟩

end Go.Proofs.Ytgaboaeeodiadaa.PClassBytes
