-- Out of a text that print.sh wrote for this seat: what this claim does not use is left out.
import Derived.Test.YtclbmdblalgdjaaZLPEx0
import Derived.Test.YtclbmdblalgdjaaZLPEx5
import Derived.Test.YtclbmdblalgdjaaZLPEx6
namespace Go.Proofs.Ytclbmdblalgdjaa.PE
open Go.RowKit Go.Proofs.YtclbmdblalgdjaaW.PrintWords Go.Proofs.YtclbmdblalgdjaaW.PrintLast Go.Proofs.YtclbmdblalgdjaaW.PrintMore
attribute [local go_sem] max2_int min2_int max_two min_two max_three min_three max_four min_four   -- for this text's walks alone
set_option linter.unusedVariables false
set_option linter.unusedSimpArgs false
/-! ### forebayref07_Rest: function 87 -/
mutual
def forebayref07_Rest.j0 : Nat → Bool → Bool → ByteArray → Int → List (S48) → Int → List (S81) → Int → Option (Int)
 | 0, _, _, _, _, _, _, _, _ => none
 | k + 1, x1, x17, x138000, x138001, x138002, x138003, x138004, x138005 => if x17 = true then (some 16) else (if x1 = true then (if (x138002.length : Int) < 1 then (forebayref07_Rest.j1 k true x138000 x138001 x138002 x138003 x138004 x138005) else (forebayref07_Rest.j1 k (decide ((x138002.length : Int) > 64)) x138000 x138001 x138002 x138003 x138004 x138005)) else (forebayref07_Rest.j1 k true x138000 x138001 x138002 x138003 x138004 x138005))
def forebayref07_Rest.j1 : Nat → Bool → ByteArray → Int → List (S48) → Int → List (S81) → Int → Option (Int)
 | 0, _, _, _, _, _, _, _ => none
 | k + 1, x31, x138000, x138001, x138002, x138003, x138004, x138005 => if x31 = true then (some 17) else (if x138003 < 1 then (forebayref07_Rest.j2 k true x138000 x138001 x138002 x138003 x138004 x138005) else (if x138003 > 1000000 then (forebayref07_Rest.j2 k true x138000 x138001 x138002 x138003 x138004 x138005) else (if x138001 = 2 then (forebayref07_Rest.j2 k (x138003 != 1000000) x138000 x138001 x138002 x138003 x138004 x138005) else (forebayref07_Rest.j2 k false x138000 x138001 x138002 x138003 x138004 x138005))))
def forebayref07_Rest.j2 : Nat → Bool → ByteArray → Int → List (S48) → Int → List (S81) → Int → Option (Int)
 | 0, _, _, _, _, _, _, _ => none
 | k + 1, x49, x138000, x138001, x138002, x138003, x138004, x138005 => if x49 = true then (some 18) else (if (x138004.length : Int) > 32 then (some 19) else (forebayref07_Rest.l0 k 0 x138000 x138001 x138002 x138003 x138004 x138005))
def forebayref07_Rest.l0 : Nat → Int → ByteArray → Int → List (S48) → Int → List (S81) → Int → Option (Int)
 | 0, _, _, _, _, _, _, _ => none
 | k + 1, x5, x138000, x138001, x138002, x138003, x138004, x138005 => if x5 < (x138004.length : Int) then (if 0 ≤ x5 then ((forebayref06_Check.f ((rd_T81 x138004 x5).f0) ((rd_T81 x138004 x5).f1)).bind fun t140 => (if t140 = 0 then (forebayref07_Rest.l0 k (wrap64 (x5 + 1)) x138000 x138001 x138002 x138003 x138004 x138005) else (some 19))) else (none)) else (if x138005 < 0 then (some 20) else (if x138005 > 1099511627776 then (some 20) else (some 0)))
end
def forebayref07_Rest.f (k : Nat) (a0_0 : ByteArray) (a0_1 : Int) (l0_2 : List (S48)) (a0_3 : Int) (l0_4 : List (S81)) (a0_5 : Int) (a1 : Bool) : Option (Int) := (forebayref07_Name.f k a0_0).bind fun t138 => (if t138 = true then (if a0_1 < 1 then (forebayref07_Rest.j0 k a1 true a0_0 a0_1 l0_2 a0_3 l0_4 a0_5) else (forebayref07_Rest.j0 k a1 (decide (a0_1 > 5)) a0_0 a0_1 l0_2 a0_3 l0_4 a0_5)) else (some 15))
set_option maxHeartbeats 8000000 in
set_option maxRecDepth 100000 in
theorem forebayref07_Rest.calls (k : Nat) (a0_0 : ByteArray) (a0_1 : Int) (A0_2 : Option Addr) (c0_2 : Nat) (l0_2 : List (S48)) (a0_3 : Int) (A0_4 : Option Addr) (c0_4 : Nat) (l0_4 : List (S81)) (a0_5 : Int) (a1 : Bool) (r : Int) (w : World) (hr0_2 : Kd.C k48 w A0_2 l0_2.length l0_2) (hc0_2 : l0_2.length ≤ c0_2) (hr0_4 : Kd.C k81 w A0_4 l0_4.length l0_4) (hc0_4 : l0_4.length ≤ c0_4) (h : forebayref07_Rest.f k a0_0 a0_1 l0_2 a0_3 l0_4 a0_5 a1 = some r) :
  Calls Try.prog 87 #[.agg #[.string a0_0, .int .i64 a0_1, .slice A0_2 l0_2.length c0_2, .int .i64 a0_3, .slice A0_4 l0_4.length c0_4, .int .i64 a0_5], .bool a1] w fun e w' => e = .returned (.int .i64 r) ∧ Below w.heap.size w w' := by
 have hu26 := Try.underlying26
 have hu81 := Try.underlying81
 have HR0_2 := Aside0.mk hr0_2
 have HC0_2 := Aside0.mk hc0_2
 clear hr0_2 hc0_2
 have HR0_4 := Aside0.mk hr0_4
 have HC0_4 := Aside0.mk hc0_4
 clear hr0_4 hc0_4
 have HB := Aside0.mk (Below.refl w.heap.size w)
 have H : ((forebayref07_Name.f k a0_0).bind fun t138 => (if t138 = true then (if a0_1 < 1 then (forebayref07_Rest.j0 k a1 true a0_0 a0_1 l0_2 a0_3 l0_4 a0_5) else (forebayref07_Rest.j0 k a1 (decide (a0_1 > 5)) a0_0 a0_1 l0_2 a0_3 l0_4 a0_5)) else (some 15))) = some r := h
 clear h
 replace H := Option.bind_eq_some_iff.mp H
 obtain ⟨t138, A30, H⟩ := H
 replace H : (if t138 = true then (if a0_1 < 1 then (forebayref07_Rest.j0 k a1 true a0_0 a0_1 l0_2 a0_3 l0_4 a0_5) else (forebayref07_Rest.j0 k a1 (decide (a0_1 > 5)) a0_0 a0_1 l0_2 a0_3 l0_4 a0_5)) else (some 15)) = some r := H
 have A3 := Aside0.mk A30
 clear A30
 by_cases c4 : t138 = true
 ·subst c4
  have H1 : (if a0_1 < 1 then (forebayref07_Rest.j0 k a1 true a0_0 a0_1 l0_2 a0_3 l0_4 a0_5) else (forebayref07_Rest.j0 k a1 (decide (a0_1 > 5)) a0_0 a0_1 l0_2 a0_3 l0_4 a0_5)) = some r := by rw [if_pos rfl] at H; exact H
  clear H
  have H := H1
  clear H1
  have HC5 := Aside0.mk H
  clear H
  go_enter Try.func87, Try.ntmps87
  go_upto_region 3 with (first | ((with_reducible refine gate_dst (N := 2) rfl ?_); (try (refine gate_guard (by rfl) ?_; dsimp only)); refine box_event ?hg (N := 2) ?hd (cs := #[.string a0_0, .int .i64 a0_1, .slice A0_2 l0_2.length c0_2, .int .i64 a0_3, .slice A0_4 l0_4.length c0_4, .int .i64 a0_5]) (t := 26) ?hr ?_; (case hd => rfl); (case hg => rfl); (case hr => first | (go_simp; done) | (go_simp; rfl)); intro gb137 hg w6 hbox hb; have n0_ := Aside0.mk (below_step (by repeat (first | (with_reducible first | exact HB.out | apply below_alloc | apply pw_below_drewN | apply below_drew1) | exact HB.out)) hb); have n1_ := Aside0.mk (hbox); have n2_ := Aside0.mk ((by rw [hg]; exact (below_size (by repeat (first | (with_reducible first | exact HB.out | apply below_alloc | apply pw_below_drewN | apply below_drew1) | exact HB.out))) : w.heap.size ≤ gb137)); have n3_ := Aside0.mk ((by rw [hg]; exact (below_size (by repeat (first | (with_reducible first | exact HB.out | apply below_alloc | apply pw_below_drewN | apply below_drew1) | exact HB.out))) : w.heap.size ≤ gb137)); clear HB; have HB := n0_; have BK137 := n1_; have GW137 := n2_; have GE137 := n3_; clear n0_ n1_ n2_ n3_; clear hb hbox hg; have hcz7_0 : w6.cell? ⟨gb137, 0, none⟩ = some (.string a0_0) := (blk_cell BK137.out 0).trans rfl; have hcz7_1 : w6.cell? ⟨gb137, 1, none⟩ = some (.int .i64 a0_1) := (blk_cell BK137.out 1).trans rfl; have hcz7_2 : w6.cell? ⟨gb137, 2, none⟩ = some (.slice A0_2 l0_2.length c0_2) := (blk_cell BK137.out 2).trans rfl; have hcz7_3 : w6.cell? ⟨gb137, 3, none⟩ = some (.int .i64 a0_3) := (blk_cell BK137.out 3).trans rfl; have hcz7_4 : w6.cell? ⟨gb137, 4, none⟩ = some (.slice A0_4 l0_4.length c0_4) := (blk_cell BK137.out 4).trans rfl; have hcz7_5 : w6.cell? ⟨gb137, 5, none⟩ = some (.int .i64 a0_5) := (blk_cell BK137.out 5).trans rfl; have hfz7_0 := blk_frozen BK137.out 0; have hfz7_1 := blk_frozen BK137.out 1; have hfz7_2 := blk_frozen BK137.out 2; have hfz7_3 := blk_frozen BK137.out 3; have hfz7_4 := blk_frozen BK137.out 4; have hfz7_5 := blk_frozen BK137.out 5) | ((with_reducible refine gate_callee (f := 121) rfl ?_); refine goesL_ (some 8) rfl rfl Try.func121 (by kernel_rfl) rfl #[.string a0_0] rfl (by (try simp only [List.map_toArray, List.map_cons, List.map_nil]); first | done | rfl | (simp only [List.length_drop, List.length_take]; rfl)) ?_; (with_reducible refine (forebayref07_Name.calls k a0_0 true _ A3.out).mono ?_); rintro e w' ⟨rfl, ⟨nd, rfl⟩⟩; refine ⟨_, rfl, ?_⟩))
  (try simp only [Act.put, List.setIfInBounds_toArray, List.set_cons_zero, List.set_cons_succ])
  go_cut [17] (fun v17 wc => ∃ (kq : Nat) (x17_4 : Bool), v17 = .bool x17_4 ∧ Aside0 (forebayref07_Rest.j0 kq a1 x17_4 a0_0 a0_1 l0_2 a0_3 l0_4 a0_5 = some r) ∧ Aside0 (kq ≤ k) ∧ Aside0 (wc.heap[gb137]? = some (.cells #[.string a0_0, .int .i64 a0_1, (.slice A0_2 l0_2.length c0_2), .int .i64 a0_3, (.slice A0_4 l0_4.length c0_4), .int .i64 a0_5] 26 (0, 0))) ∧ Aside0 (Below w.heap.size w wc))
  case first =>
   have H := HC5.out
   clear HC5
   by_cases c8 : a0_1 < 1
   ·rw [if_pos c8] at H
    have c8b0 : decide (a0_1 < 1) = true := decide_eq_true c8
    clear c8
    (first | rw [c8b0] | (simp only [i64_w, i32_w]; rw [c8b0]) | skip)
    have H' := Aside0.mk H
    clear H
    have hcz9_0 : w6.cell? ⟨gb137, 0, none⟩ = some (.string a0_0) := (blk_cell BK137.out 0).trans rfl
    have hcz9_1 : w6.cell? ⟨gb137, 1, none⟩ = some (.int .i64 a0_1) := (blk_cell BK137.out 1).trans rfl
    have hcz9_2 : w6.cell? ⟨gb137, 2, none⟩ = some (.slice A0_2 l0_2.length c0_2) := (blk_cell BK137.out 2).trans rfl
    have hcz9_3 : w6.cell? ⟨gb137, 3, none⟩ = some (.int .i64 a0_3) := (blk_cell BK137.out 3).trans rfl
    have hcz9_4 : w6.cell? ⟨gb137, 4, none⟩ = some (.slice A0_4 l0_4.length c0_4) := (blk_cell BK137.out 4).trans rfl
    have hcz9_5 : w6.cell? ⟨gb137, 5, none⟩ = some (.int .i64 a0_5) := (blk_cell BK137.out 5).trans rfl
    have hfz9_0 := blk_frozen BK137.out 0
    have hfz9_1 := blk_frozen BK137.out 1
    have hfz9_2 := blk_frozen BK137.out 2
    have hfz9_3 := blk_frozen BK137.out 3
    have hfz9_4 := blk_frozen BK137.out 4
    have hfz9_5 := blk_frozen BK137.out 5
    go_wp2
    go_meet
    case rel => exact ⟨_, (true), (by first | rfl | (simp; done) | (simp [*]; done)), H', ⟨by first | omega | exact Nat.le_refl _⟩, ⟨by (with_reducible repeat (first | refine blk_drewN ?_ _ | refine blk_drew ?_ | refine blk_alloc ?_ _)); exact BK137.out⟩, ⟨by repeat (first | (with_reducible first | exact HB.out | apply below_alloc | apply pw_below_drewN | apply below_drew1 | refine below_set ?_ GE137.out) | exact HB.out)⟩⟩
   ·rw [if_neg c8] at H
    have c8b0 : decide (a0_1 < 1) = false := decide_eq_false c8
    clear c8
    (first | rw [c8b0] | (simp only [i64_w, i32_w]; rw [c8b0]) | skip)
    have H' := Aside0.mk H
    clear H
    have hcz10_0 : w6.cell? ⟨gb137, 0, none⟩ = some (.string a0_0) := (blk_cell BK137.out 0).trans rfl
    have hcz10_1 : w6.cell? ⟨gb137, 1, none⟩ = some (.int .i64 a0_1) := (blk_cell BK137.out 1).trans rfl
    have hcz10_2 : w6.cell? ⟨gb137, 2, none⟩ = some (.slice A0_2 l0_2.length c0_2) := (blk_cell BK137.out 2).trans rfl
    have hcz10_3 : w6.cell? ⟨gb137, 3, none⟩ = some (.int .i64 a0_3) := (blk_cell BK137.out 3).trans rfl
    have hcz10_4 : w6.cell? ⟨gb137, 4, none⟩ = some (.slice A0_4 l0_4.length c0_4) := (blk_cell BK137.out 4).trans rfl
    have hcz10_5 : w6.cell? ⟨gb137, 5, none⟩ = some (.int .i64 a0_5) := (blk_cell BK137.out 5).trans rfl
    have hfz10_0 := blk_frozen BK137.out 0
    have hfz10_1 := blk_frozen BK137.out 1
    have hfz10_2 := blk_frozen BK137.out 2
    have hfz10_3 := blk_frozen BK137.out 3
    have hfz10_4 := blk_frozen BK137.out 4
    have hfz10_5 := blk_frozen BK137.out 5
    go_wp2
    go_meet
    case rel => exact ⟨_, (decide (a0_1 > 5)), (by first | rfl | (simp; done) | (simp [*]; done)), H', ⟨by first | omega | exact Nat.le_refl _⟩, ⟨by (with_reducible repeat (first | refine blk_drewN ?_ _ | refine blk_drew ?_ | refine blk_alloc ?_ _)); exact BK137.out⟩, ⟨by repeat (first | (with_reducible first | exact HB.out | apply below_alloc | apply pw_below_drewN | apply below_drew1 | refine below_set ?_ GE137.out) | exact HB.out)⟩⟩
  case rest =>
   clear HC5
   try clear c1
   try clear p2
   try clear c4
   try clear c8
   try clear c8b0
   try clear hcz10_0
   try clear hcz10_1
   try clear hcz10_2
   try clear hcz10_3
   try clear hcz10_4
   try clear hcz10_5
   try clear hcz7_0
   try clear hcz7_1
   try clear hcz7_2
   try clear hcz7_3
   try clear hcz7_4
   try clear hcz7_5
   try clear hcz9_0
   try clear hcz9_1
   try clear hcz9_2
   try clear hcz9_3
   try clear hcz9_4
   try clear hcz9_5
   try clear hfz10_0
   try clear hfz10_1
   try clear hfz10_2
   try clear hfz10_3
   try clear hfz10_4
   try clear hfz10_5
   try clear hfz7_0
   try clear hfz7_1
   try clear hfz7_2
   try clear hfz7_3
   try clear hfz7_4
   try clear hfz7_5
   try clear hfz9_0
   try clear hfz9_1
   try clear hfz9_2
   try clear hfz9_3
   try clear hfz9_4
   try clear hfz9_5
   obtain ⟨kq, x17_4, rfl, HA, HJ4, BK137, HB⟩ := hcut
   cases kq with
   | zero => exact absurd HA.out (by simp [forebayref07_Rest.j0])
   | succ kj4 =>
    have H := HA.out
    clear HA
    simp only [forebayref07_Rest.j0] at H
    by_cases c11 : x17_4 = true
    ·subst c11
     have H1 : (some 16) = some r := by rw [if_pos rfl] at H; exact H
     clear H
     have H := H1
     clear H1
     obtain rfl := Option.some.inj H
     go_wp2
     go_ret
     exact ⟨by first | rfl | (simp [errW_none, errW_some] <;> rfl) | (simp [*, errW_none, errW_some] <;> rfl), by repeat (first | (with_reducible first | exact HB.out | apply below_alloc | apply pw_below_drewN | apply below_drew1 | refine below_set ?_ GE137.out) | exact HB.out)⟩
    ·replace c11 := Bool.eq_false_iff.mpr c11
     subst c11
     have H1 : (if a1 = true then (if (l0_2.length : Int) < 1 then (forebayref07_Rest.j1 kj4 true a0_0 a0_1 l0_2 a0_3 l0_4 a0_5) else (forebayref07_Rest.j1 kj4 (decide ((l0_2.length : Int) > 64)) a0_0 a0_1 l0_2 a0_3 l0_4 a0_5)) else (forebayref07_Rest.j1 kj4 true a0_0 a0_1 l0_2 a0_3 l0_4 a0_5)) = some r := by rw [if_neg (show ¬ (false = true) by decide)] at H; exact H
     clear H
     have H := H1
     clear H1
     have HC12 := Aside0.mk H
     clear H
     go_upto_region 5 with (fail)
     go_cut [31] (fun v31 wc => ∃ (kq : Nat) (x31_11 : Bool), v31 = .bool x31_11 ∧ Aside0 (forebayref07_Rest.j1 kq x31_11 a0_0 a0_1 l0_2 a0_3 l0_4 a0_5 = some r) ∧ Aside0 (kq ≤ kj4) ∧ Aside0 (wc.heap[gb137]? = some (.cells #[.string a0_0, .int .i64 a0_1, (.slice A0_2 l0_2.length c0_2), .int .i64 a0_3, (.slice A0_4 l0_4.length c0_4), .int .i64 a0_5] 26 (0, 0))) ∧ Aside0 (Below w.heap.size w wc))
     case first =>
      have H := HC12.out
      clear HC12
      by_cases c13 : a1 = true
      ·subst c13
       have H1 : (if (l0_2.length : Int) < 1 then (forebayref07_Rest.j1 kj4 true a0_0 a0_1 l0_2 a0_3 l0_4 a0_5) else (forebayref07_Rest.j1 kj4 (decide ((l0_2.length : Int) > 64)) a0_0 a0_1 l0_2 a0_3 l0_4 a0_5)) = some r := by rw [if_pos rfl] at H; exact H
       clear H
       have H := H1
       clear H1
       by_cases c14 : (l0_2.length : Int) < 1
       ·rw [if_pos c14] at H
        have c14b0 : decide ((l0_2.length : Int) < 1) = true := decide_eq_true c14
        have c14b1 : decide (l0_2.length < 1) = true := decide_eq_true (by omega)
        clear c14
        (first | rw [c14b0] | (simp only [i64_w, i32_w]; rw [c14b0]) | skip)
        have H' := Aside0.mk H
        clear H
        have hcz15_0 : wc.cell? ⟨gb137, 0, none⟩ = some (.string a0_0) := (blk_cell BK137.out 0).trans rfl
        have hcz15_1 : wc.cell? ⟨gb137, 1, none⟩ = some (.int .i64 a0_1) := (blk_cell BK137.out 1).trans rfl
        have hcz15_2 : wc.cell? ⟨gb137, 2, none⟩ = some (.slice A0_2 l0_2.length c0_2) := (blk_cell BK137.out 2).trans rfl
        have hcz15_3 : wc.cell? ⟨gb137, 3, none⟩ = some (.int .i64 a0_3) := (blk_cell BK137.out 3).trans rfl
        have hcz15_4 : wc.cell? ⟨gb137, 4, none⟩ = some (.slice A0_4 l0_4.length c0_4) := (blk_cell BK137.out 4).trans rfl
        have hcz15_5 : wc.cell? ⟨gb137, 5, none⟩ = some (.int .i64 a0_5) := (blk_cell BK137.out 5).trans rfl
        have hfz15_0 := blk_frozen BK137.out 0
        have hfz15_1 := blk_frozen BK137.out 1
        have hfz15_2 := blk_frozen BK137.out 2
        have hfz15_3 := blk_frozen BK137.out 3
        have hfz15_4 := blk_frozen BK137.out 4
        have hfz15_5 := blk_frozen BK137.out 5
        go_wp2
        go_meet
        case rel => exact ⟨_, (true), (by first | rfl | (simp; done) | (simp [*]; done)), H', ⟨by have := HJ4.out; first | omega | exact Nat.le_refl _⟩, ⟨by (with_reducible repeat (first | refine blk_drewN ?_ _ | refine blk_drew ?_ | refine blk_alloc ?_ _)); exact BK137.out⟩, ⟨by repeat (first | (with_reducible first | exact HB.out | apply below_alloc | apply pw_below_drewN | apply below_drew1 | refine below_set ?_ GE137.out) | exact HB.out)⟩⟩
       ·rw [if_neg c14] at H
        have c14b0 : decide ((l0_2.length : Int) < 1) = false := decide_eq_false c14
        have c14b1 : decide (l0_2.length < 1) = false := decide_eq_false (by omega)
        clear c14
        (first | rw [c14b0] | (simp only [i64_w, i32_w]; rw [c14b0]) | skip)
        have H' := Aside0.mk H
        clear H
        have hcz16_0 : wc.cell? ⟨gb137, 0, none⟩ = some (.string a0_0) := (blk_cell BK137.out 0).trans rfl
        have hcz16_1 : wc.cell? ⟨gb137, 1, none⟩ = some (.int .i64 a0_1) := (blk_cell BK137.out 1).trans rfl
        have hcz16_2 : wc.cell? ⟨gb137, 2, none⟩ = some (.slice A0_2 l0_2.length c0_2) := (blk_cell BK137.out 2).trans rfl
        have hcz16_3 : wc.cell? ⟨gb137, 3, none⟩ = some (.int .i64 a0_3) := (blk_cell BK137.out 3).trans rfl
        have hcz16_4 : wc.cell? ⟨gb137, 4, none⟩ = some (.slice A0_4 l0_4.length c0_4) := (blk_cell BK137.out 4).trans rfl
        have hcz16_5 : wc.cell? ⟨gb137, 5, none⟩ = some (.int .i64 a0_5) := (blk_cell BK137.out 5).trans rfl
        have hfz16_0 := blk_frozen BK137.out 0
        have hfz16_1 := blk_frozen BK137.out 1
        have hfz16_2 := blk_frozen BK137.out 2
        have hfz16_3 := blk_frozen BK137.out 3
        have hfz16_4 := blk_frozen BK137.out 4
        have hfz16_5 := blk_frozen BK137.out 5
        go_wp2
        go_meet
        case rel => exact ⟨_, (decide ((l0_2.length : Int) > 64)), (by first | rfl | (simp; done) | (simp [*]; done)), H', ⟨by have := HJ4.out; first | omega | exact Nat.le_refl _⟩, ⟨by (with_reducible repeat (first | refine blk_drewN ?_ _ | refine blk_drew ?_ | refine blk_alloc ?_ _)); exact BK137.out⟩, ⟨by repeat (first | (with_reducible first | exact HB.out | apply below_alloc | apply pw_below_drewN | apply below_drew1 | refine below_set ?_ GE137.out) | exact HB.out)⟩⟩
      ·replace c13 := Bool.eq_false_iff.mpr c13
       subst c13
       have H1 : (forebayref07_Rest.j1 kj4 true a0_0 a0_1 l0_2 a0_3 l0_4 a0_5) = some r := by rw [if_neg (show ¬ (false = true) by decide)] at H; exact H
       clear H
       have H := H1
       clear H1
       have H' := Aside0.mk H
       clear H
       go_wp2
       go_meet
       case rel => exact ⟨_, (true), (by first | rfl | (simp; done) | (simp [*]; done)), H', ⟨by have := HJ4.out; first | omega | exact Nat.le_refl _⟩, ⟨by (with_reducible repeat (first | refine blk_drewN ?_ _ | refine blk_drew ?_ | refine blk_alloc ?_ _)); exact BK137.out⟩, ⟨by repeat (first | (with_reducible first | exact HB.out | apply below_alloc | apply pw_below_drewN | apply below_drew1 | refine below_set ?_ GE137.out) | exact HB.out)⟩⟩
     case rest =>
      clear HC12
      try clear c1
      try clear p2
      try clear c4
      try clear c8
      try clear c8b0
      try clear c11
      try clear c12
      try clear c13
      try clear c14
      try clear c14b0
      try clear c14b1
      try clear hcz10_0
      try clear hcz10_1
      try clear hcz10_2
      try clear hcz10_3
      try clear hcz10_4
      try clear hcz10_5
      try clear hcz15_0
      try clear hcz15_1
      try clear hcz15_2
      try clear hcz15_3
      try clear hcz15_4
      try clear hcz15_5
      try clear hcz16_0
      try clear hcz16_1
      try clear hcz16_2
      try clear hcz16_3
      try clear hcz16_4
      try clear hcz16_5
      try clear hcz7_0
      try clear hcz7_1
      try clear hcz7_2
      try clear hcz7_3
      try clear hcz7_4
      try clear hcz7_5
      try clear hcz9_0
      try clear hcz9_1
      try clear hcz9_2
      try clear hcz9_3
      try clear hcz9_4
      try clear hcz9_5
      try clear hfz10_0
      try clear hfz10_1
      try clear hfz10_2
      try clear hfz10_3
      try clear hfz10_4
      try clear hfz10_5
      try clear hfz15_0
      try clear hfz15_1
      try clear hfz15_2
      try clear hfz15_3
      try clear hfz15_4
      try clear hfz15_5
      try clear hfz16_0
      try clear hfz16_1
      try clear hfz16_2
      try clear hfz16_3
      try clear hfz16_4
      try clear hfz16_5
      try clear hfz7_0
      try clear hfz7_1
      try clear hfz7_2
      try clear hfz7_3
      try clear hfz7_4
      try clear hfz7_5
      try clear hfz9_0
      try clear hfz9_1
      try clear hfz9_2
      try clear hfz9_3
      try clear hfz9_4
      try clear hfz9_5
      try clear p2
      obtain ⟨kq, x31_11, rfl, HA, HJ11, BK137, HB⟩ := hcut
      cases kq with
      | zero => exact absurd HA.out (by simp [forebayref07_Rest.j1])
      | succ kj11 =>
       have H := HA.out
       clear HA
       simp only [forebayref07_Rest.j1] at H
       by_cases c17 : x31_11 = true
       ·subst c17
        have H1 : (some 17) = some r := by rw [if_pos rfl] at H; exact H
        clear H
        have H := H1
        clear H1
        obtain rfl := Option.some.inj H
        go_wp2
        go_ret
        exact ⟨by first | rfl | (simp [errW_none, errW_some] <;> rfl) | (simp [*, errW_none, errW_some] <;> rfl), by repeat (first | (with_reducible first | exact HB.out | apply below_alloc | apply pw_below_drewN | apply below_drew1 | refine below_set ?_ GE137.out) | exact HB.out)⟩
       ·replace c17 := Bool.eq_false_iff.mpr c17
        subst c17
        have H1 : (if a0_3 < 1 then (forebayref07_Rest.j2 kj11 true a0_0 a0_1 l0_2 a0_3 l0_4 a0_5) else (if a0_3 > 1000000 then (forebayref07_Rest.j2 kj11 true a0_0 a0_1 l0_2 a0_3 l0_4 a0_5) else (if a0_1 = 2 then (forebayref07_Rest.j2 kj11 (a0_3 != 1000000) a0_0 a0_1 l0_2 a0_3 l0_4 a0_5) else (forebayref07_Rest.j2 kj11 false a0_0 a0_1 l0_2 a0_3 l0_4 a0_5)))) = some r := by rw [if_neg (show ¬ (false = true) by decide)] at H; exact H
        clear H
        have H := H1
        clear H1
        have HC18 := Aside0.mk H
        clear H
        go_upto_region 7 with (fail)
        go_cut [49] (fun v49 wc => ∃ (kq : Nat) (x49_17 : Bool), v49 = .bool x49_17 ∧ Aside0 (forebayref07_Rest.j2 kq x49_17 a0_0 a0_1 l0_2 a0_3 l0_4 a0_5 = some r) ∧ Aside0 (kq ≤ kj11) ∧ Aside0 (wc.heap[gb137]? = some (.cells #[.string a0_0, .int .i64 a0_1, (.slice A0_2 l0_2.length c0_2), .int .i64 a0_3, (.slice A0_4 l0_4.length c0_4), .int .i64 a0_5] 26 (0, 0))) ∧ Aside0 (Below w.heap.size w wc))
        case first =>
         have H := HC18.out
         clear HC18
         by_cases c19 : a0_3 < 1
         ·rw [if_pos c19] at H
          have c19b0 : decide (a0_3 < 1) = true := decide_eq_true c19
          clear c19
          (first | rw [c19b0] | (simp only [i64_w, i32_w]; rw [c19b0]) | skip)
          have H' := Aside0.mk H
          clear H
          have hcz20_0 : wc.cell? ⟨gb137, 0, none⟩ = some (.string a0_0) := (blk_cell BK137.out 0).trans rfl
          have hcz20_1 : wc.cell? ⟨gb137, 1, none⟩ = some (.int .i64 a0_1) := (blk_cell BK137.out 1).trans rfl
          have hcz20_2 : wc.cell? ⟨gb137, 2, none⟩ = some (.slice A0_2 l0_2.length c0_2) := (blk_cell BK137.out 2).trans rfl
          have hcz20_3 : wc.cell? ⟨gb137, 3, none⟩ = some (.int .i64 a0_3) := (blk_cell BK137.out 3).trans rfl
          have hcz20_4 : wc.cell? ⟨gb137, 4, none⟩ = some (.slice A0_4 l0_4.length c0_4) := (blk_cell BK137.out 4).trans rfl
          have hcz20_5 : wc.cell? ⟨gb137, 5, none⟩ = some (.int .i64 a0_5) := (blk_cell BK137.out 5).trans rfl
          have hfz20_0 := blk_frozen BK137.out 0
          have hfz20_1 := blk_frozen BK137.out 1
          have hfz20_2 := blk_frozen BK137.out 2
          have hfz20_3 := blk_frozen BK137.out 3
          have hfz20_4 := blk_frozen BK137.out 4
          have hfz20_5 := blk_frozen BK137.out 5
          go_wp2
          go_meet
          case rel => exact ⟨_, (true), (by first | rfl | (simp; done) | (simp [*]; done)), H', ⟨by have := HJ4.out; have := HJ11.out; first | omega | exact Nat.le_refl _⟩, ⟨by (with_reducible repeat (first | refine blk_drewN ?_ _ | refine blk_drew ?_ | refine blk_alloc ?_ _)); exact BK137.out⟩, ⟨by repeat (first | (with_reducible first | exact HB.out | apply below_alloc | apply pw_below_drewN | apply below_drew1 | refine below_set ?_ GE137.out) | exact HB.out)⟩⟩
         ·rw [if_neg c19] at H
          have c19b0 : decide (a0_3 < 1) = false := decide_eq_false c19
          clear c19
          (first | rw [c19b0] | (simp only [i64_w, i32_w]; rw [c19b0]) | skip)
          by_cases c21 : a0_3 > 1000000
          ·rw [if_pos c21] at H
           have c21b0 : decide (1000000 < a0_3) = true := decide_eq_true c21
           clear c21
           have H' := Aside0.mk H
           clear H
           have hcz22_0 : wc.cell? ⟨gb137, 0, none⟩ = some (.string a0_0) := (blk_cell BK137.out 0).trans rfl
           have hcz22_1 : wc.cell? ⟨gb137, 1, none⟩ = some (.int .i64 a0_1) := (blk_cell BK137.out 1).trans rfl
           have hcz22_2 : wc.cell? ⟨gb137, 2, none⟩ = some (.slice A0_2 l0_2.length c0_2) := (blk_cell BK137.out 2).trans rfl
           have hcz22_3 : wc.cell? ⟨gb137, 3, none⟩ = some (.int .i64 a0_3) := (blk_cell BK137.out 3).trans rfl
           have hcz22_4 : wc.cell? ⟨gb137, 4, none⟩ = some (.slice A0_4 l0_4.length c0_4) := (blk_cell BK137.out 4).trans rfl
           have hcz22_5 : wc.cell? ⟨gb137, 5, none⟩ = some (.int .i64 a0_5) := (blk_cell BK137.out 5).trans rfl
           have hfz22_0 := blk_frozen BK137.out 0
           have hfz22_1 := blk_frozen BK137.out 1
           have hfz22_2 := blk_frozen BK137.out 2
           have hfz22_3 := blk_frozen BK137.out 3
           have hfz22_4 := blk_frozen BK137.out 4
           have hfz22_5 := blk_frozen BK137.out 5
           go_wp2
           go_meet
           case rel => exact ⟨_, (true), (by first | rfl | (simp; done) | (simp [*]; done)), H', ⟨by have := HJ4.out; have := HJ11.out; first | omega | exact Nat.le_refl _⟩, ⟨by (with_reducible repeat (first | refine blk_drewN ?_ _ | refine blk_drew ?_ | refine blk_alloc ?_ _)); exact BK137.out⟩, ⟨by repeat (first | (with_reducible first | exact HB.out | apply below_alloc | apply pw_below_drewN | apply below_drew1 | refine below_set ?_ GE137.out) | exact HB.out)⟩⟩
          ·rw [if_neg c21] at H
           have c21b0 : decide (1000000 < a0_3) = false := decide_eq_false c21
           clear c21
           by_cases c23 : a0_1 = 2
           ·rw [if_pos c23] at H
            have c23b0 : (a0_1 == 2) = true := beq_iff_eq.mpr c23
            have c23b1 : (a0_1 != 2) = false := bne_eq_false_iff_eq.mpr c23
            clear c23
            have H' := Aside0.mk H
            clear H
            have hcz24_0 : wc.cell? ⟨gb137, 0, none⟩ = some (.string a0_0) := (blk_cell BK137.out 0).trans rfl
            have hcz24_1 : wc.cell? ⟨gb137, 1, none⟩ = some (.int .i64 a0_1) := (blk_cell BK137.out 1).trans rfl
            have hcz24_2 : wc.cell? ⟨gb137, 2, none⟩ = some (.slice A0_2 l0_2.length c0_2) := (blk_cell BK137.out 2).trans rfl
            have hcz24_3 : wc.cell? ⟨gb137, 3, none⟩ = some (.int .i64 a0_3) := (blk_cell BK137.out 3).trans rfl
            have hcz24_4 : wc.cell? ⟨gb137, 4, none⟩ = some (.slice A0_4 l0_4.length c0_4) := (blk_cell BK137.out 4).trans rfl
            have hcz24_5 : wc.cell? ⟨gb137, 5, none⟩ = some (.int .i64 a0_5) := (blk_cell BK137.out 5).trans rfl
            have hfz24_0 := blk_frozen BK137.out 0
            have hfz24_1 := blk_frozen BK137.out 1
            have hfz24_2 := blk_frozen BK137.out 2
            have hfz24_3 := blk_frozen BK137.out 3
            have hfz24_4 := blk_frozen BK137.out 4
            have hfz24_5 := blk_frozen BK137.out 5
            go_wp2
            go_meet
            case rel => exact ⟨_, ((a0_3 != 1000000)), (by first | rfl | (simp; done) | (simp [*]; done)), H', ⟨by have := HJ4.out; have := HJ11.out; first | omega | exact Nat.le_refl _⟩, ⟨by (with_reducible repeat (first | refine blk_drewN ?_ _ | refine blk_drew ?_ | refine blk_alloc ?_ _)); exact BK137.out⟩, ⟨by repeat (first | (with_reducible first | exact HB.out | apply below_alloc | apply pw_below_drewN | apply below_drew1 | refine below_set ?_ GE137.out) | exact HB.out)⟩⟩
           ·rw [if_neg c23] at H
            have c23b0 : (a0_1 == 2) = false := beq_eq_false_iff_ne.mpr c23
            have c23b1 : (a0_1 != 2) = true := bne_iff_ne.mpr c23
            have H' := Aside0.mk H
            clear H
            have hcz25_0 : wc.cell? ⟨gb137, 0, none⟩ = some (.string a0_0) := (blk_cell BK137.out 0).trans rfl
            have hcz25_1 : wc.cell? ⟨gb137, 1, none⟩ = some (.int .i64 a0_1) := (blk_cell BK137.out 1).trans rfl
            have hcz25_2 : wc.cell? ⟨gb137, 2, none⟩ = some (.slice A0_2 l0_2.length c0_2) := (blk_cell BK137.out 2).trans rfl
            have hcz25_3 : wc.cell? ⟨gb137, 3, none⟩ = some (.int .i64 a0_3) := (blk_cell BK137.out 3).trans rfl
            have hcz25_4 : wc.cell? ⟨gb137, 4, none⟩ = some (.slice A0_4 l0_4.length c0_4) := (blk_cell BK137.out 4).trans rfl
            have hcz25_5 : wc.cell? ⟨gb137, 5, none⟩ = some (.int .i64 a0_5) := (blk_cell BK137.out 5).trans rfl
            have hfz25_0 := blk_frozen BK137.out 0
            have hfz25_1 := blk_frozen BK137.out 1
            have hfz25_2 := blk_frozen BK137.out 2
            have hfz25_3 := blk_frozen BK137.out 3
            have hfz25_4 := blk_frozen BK137.out 4
            have hfz25_5 := blk_frozen BK137.out 5
            go_wp2
            go_meet
            case rel => exact ⟨_, (false), (by first | rfl | (simp; done) | (simp [*]; done)), H', ⟨by have := HJ4.out; have := HJ11.out; first | omega | exact Nat.le_refl _⟩, ⟨by (with_reducible repeat (first | refine blk_drewN ?_ _ | refine blk_drew ?_ | refine blk_alloc ?_ _)); exact BK137.out⟩, ⟨by repeat (first | (with_reducible first | exact HB.out | apply below_alloc | apply pw_below_drewN | apply below_drew1 | refine below_set ?_ GE137.out) | exact HB.out)⟩⟩
        case rest =>
         clear HC18
         try clear c1
         try clear c2
         try clear p2
         try clear c4
         try clear c8
         try clear c8b0
         try clear c11
         try clear c12
         try clear c13
         try clear c14
         try clear c14b0
         try clear c14b1
         try clear c17
         try clear c19
         try clear c19b0
         try clear c21
         try clear c21b0
         try clear c23
         try clear c23b0
         try clear c23b1
         try clear hcz10_0
         try clear hcz10_1
         try clear hcz10_2
         try clear hcz10_3
         try clear hcz10_4
         try clear hcz10_5
         try clear hcz15_0
         try clear hcz15_1
         try clear hcz15_2
         try clear hcz15_3
         try clear hcz15_4
         try clear hcz15_5
         try clear hcz16_0
         try clear hcz16_1
         try clear hcz16_2
         try clear hcz16_3
         try clear hcz16_4
         try clear hcz16_5
         try clear hcz20_0
         try clear hcz20_1
         try clear hcz20_2
         try clear hcz20_3
         try clear hcz20_4
         try clear hcz20_5
         try clear hcz22_0
         try clear hcz22_1
         try clear hcz22_2
         try clear hcz22_3
         try clear hcz22_4
         try clear hcz22_5
         try clear hcz24_0
         try clear hcz24_1
         try clear hcz24_2
         try clear hcz24_3
         try clear hcz24_4
         try clear hcz24_5
         try clear hcz25_0
         try clear hcz25_1
         try clear hcz25_2
         try clear hcz25_3
         try clear hcz25_4
         try clear hcz25_5
         try clear hcz7_0
         try clear hcz7_1
         try clear hcz7_2
         try clear hcz7_3
         try clear hcz7_4
         try clear hcz7_5
         try clear hcz9_0
         try clear hcz9_1
         try clear hcz9_2
         try clear hcz9_3
         try clear hcz9_4
         try clear hcz9_5
         try clear hfz10_0
         try clear hfz10_1
         try clear hfz10_2
         try clear hfz10_3
         try clear hfz10_4
         try clear hfz10_5
         try clear hfz15_0
         try clear hfz15_1
         try clear hfz15_2
         try clear hfz15_3
         try clear hfz15_4
         try clear hfz15_5
         try clear hfz16_0
         try clear hfz16_1
         try clear hfz16_2
         try clear hfz16_3
         try clear hfz16_4
         try clear hfz16_5
         try clear hfz20_0
         try clear hfz20_1
         try clear hfz20_2
         try clear hfz20_3
         try clear hfz20_4
         try clear hfz20_5
         try clear hfz22_0
         try clear hfz22_1
         try clear hfz22_2
         try clear hfz22_3
         try clear hfz22_4
         try clear hfz22_5
         try clear hfz24_0
         try clear hfz24_1
         try clear hfz24_2
         try clear hfz24_3
         try clear hfz24_4
         try clear hfz24_5
         try clear hfz25_0
         try clear hfz25_1
         try clear hfz25_2
         try clear hfz25_3
         try clear hfz25_4
         try clear hfz25_5
         try clear hfz7_0
         try clear hfz7_1
         try clear hfz7_2
         try clear hfz7_3
         try clear hfz7_4
         try clear hfz7_5
         try clear hfz9_0
         try clear hfz9_1
         try clear hfz9_2
         try clear hfz9_3
         try clear hfz9_4
         try clear hfz9_5
         try clear p2
         obtain ⟨kq, x49_17, rfl, HA, HJ17, BK137, HB⟩ := hcut
         cases kq with
         | zero => exact absurd HA.out (by simp [forebayref07_Rest.j2])
         | succ kj17 =>
          have H := HA.out
          clear HA
          simp only [forebayref07_Rest.j2] at H
          by_cases c26 : x49_17 = true
          ·subst c26
           have H1 : (some 18) = some r := by rw [if_pos rfl] at H; exact H
           clear H
           have H := H1
           clear H1
           obtain rfl := Option.some.inj H
           go_wp2
           go_ret
           exact ⟨by first | rfl | (simp [errW_none, errW_some] <;> rfl) | (simp [*, errW_none, errW_some] <;> rfl), by repeat (first | (with_reducible first | exact HB.out | apply below_alloc | apply pw_below_drewN | apply below_drew1 | refine below_set ?_ GE137.out) | exact HB.out)⟩
          ·replace c26 := Bool.eq_false_iff.mpr c26
           subst c26
           have H1 : (if (l0_4.length : Int) > 32 then (some 19) else (forebayref07_Rest.l0 kj17 0 a0_0 a0_1 l0_2 a0_3 l0_4 a0_5)) = some r := by rw [if_neg (show ¬ (false = true) by decide)] at H; exact H
           clear H
           have H := H1
           clear H1
           by_cases c27 : (l0_4.length : Int) > 32
           ·rw [if_pos c27] at H
            have c27b0 : decide (32 < (l0_4.length : Int)) = true := decide_eq_true c27
            have c27b1 : decide (32 < l0_4.length) = true := decide_eq_true (by omega)
            clear c27
            obtain rfl := Option.some.inj H
            have hcz28_0 : wc.cell? ⟨gb137, 0, none⟩ = some (.string a0_0) := (blk_cell BK137.out 0).trans rfl
            have hcz28_1 : wc.cell? ⟨gb137, 1, none⟩ = some (.int .i64 a0_1) := (blk_cell BK137.out 1).trans rfl
            have hcz28_2 : wc.cell? ⟨gb137, 2, none⟩ = some (.slice A0_2 l0_2.length c0_2) := (blk_cell BK137.out 2).trans rfl
            have hcz28_3 : wc.cell? ⟨gb137, 3, none⟩ = some (.int .i64 a0_3) := (blk_cell BK137.out 3).trans rfl
            have hcz28_4 : wc.cell? ⟨gb137, 4, none⟩ = some (.slice A0_4 l0_4.length c0_4) := (blk_cell BK137.out 4).trans rfl
            have hcz28_5 : wc.cell? ⟨gb137, 5, none⟩ = some (.int .i64 a0_5) := (blk_cell BK137.out 5).trans rfl
            have hfz28_0 := blk_frozen BK137.out 0
            have hfz28_1 := blk_frozen BK137.out 1
            have hfz28_2 := blk_frozen BK137.out 2
            have hfz28_3 := blk_frozen BK137.out 3
            have hfz28_4 := blk_frozen BK137.out 4
            have hfz28_5 := blk_frozen BK137.out 5
            go_wp2
            go_ret
            exact ⟨by first | rfl | (simp [errW_none, errW_some] <;> rfl) | (simp [*, errW_none, errW_some] <;> rfl), by repeat (first | (with_reducible first | exact HB.out | apply below_alloc | apply pw_below_drewN | apply below_drew1 | refine below_set ?_ GE137.out) | exact HB.out)⟩
           ·rw [if_neg c27] at H
            have c27b0 : decide (32 < (l0_4.length : Int)) = false := decide_eq_false c27
            have c27b1 : decide (32 < l0_4.length) = false := decide_eq_false (by omega)
            clear c27
            have H' := Aside0.mk H
            clear H
            have hcz29_0 : wc.cell? ⟨gb137, 0, none⟩ = some (.string a0_0) := (blk_cell BK137.out 0).trans rfl
            have hcz29_1 : wc.cell? ⟨gb137, 1, none⟩ = some (.int .i64 a0_1) := (blk_cell BK137.out 1).trans rfl
            have hcz29_2 : wc.cell? ⟨gb137, 2, none⟩ = some (.slice A0_2 l0_2.length c0_2) := (blk_cell BK137.out 2).trans rfl
            have hcz29_3 : wc.cell? ⟨gb137, 3, none⟩ = some (.int .i64 a0_3) := (blk_cell BK137.out 3).trans rfl
            have hcz29_4 : wc.cell? ⟨gb137, 4, none⟩ = some (.slice A0_4 l0_4.length c0_4) := (blk_cell BK137.out 4).trans rfl
            have hcz29_5 : wc.cell? ⟨gb137, 5, none⟩ = some (.int .i64 a0_5) := (blk_cell BK137.out 5).trans rfl
            have hfz29_0 := blk_frozen BK137.out 0
            have hfz29_1 := blk_frozen BK137.out 1
            have hfz29_2 := blk_frozen BK137.out 2
            have hfz29_3 := blk_frozen BK137.out 3
            have hfz29_4 := blk_frozen BK137.out 4
            have hfz29_5 := blk_frozen BK137.out 5
            go_wp2
            go_loopg [5] kj17 (fun kq v5 w' => ∃ (x5_4 : Int), v5 = .int .i64 x5_4 ∧ Aside0 (forebayref07_Rest.l0 kq x5_4 a0_0 a0_1 l0_2 a0_3 l0_4 a0_5 = some r) ∧ Aside0 (kq ≤ kj17) ∧ Aside0 (w'.heap[gb137]? = some (.cells #[.string a0_0, .int .i64 a0_1, (.slice A0_2 l0_2.length c0_2), .int .i64 a0_3, (.slice A0_4 l0_4.length c0_4), .int .i64 a0_5] 26 (0, 0))) ∧ Aside0 (Below w.heap.size w w'))
            case atStart => exact ⟨(0), (by first | rfl | (simp; done) | (simp [*]; done)), H', ⟨Nat.le_refl _⟩, ⟨by (with_reducible repeat (first | refine blk_drewN ?_ _ | refine blk_drew ?_ | refine blk_alloc ?_ _)); exact BK137.out⟩, ⟨by repeat (first | (with_reducible first | exact HB.out | apply below_alloc | apply pw_below_drewN | apply below_drew1 | refine below_set ?_ GE137.out) | exact HB.out)⟩⟩
            case round =>
             clear H'
             try clear c1
             try clear c2
             try clear p2
             try clear c4
             try clear c8
             try clear c8b0
             try clear c11
             try clear c12
             try clear c13
             try clear c14
             try clear c14b0
             try clear c14b1
             try clear c17
             try clear c19
             try clear c19b0
             try clear c21
             try clear c21b0
             try clear c23
             try clear c23b0
             try clear c23b1
             try clear c26
             try clear c27
             try clear c27b0
             try clear c27b1
             try clear hcz10_0
             try clear hcz10_1
             try clear hcz10_2
             try clear hcz10_3
             try clear hcz10_4
             try clear hcz10_5
             try clear hcz15_0
             try clear hcz15_1
             try clear hcz15_2
             try clear hcz15_3
             try clear hcz15_4
             try clear hcz15_5
             try clear hcz16_0
             try clear hcz16_1
             try clear hcz16_2
             try clear hcz16_3
             try clear hcz16_4
             try clear hcz16_5
             try clear hcz20_0
             try clear hcz20_1
             try clear hcz20_2
             try clear hcz20_3
             try clear hcz20_4
             try clear hcz20_5
             try clear hcz22_0
             try clear hcz22_1
             try clear hcz22_2
             try clear hcz22_3
             try clear hcz22_4
             try clear hcz22_5
             try clear hcz24_0
             try clear hcz24_1
             try clear hcz24_2
             try clear hcz24_3
             try clear hcz24_4
             try clear hcz24_5
             try clear hcz25_0
             try clear hcz25_1
             try clear hcz25_2
             try clear hcz25_3
             try clear hcz25_4
             try clear hcz25_5
             try clear hcz28_0
             try clear hcz28_1
             try clear hcz28_2
             try clear hcz28_3
             try clear hcz28_4
             try clear hcz28_5
             try clear hcz29_0
             try clear hcz29_1
             try clear hcz29_2
             try clear hcz29_3
             try clear hcz29_4
             try clear hcz29_5
             try clear hcz7_0
             try clear hcz7_1
             try clear hcz7_2
             try clear hcz7_3
             try clear hcz7_4
             try clear hcz7_5
             try clear hcz9_0
             try clear hcz9_1
             try clear hcz9_2
             try clear hcz9_3
             try clear hcz9_4
             try clear hcz9_5
             try clear hfz10_0
             try clear hfz10_1
             try clear hfz10_2
             try clear hfz10_3
             try clear hfz10_4
             try clear hfz10_5
             try clear hfz15_0
             try clear hfz15_1
             try clear hfz15_2
             try clear hfz15_3
             try clear hfz15_4
             try clear hfz15_5
             try clear hfz16_0
             try clear hfz16_1
             try clear hfz16_2
             try clear hfz16_3
             try clear hfz16_4
             try clear hfz16_5
             try clear hfz20_0
             try clear hfz20_1
             try clear hfz20_2
             try clear hfz20_3
             try clear hfz20_4
             try clear hfz20_5
             try clear hfz22_0
             try clear hfz22_1
             try clear hfz22_2
             try clear hfz22_3
             try clear hfz22_4
             try clear hfz22_5
             try clear hfz24_0
             try clear hfz24_1
             try clear hfz24_2
             try clear hfz24_3
             try clear hfz24_4
             try clear hfz24_5
             try clear hfz25_0
             try clear hfz25_1
             try clear hfz25_2
             try clear hfz25_3
             try clear hfz25_4
             try clear hfz25_5
             try clear hfz28_0
             try clear hfz28_1
             try clear hfz28_2
             try clear hfz28_3
             try clear hfz28_4
             try clear hfz28_5
             try clear hfz29_0
             try clear hfz29_1
             try clear hfz29_2
             try clear hfz29_3
             try clear hfz29_4
             try clear hfz29_5
             try clear hfz7_0
             try clear hfz7_1
             try clear hfz7_2
             try clear hfz7_3
             try clear hfz7_4
             try clear hfz7_5
             try clear hfz9_0
             try clear hfz9_1
             try clear hfz9_2
             try clear hfz9_3
             try clear hfz9_4
             try clear hfz9_5
             try clear p2
             obtain ⟨x5_4, rfl, HA, HK4, BK137, HB⟩ := hrel
             cases gk with
             | zero => exact absurd HA.out (by simp [forebayref07_Rest.l0])
             | succ k4 =>
              have H := HA.out
              clear HA
              simp only [forebayref07_Rest.l0] at H
              by_cases c30 : x5_4 < (l0_4.length : Int)
              ·rw [if_pos c30] at H
               have c30b0 : decide (x5_4 < (l0_4.length : Int)) = true := decide_eq_true c30
               clear c30
               by_cases c31 : 0 ≤ x5_4
               ·rw [if_pos c31] at H
                have c31b0 : decide (0 ≤ x5_4) = true := decide_eq_true c31
                clear c31
                replace H := Option.bind_eq_some_iff.mp H
                obtain ⟨t140, A320, H⟩ := H
                replace H : (if t140 = 0 then (forebayref07_Rest.l0 k4 (wrap64 (x5_4 + 1)) a0_0 a0_1 l0_2 a0_3 l0_4 a0_5) else (some 19)) = some r := H
                have A32 := Aside0.mk A320
                clear A320
                by_cases c33 : t140 = 0
                ·rw [if_pos c33] at H
                 have c33b0 : (t140 == 0) = true := beq_iff_eq.mpr c33
                 have c33b1 : (t140 != 0) = false := bne_eq_false_iff_eq.mpr c33
                 clear c33
                 have H' := Aside0.mk H
                 clear H
                 have hcz34_0 : wr.cell? ⟨gb137, 0, none⟩ = some (.string a0_0) := (blk_cell BK137.out 0).trans rfl
                 have hcz34_1 : wr.cell? ⟨gb137, 1, none⟩ = some (.int .i64 a0_1) := (blk_cell BK137.out 1).trans rfl
                 have hcz34_2 : wr.cell? ⟨gb137, 2, none⟩ = some (.slice A0_2 l0_2.length c0_2) := (blk_cell BK137.out 2).trans rfl
                 have hcz34_3 : wr.cell? ⟨gb137, 3, none⟩ = some (.int .i64 a0_3) := (blk_cell BK137.out 3).trans rfl
                 have hcz34_4 : wr.cell? ⟨gb137, 4, none⟩ = some (.slice A0_4 l0_4.length c0_4) := (blk_cell BK137.out 4).trans rfl
                 have hcz34_5 : wr.cell? ⟨gb137, 5, none⟩ = some (.int .i64 a0_5) := (blk_cell BK137.out 5).trans rfl
                 have hfz34_0 := blk_frozen BK137.out 0
                 have hfz34_1 := blk_frozen BK137.out 1
                 have hfz34_2 := blk_frozen BK137.out 2
                 have hfz34_3 := blk_frozen BK137.out 3
                 have hfz34_4 := blk_frozen BK137.out 4
                 have hfz34_5 := blk_frozen BK137.out 5
                 have p139 : 0 ≤ (x5_4 : Int) := of_decide_eq_true (by first | (with_reducible assumption) | assumption)
                 have q139 : x5_4 < (l0_4.length : Int) := of_decide_eq_true (by first | (with_reducible assumption) | assumption)
                 obtain ⟨ad139, e139, hx139_0, hx139_1⟩ := at_T81 HR0_4.out x5_4 p139 q139
                 cases e139
                 replace hx139_0 := (HB.out.cell (World.block_lt_of_cell? w _ hx139_0)).trans hx139_0
                 replace hx139_1 := (HB.out.cell (World.block_lt_of_cell? w _ hx139_1)).trans hx139_1
                 replace p139 := eq_true p139
                 replace q139 := eq_true q139
                 go_wp2_with (first | ((with_reducible refine gate_callee (f := 122) rfl ?_); refine goesL_ (some 66) rfl rfl Try.func122 (by kernel_rfl) rfl #[.agg #[.string ((rd_T81 l0_4 x5_4).f0), .string ((rd_T81 l0_4 x5_4).f1)]] rfl (by (try simp only [List.map_toArray, List.map_cons, List.map_nil]); first | done | rfl | (simp only [List.length_drop, List.length_take]; rfl)) ?_; (with_reducible refine (forebayref06_Check.calls ((rd_T81 l0_4 x5_4).f0) ((rd_T81 l0_4 x5_4).f1) t140 _ A32.out).mono ?_); rintro e w35 ⟨rfl, hb⟩; refine ⟨_, rfl, ?_⟩; have n0_ := Aside0.mk (blk_below (g := gb137) (o := .cells #[.string a0_0, .int .i64 a0_1, .slice A0_2 l0_2.length c0_2, .int .i64 a0_3, .slice (some ad139) l0_4.length c0_4, .int .i64 a0_5] 26 (0, 0)) (by (with_reducible repeat (first | refine blk_drewN ?_ _ | refine blk_drew ?_ | refine blk_alloc ?_ _)); exact BK137.out) hb); have n1_ := Aside0.mk (below_step (by repeat (first | (with_reducible first | exact HB.out | apply below_alloc | apply pw_below_drewN | apply below_drew1 | refine below_set ?_ GE137.out) | exact HB.out)) hb); clear BK137; clear HB; have BK137 := n0_; have HB := n1_; clear n0_ n1_; (try clear hb); (try clear hb2); (try clear hk); (try clear hi)))
                 go_roundg k4
                 case measure => have := HJ4.out; have := HJ11.out; have := HJ17.out; have := HK4.out; omega
                 case rel => exact ⟨(wrap64 (x5_4 + 1)), (by first | rfl | (simp; done) | (simp [*]; done)), H', ⟨by have := HJ4.out; have := HJ11.out; have := HJ17.out; have := HK4.out; omega⟩, ⟨by (with_reducible repeat (first | refine blk_drewN ?_ _ | refine blk_drew ?_ | refine blk_alloc ?_ _)); exact BK137.out⟩, ⟨by repeat (first | (with_reducible first | exact HB.out | apply below_alloc | apply pw_below_drewN | apply below_drew1 | refine below_set ?_ GE137.out) | exact HB.out)⟩⟩
                ·rw [if_neg c33] at H
                 have c33b0 : (t140 == 0) = false := beq_eq_false_iff_ne.mpr c33
                 have c33b1 : (t140 != 0) = true := bne_iff_ne.mpr c33
                 obtain rfl := Option.some.inj H
                 have hcz36_0 : wr.cell? ⟨gb137, 0, none⟩ = some (.string a0_0) := (blk_cell BK137.out 0).trans rfl
                 have hcz36_1 : wr.cell? ⟨gb137, 1, none⟩ = some (.int .i64 a0_1) := (blk_cell BK137.out 1).trans rfl
                 have hcz36_2 : wr.cell? ⟨gb137, 2, none⟩ = some (.slice A0_2 l0_2.length c0_2) := (blk_cell BK137.out 2).trans rfl
                 have hcz36_3 : wr.cell? ⟨gb137, 3, none⟩ = some (.int .i64 a0_3) := (blk_cell BK137.out 3).trans rfl
                 have hcz36_4 : wr.cell? ⟨gb137, 4, none⟩ = some (.slice A0_4 l0_4.length c0_4) := (blk_cell BK137.out 4).trans rfl
                 have hcz36_5 : wr.cell? ⟨gb137, 5, none⟩ = some (.int .i64 a0_5) := (blk_cell BK137.out 5).trans rfl
                 have hfz36_0 := blk_frozen BK137.out 0
                 have hfz36_1 := blk_frozen BK137.out 1
                 have hfz36_2 := blk_frozen BK137.out 2
                 have hfz36_3 := blk_frozen BK137.out 3
                 have hfz36_4 := blk_frozen BK137.out 4
                 have hfz36_5 := blk_frozen BK137.out 5
                 have p139 : 0 ≤ (x5_4 : Int) := of_decide_eq_true (by first | (with_reducible assumption) | assumption)
                 have q139 : x5_4 < (l0_4.length : Int) := of_decide_eq_true (by first | (with_reducible assumption) | assumption)
                 obtain ⟨ad139, e139, hx139_0, hx139_1⟩ := at_T81 HR0_4.out x5_4 p139 q139
                 cases e139
                 replace hx139_0 := (HB.out.cell (World.block_lt_of_cell? w _ hx139_0)).trans hx139_0
                 replace hx139_1 := (HB.out.cell (World.block_lt_of_cell? w _ hx139_1)).trans hx139_1
                 replace p139 := eq_true p139
                 replace q139 := eq_true q139
                 go_wp2_with (first | ((with_reducible refine gate_callee (f := 122) rfl ?_); refine goesL_ (some 66) rfl rfl Try.func122 (by kernel_rfl) rfl #[.agg #[.string ((rd_T81 l0_4 x5_4).f0), .string ((rd_T81 l0_4 x5_4).f1)]] rfl (by (try simp only [List.map_toArray, List.map_cons, List.map_nil]); first | done | rfl | (simp only [List.length_drop, List.length_take]; rfl)) ?_; (with_reducible refine (forebayref06_Check.calls ((rd_T81 l0_4 x5_4).f0) ((rd_T81 l0_4 x5_4).f1) t140 _ A32.out).mono ?_); rintro e w37 ⟨rfl, hb⟩; refine ⟨_, rfl, ?_⟩; have n0_ := Aside0.mk (blk_below (g := gb137) (o := .cells #[.string a0_0, .int .i64 a0_1, .slice A0_2 l0_2.length c0_2, .int .i64 a0_3, .slice (some ad139) l0_4.length c0_4, .int .i64 a0_5] 26 (0, 0)) (by (with_reducible repeat (first | refine blk_drewN ?_ _ | refine blk_drew ?_ | refine blk_alloc ?_ _)); exact BK137.out) hb); have n1_ := Aside0.mk (below_step (by repeat (first | (with_reducible first | exact HB.out | apply below_alloc | apply pw_below_drewN | apply below_drew1 | refine below_set ?_ GE137.out) | exact HB.out)) hb); clear BK137; clear HB; have BK137 := n0_; have HB := n1_; clear n0_ n1_; (try clear hb); (try clear hb2); (try clear hk); (try clear hi)))
                 go_ret
                 exact ⟨by first | rfl | (simp [errW_none, errW_some] <;> rfl) | (simp [*, errW_none, errW_some] <;> rfl), by repeat (first | (with_reducible first | exact HB.out | apply below_alloc | apply pw_below_drewN | apply below_drew1 | refine below_set ?_ GE137.out) | exact HB.out)⟩
               ·rw [if_neg c31] at H
                exact absurd H (by simp)
              ·rw [if_neg c30] at H
               have c30b0 : decide (x5_4 < (l0_4.length : Int)) = false := decide_eq_false c30
               clear c30
               by_cases c38 : a0_5 < 0
               ·rw [if_pos c38] at H
                have c38b0 : decide (a0_5 < 0) = true := decide_eq_true c38
                clear c38
                obtain rfl := Option.some.inj H
                have hcz39_0 : wr.cell? ⟨gb137, 0, none⟩ = some (.string a0_0) := (blk_cell BK137.out 0).trans rfl
                have hcz39_1 : wr.cell? ⟨gb137, 1, none⟩ = some (.int .i64 a0_1) := (blk_cell BK137.out 1).trans rfl
                have hcz39_2 : wr.cell? ⟨gb137, 2, none⟩ = some (.slice A0_2 l0_2.length c0_2) := (blk_cell BK137.out 2).trans rfl
                have hcz39_3 : wr.cell? ⟨gb137, 3, none⟩ = some (.int .i64 a0_3) := (blk_cell BK137.out 3).trans rfl
                have hcz39_4 : wr.cell? ⟨gb137, 4, none⟩ = some (.slice A0_4 l0_4.length c0_4) := (blk_cell BK137.out 4).trans rfl
                have hcz39_5 : wr.cell? ⟨gb137, 5, none⟩ = some (.int .i64 a0_5) := (blk_cell BK137.out 5).trans rfl
                have hfz39_0 := blk_frozen BK137.out 0
                have hfz39_1 := blk_frozen BK137.out 1
                have hfz39_2 := blk_frozen BK137.out 2
                have hfz39_3 := blk_frozen BK137.out 3
                have hfz39_4 := blk_frozen BK137.out 4
                have hfz39_5 := blk_frozen BK137.out 5
                go_wp2
                go_ret
                exact ⟨by first | rfl | (simp [errW_none, errW_some] <;> rfl) | (simp [*, errW_none, errW_some] <;> rfl), by repeat (first | (with_reducible first | exact HB.out | apply below_alloc | apply pw_below_drewN | apply below_drew1 | refine below_set ?_ GE137.out) | exact HB.out)⟩
               ·rw [if_neg c38] at H
                have c38b0 : decide (a0_5 < 0) = false := decide_eq_false c38
                clear c38
                by_cases c40 : a0_5 > 1099511627776
                ·rw [if_pos c40] at H
                 have c40b0 : decide (1099511627776 < a0_5) = true := decide_eq_true c40
                 clear c40
                 obtain rfl := Option.some.inj H
                 have hcz41_0 : wr.cell? ⟨gb137, 0, none⟩ = some (.string a0_0) := (blk_cell BK137.out 0).trans rfl
                 have hcz41_1 : wr.cell? ⟨gb137, 1, none⟩ = some (.int .i64 a0_1) := (blk_cell BK137.out 1).trans rfl
                 have hcz41_2 : wr.cell? ⟨gb137, 2, none⟩ = some (.slice A0_2 l0_2.length c0_2) := (blk_cell BK137.out 2).trans rfl
                 have hcz41_3 : wr.cell? ⟨gb137, 3, none⟩ = some (.int .i64 a0_3) := (blk_cell BK137.out 3).trans rfl
                 have hcz41_4 : wr.cell? ⟨gb137, 4, none⟩ = some (.slice A0_4 l0_4.length c0_4) := (blk_cell BK137.out 4).trans rfl
                 have hcz41_5 : wr.cell? ⟨gb137, 5, none⟩ = some (.int .i64 a0_5) := (blk_cell BK137.out 5).trans rfl
                 have hfz41_0 := blk_frozen BK137.out 0
                 have hfz41_1 := blk_frozen BK137.out 1
                 have hfz41_2 := blk_frozen BK137.out 2
                 have hfz41_3 := blk_frozen BK137.out 3
                 have hfz41_4 := blk_frozen BK137.out 4
                 have hfz41_5 := blk_frozen BK137.out 5
                 go_wp2
                 go_ret
                 exact ⟨by first | rfl | (simp [errW_none, errW_some] <;> rfl) | (simp [*, errW_none, errW_some] <;> rfl), by repeat (first | (with_reducible first | exact HB.out | apply below_alloc | apply pw_below_drewN | apply below_drew1 | refine below_set ?_ GE137.out) | exact HB.out)⟩
                ·rw [if_neg c40] at H
                 have c40b0 : decide (1099511627776 < a0_5) = false := decide_eq_false c40
                 clear c40
                 obtain rfl := Option.some.inj H
                 have hcz42_0 : wr.cell? ⟨gb137, 0, none⟩ = some (.string a0_0) := (blk_cell BK137.out 0).trans rfl
                 have hcz42_1 : wr.cell? ⟨gb137, 1, none⟩ = some (.int .i64 a0_1) := (blk_cell BK137.out 1).trans rfl
                 have hcz42_2 : wr.cell? ⟨gb137, 2, none⟩ = some (.slice A0_2 l0_2.length c0_2) := (blk_cell BK137.out 2).trans rfl
                 have hcz42_3 : wr.cell? ⟨gb137, 3, none⟩ = some (.int .i64 a0_3) := (blk_cell BK137.out 3).trans rfl
                 have hcz42_4 : wr.cell? ⟨gb137, 4, none⟩ = some (.slice A0_4 l0_4.length c0_4) := (blk_cell BK137.out 4).trans rfl
                 have hcz42_5 : wr.cell? ⟨gb137, 5, none⟩ = some (.int .i64 a0_5) := (blk_cell BK137.out 5).trans rfl
                 have hfz42_0 := blk_frozen BK137.out 0
                 have hfz42_1 := blk_frozen BK137.out 1
                 have hfz42_2 := blk_frozen BK137.out 2
                 have hfz42_3 := blk_frozen BK137.out 3
                 have hfz42_4 := blk_frozen BK137.out 4
                 have hfz42_5 := blk_frozen BK137.out 5
                 go_wp2
                 go_ret
                 exact ⟨by first | rfl | (simp [errW_none, errW_some] <;> rfl) | (simp [*, errW_none, errW_some] <;> rfl), by repeat (first | (with_reducible first | exact HB.out | apply below_alloc | apply pw_below_drewN | apply below_drew1 | refine below_set ?_ GE137.out) | exact HB.out)⟩
 ·replace c4 := Bool.eq_false_iff.mpr c4
  subst c4
  have H1 : (some 15) = some r := by rw [if_neg (show ¬ (false = true) by decide)] at H; exact H
  clear H
  have H := H1
  clear H1
  obtain rfl := Option.some.inj H
  go_enter Try.func87, Try.ntmps87
  go_wp2_with (first | ((with_reducible refine gate_dst (N := 2) rfl ?_); (try (refine gate_guard (by rfl) ?_; dsimp only)); refine box_event ?hg (N := 2) ?hd (cs := #[.string a0_0, .int .i64 a0_1, .slice A0_2 l0_2.length c0_2, .int .i64 a0_3, .slice A0_4 l0_4.length c0_4, .int .i64 a0_5]) (t := 26) ?hr ?_; (case hd => rfl); (case hg => rfl); (case hr => first | (go_simp; done) | (go_simp; rfl)); intro gb137 hg w43 hbox hb; have n0_ := Aside0.mk (below_step (by repeat (first | (with_reducible first | exact HB.out | apply below_alloc | apply pw_below_drewN | apply below_drew1) | exact HB.out)) hb); have n1_ := Aside0.mk (hbox); have n2_ := Aside0.mk ((by rw [hg]; exact (below_size (by repeat (first | (with_reducible first | exact HB.out | apply below_alloc | apply pw_below_drewN | apply below_drew1) | exact HB.out))) : w.heap.size ≤ gb137)); have n3_ := Aside0.mk ((by rw [hg]; exact (below_size (by repeat (first | (with_reducible first | exact HB.out | apply below_alloc | apply pw_below_drewN | apply below_drew1) | exact HB.out))) : w.heap.size ≤ gb137)); clear HB; have HB := n0_; have BK137 := n1_; have GW137 := n2_; have GE137 := n3_; clear n0_ n1_ n2_ n3_; clear hb hbox hg; have hcz44_0 : w43.cell? ⟨gb137, 0, none⟩ = some (.string a0_0) := (blk_cell BK137.out 0).trans rfl; have hcz44_1 : w43.cell? ⟨gb137, 1, none⟩ = some (.int .i64 a0_1) := (blk_cell BK137.out 1).trans rfl; have hcz44_2 : w43.cell? ⟨gb137, 2, none⟩ = some (.slice A0_2 l0_2.length c0_2) := (blk_cell BK137.out 2).trans rfl; have hcz44_3 : w43.cell? ⟨gb137, 3, none⟩ = some (.int .i64 a0_3) := (blk_cell BK137.out 3).trans rfl; have hcz44_4 : w43.cell? ⟨gb137, 4, none⟩ = some (.slice A0_4 l0_4.length c0_4) := (blk_cell BK137.out 4).trans rfl; have hcz44_5 : w43.cell? ⟨gb137, 5, none⟩ = some (.int .i64 a0_5) := (blk_cell BK137.out 5).trans rfl; have hfz44_0 := blk_frozen BK137.out 0; have hfz44_1 := blk_frozen BK137.out 1; have hfz44_2 := blk_frozen BK137.out 2; have hfz44_3 := blk_frozen BK137.out 3; have hfz44_4 := blk_frozen BK137.out 4; have hfz44_5 := blk_frozen BK137.out 5) | ((with_reducible refine gate_callee (f := 121) rfl ?_); refine goesL_ (some 8) rfl rfl Try.func121 (by kernel_rfl) rfl #[.string a0_0] rfl (by (try simp only [List.map_toArray, List.map_cons, List.map_nil]); first | done | rfl | (simp only [List.length_drop, List.length_take]; rfl)) ?_; (with_reducible refine (forebayref07_Name.calls k a0_0 false _ A3.out).mono ?_); rintro e w' ⟨rfl, ⟨nd, rfl⟩⟩; refine ⟨_, rfl, ?_⟩))
  go_ret
  exact ⟨by first | rfl | (simp [errW_none, errW_some] <;> rfl) | (simp [*, errW_none, errW_some] <;> rfl), by repeat (first | (with_reducible first | exact HB.out | apply below_alloc | apply pw_below_drewN | apply below_drew1 | refine below_set ?_ GE137.out) | exact HB.out)⟩
/-! ### forebayref07_Check: function 42 -/
def forebayref07_Check.l0 : Nat → Bool → Int → ByteArray → Int → List (S48) → Int → List (S81) → Int → Option (Int)
 | 0, _, _, _, _, _, _, _, _ => none
 | k + 1, x3, x4, x142000, x142001, x142002, x142003, x142004, x142005 => if x4 < (x142002.length : Int) then (if x3 = true then (if 0 ≤ x4 then ((forebayref03_Check.f k ((rd_T48 x142002 x4).f0) ((rd_T48 x142002 x4).f1) ((rd_T48 x142002 x4).f2)).bind fun t143 => (forebayref07_Check.l0 k (t143 == 0) (wrap64 (x4 + 1)) x142000 x142001 x142002 x142003 x142004 x142005)) else (none)) else (forebayref07_Check.l0 k false (wrap64 (x4 + 1)) x142000 x142001 x142002 x142003 x142004 x142005)) else ((forebayref07_Rest.f k x142000 x142001 x142002 x142003 x142004 x142005 x3).bind fun t144 => (some t144))
def forebayref07_Check.f (k : Nat) (a0_0 : ByteArray) (a0_1 : Int) (l0_2 : List (S48)) (a0_3 : Int) (l0_4 : List (S81)) (a0_5 : Int) : Option (Int) := forebayref07_Check.l0 k true 0 a0_0 a0_1 l0_2 a0_3 l0_4 a0_5
set_option maxHeartbeats 8000000 in
set_option maxRecDepth 100000 in
theorem forebayref07_Check.calls (k : Nat) (a0_0 : ByteArray) (a0_1 : Int) (A0_2 : Option Addr) (c0_2 : Nat) (l0_2 : List (S48)) (a0_3 : Int) (A0_4 : Option Addr) (c0_4 : Nat) (l0_4 : List (S81)) (a0_5 : Int) (r : Int) (w : World) (hr0_2 : Kd.C k48 w A0_2 l0_2.length l0_2) (hc0_2 : l0_2.length ≤ c0_2) (hr0_4 : Kd.C k81 w A0_4 l0_4.length l0_4) (hc0_4 : l0_4.length ≤ c0_4) (h : forebayref07_Check.f k a0_0 a0_1 l0_2 a0_3 l0_4 a0_5 = some r) :
  Calls Try.prog 42 #[.agg #[.string a0_0, .int .i64 a0_1, .slice A0_2 l0_2.length c0_2, .int .i64 a0_3, .slice A0_4 l0_4.length c0_4, .int .i64 a0_5]] w fun e w' => e = .returned (.int .i64 r) ∧ Below w.heap.size w w' := by
 have hu26 := Try.underlying26
 have hu48 := Try.underlying48
 have HR0_2 := Aside0.mk hr0_2
 have HC0_2 := Aside0.mk hc0_2
 clear hr0_2 hc0_2
 have HR0_4 := Aside0.mk hr0_4
 have HC0_4 := Aside0.mk hc0_4
 clear hr0_4 hc0_4
 have HB := Aside0.mk (Below.refl w.heap.size w)
 have H : (forebayref07_Check.l0 k true 0 a0_0 a0_1 l0_2 a0_3 l0_4 a0_5) = some r := h
 clear h
 have H' := Aside0.mk H
 clear H
 go_enter Try.func42, Try.ntmps42
 go_wp2_with (first | ((with_reducible refine gate_dst (N := 1) rfl ?_); refine box_event ?hg (N := 1) ?hd (cs := #[.string a0_0, .int .i64 a0_1, .slice A0_2 l0_2.length c0_2, .int .i64 a0_3, .slice A0_4 l0_4.length c0_4, .int .i64 a0_5]) (t := 26) ?hr ?_; (case hd => rfl); (case hg => rfl); (case hr => first | (go_simp; done) | (go_simp; rfl)); intro gb141 hg w2 hbox hb; have n0_ := Aside0.mk (below_step (by repeat (first | (with_reducible first | exact HB.out | apply below_alloc | apply pw_below_drewN | apply below_drew1) | exact HB.out)) hb); have n1_ := Aside0.mk (hbox); have n2_ := Aside0.mk ((by rw [hg]; exact (below_size (by repeat (first | (with_reducible first | exact HB.out | apply below_alloc | apply pw_below_drewN | apply below_drew1) | exact HB.out))) : w.heap.size ≤ gb141)); have n3_ := Aside0.mk ((by rw [hg]; exact (below_size (by repeat (first | (with_reducible first | exact HB.out | apply below_alloc | apply pw_below_drewN | apply below_drew1) | exact HB.out))) : w.heap.size ≤ gb141)); clear HB; have HB := n0_; have BK141 := n1_; have GW141 := n2_; have GE141 := n3_; clear n0_ n1_ n2_ n3_; clear hb hbox hg))
 go_loopg [3, 4] k (fun kq v3 v4 w' => ∃ (x3_1 : Bool) (x4_1 : Int), v3 = .bool x3_1 ∧ v4 = .int .i64 x4_1 ∧ Aside0 (forebayref07_Check.l0 kq x3_1 x4_1 a0_0 a0_1 l0_2 a0_3 l0_4 a0_5 = some r) ∧ Aside0 (kq ≤ k) ∧ Aside0 (w'.heap[gb141]? = some (.cells #[.string a0_0, .int .i64 a0_1, (.slice A0_2 l0_2.length c0_2), .int .i64 a0_3, (.slice A0_4 l0_4.length c0_4), .int .i64 a0_5] 26 (0, 0))) ∧ Aside0 (Below w.heap.size w w'))
 case atStart => exact ⟨(true), (0), (by first | rfl | (simp; done) | (simp [*]; done)), (by first | rfl | (simp; done) | (simp [*]; done)), H', ⟨Nat.le_refl _⟩, ⟨by (with_reducible repeat (first | refine blk_drewN ?_ _ | refine blk_drew ?_ | refine blk_alloc ?_ _)); exact BK141.out⟩, ⟨by repeat (first | (with_reducible first | exact HB.out | apply below_alloc | apply pw_below_drewN | apply below_drew1 | refine below_set ?_ GE141.out) | exact HB.out)⟩⟩
 case round =>
  clear H'
  try clear p2
  obtain ⟨x3_1, x4_1, rfl, rfl, HA, HK1, BK141, HB⟩ := hrel
  cases gk with
  | zero => exact absurd HA.out (by simp [forebayref07_Check.l0])
  | succ k1 =>
   have H := HA.out
   clear HA
   simp only [forebayref07_Check.l0] at H
   by_cases c3 : x4_1 < (l0_2.length : Int)
   ·rw [if_pos c3] at H
    have c3b0 : decide (x4_1 < (l0_2.length : Int)) = true := decide_eq_true c3
    clear c3
    by_cases c4 : x3_1 = true
    ·subst c4
     have H1 : (if 0 ≤ x4_1 then ((forebayref03_Check.f k1 ((rd_T48 l0_2 x4_1).f0) ((rd_T48 l0_2 x4_1).f1) ((rd_T48 l0_2 x4_1).f2)).bind fun t143 => (forebayref07_Check.l0 k1 (t143 == 0) (wrap64 (x4_1 + 1)) a0_0 a0_1 l0_2 a0_3 l0_4 a0_5)) else (none)) = some r := by rw [if_pos rfl] at H; exact H
     clear H
     have H := H1
     clear H1
     by_cases c5 : 0 ≤ x4_1
     ·rw [if_pos c5] at H
      have c5b0 : decide (0 ≤ x4_1) = true := decide_eq_true c5
      clear c5
      replace H := Option.bind_eq_some_iff.mp H
      obtain ⟨t143, A60, H⟩ := H
      replace H : (forebayref07_Check.l0 k1 (t143 == 0) (wrap64 (x4_1 + 1)) a0_0 a0_1 l0_2 a0_3 l0_4 a0_5) = some r := H
      have A6 := Aside0.mk A60
      clear A60
      have H' := Aside0.mk H
      clear H
      have hcz7_0 : wr.cell? ⟨gb141, 0, none⟩ = some (.string a0_0) := (blk_cell BK141.out 0).trans rfl
      have hcz7_1 : wr.cell? ⟨gb141, 1, none⟩ = some (.int .i64 a0_1) := (blk_cell BK141.out 1).trans rfl
      have hcz7_2 : wr.cell? ⟨gb141, 2, none⟩ = some (.slice A0_2 l0_2.length c0_2) := (blk_cell BK141.out 2).trans rfl
      have hcz7_3 : wr.cell? ⟨gb141, 3, none⟩ = some (.int .i64 a0_3) := (blk_cell BK141.out 3).trans rfl
      have hcz7_4 : wr.cell? ⟨gb141, 4, none⟩ = some (.slice A0_4 l0_4.length c0_4) := (blk_cell BK141.out 4).trans rfl
      have hcz7_5 : wr.cell? ⟨gb141, 5, none⟩ = some (.int .i64 a0_5) := (blk_cell BK141.out 5).trans rfl
      have hfz7_0 := blk_frozen BK141.out 0
      have hfz7_1 := blk_frozen BK141.out 1
      have hfz7_2 := blk_frozen BK141.out 2
      have hfz7_3 := blk_frozen BK141.out 3
      have hfz7_4 := blk_frozen BK141.out 4
      have hfz7_5 := blk_frozen BK141.out 5
      have p142 : 0 ≤ (x4_1 : Int) := of_decide_eq_true (by first | (with_reducible assumption) | assumption)
      have q142 : x4_1 < (l0_2.length : Int) := of_decide_eq_true (by first | (with_reducible assumption) | assumption)
      obtain ⟨ad142, e142, hx142_0, hx142_1, hx142_2⟩ := at_T48 HR0_2.out x4_1 p142 q142
      cases e142
      replace hx142_0 := (HB.out.cell (World.block_lt_of_cell? w _ hx142_0)).trans hx142_0
      replace hx142_1 := (HB.out.cell (World.block_lt_of_cell? w _ hx142_1)).trans hx142_1
      replace hx142_2 := (HB.out.cell (World.block_lt_of_cell? w _ hx142_2)).trans hx142_2
      replace p142 := eq_true p142
      replace q142 := eq_true q142
      go_wp2_with (first | (go_at_call 57; (with_reducible refine (forebayref03_Check.calls k1 ((rd_T48 l0_2 x4_1).f0) ((rd_T48 l0_2 x4_1).f1) ((rd_T48 l0_2 x4_1).f2) t143 _ A6.out).mono ?_); rintro e w8 ⟨rfl, hb⟩; have n0_ := Aside0.mk (blk_below (g := gb141) (o := .cells #[.string a0_0, .int .i64 a0_1, .slice (some ad142) l0_2.length c0_2, .int .i64 a0_3, .slice A0_4 l0_4.length c0_4, .int .i64 a0_5] 26 (0, 0)) (by (with_reducible repeat (first | refine blk_drewN ?_ _ | refine blk_drew ?_ | refine blk_alloc ?_ _)); exact BK141.out) hb); have n1_ := Aside0.mk (below_step (by repeat (first | (with_reducible first | exact HB.out | apply below_alloc | apply pw_below_drewN | apply below_drew1 | refine below_set ?_ GE141.out) | exact HB.out)) hb); clear BK141; clear HB; have BK141 := n0_; have HB := n1_; clear n0_ n1_; (try clear hb); (try clear hb2); (try clear hk); (try clear hi)))
      go_roundg k1
      case measure => have := HK1.out; omega
      case rel => exact ⟨((t143 == 0)), (wrap64 (x4_1 + 1)), (by first | rfl | (simp; done) | (simp [*]; done)), (by first | rfl | (simp; done) | (simp [*]; done)), H', ⟨by have := HK1.out; omega⟩, ⟨by (with_reducible repeat (first | refine blk_drewN ?_ _ | refine blk_drew ?_ | refine blk_alloc ?_ _)); exact BK141.out⟩, ⟨by repeat (first | (with_reducible first | exact HB.out | apply below_alloc | apply pw_below_drewN | apply below_drew1 | refine below_set ?_ GE141.out) | exact HB.out)⟩⟩
     ·rw [if_neg c5] at H
      exact absurd H (by simp)
    ·replace c4 := Bool.eq_false_iff.mpr c4
     subst c4
     have H1 : (forebayref07_Check.l0 k1 false (wrap64 (x4_1 + 1)) a0_0 a0_1 l0_2 a0_3 l0_4 a0_5) = some r := by rw [if_neg (show ¬ (false = true) by decide)] at H; exact H
     clear H
     have H := H1
     clear H1
     have H' := Aside0.mk H
     clear H
     have hcz9_0 : wr.cell? ⟨gb141, 0, none⟩ = some (.string a0_0) := (blk_cell BK141.out 0).trans rfl
     have hcz9_1 : wr.cell? ⟨gb141, 1, none⟩ = some (.int .i64 a0_1) := (blk_cell BK141.out 1).trans rfl
     have hcz9_2 : wr.cell? ⟨gb141, 2, none⟩ = some (.slice A0_2 l0_2.length c0_2) := (blk_cell BK141.out 2).trans rfl
     have hcz9_3 : wr.cell? ⟨gb141, 3, none⟩ = some (.int .i64 a0_3) := (blk_cell BK141.out 3).trans rfl
     have hcz9_4 : wr.cell? ⟨gb141, 4, none⟩ = some (.slice A0_4 l0_4.length c0_4) := (blk_cell BK141.out 4).trans rfl
     have hcz9_5 : wr.cell? ⟨gb141, 5, none⟩ = some (.int .i64 a0_5) := (blk_cell BK141.out 5).trans rfl
     have hfz9_0 := blk_frozen BK141.out 0
     have hfz9_1 := blk_frozen BK141.out 1
     have hfz9_2 := blk_frozen BK141.out 2
     have hfz9_3 := blk_frozen BK141.out 3
     have hfz9_4 := blk_frozen BK141.out 4
     have hfz9_5 := blk_frozen BK141.out 5
     go_wp2
     go_roundg k1
     case measure => have := HK1.out; omega
     case rel => exact ⟨(false), (wrap64 (x4_1 + 1)), (by first | rfl | (simp; done) | (simp [*]; done)), (by first | rfl | (simp; done) | (simp [*]; done)), H', ⟨by have := HK1.out; omega⟩, ⟨by (with_reducible repeat (first | refine blk_drewN ?_ _ | refine blk_drew ?_ | refine blk_alloc ?_ _)); exact BK141.out⟩, ⟨by repeat (first | (with_reducible first | exact HB.out | apply below_alloc | apply pw_below_drewN | apply below_drew1 | refine below_set ?_ GE141.out) | exact HB.out)⟩⟩
   ·rw [if_neg c3] at H
    have c3b0 : decide (x4_1 < (l0_2.length : Int)) = false := decide_eq_false c3
    clear c3
    replace H := Option.bind_eq_some_iff.mp H
    obtain ⟨t144, A100, H⟩ := H
    replace H : (some t144) = some r := H
    have A10 := Aside0.mk A100
    clear A100
    obtain rfl := Option.some.inj H
    have hcz11_0 : wr.cell? ⟨gb141, 0, none⟩ = some (.string a0_0) := (blk_cell BK141.out 0).trans rfl
    have hcz11_1 : wr.cell? ⟨gb141, 1, none⟩ = some (.int .i64 a0_1) := (blk_cell BK141.out 1).trans rfl
    have hcz11_2 : wr.cell? ⟨gb141, 2, none⟩ = some (.slice A0_2 l0_2.length c0_2) := (blk_cell BK141.out 2).trans rfl
    have hcz11_3 : wr.cell? ⟨gb141, 3, none⟩ = some (.int .i64 a0_3) := (blk_cell BK141.out 3).trans rfl
    have hcz11_4 : wr.cell? ⟨gb141, 4, none⟩ = some (.slice A0_4 l0_4.length c0_4) := (blk_cell BK141.out 4).trans rfl
    have hcz11_5 : wr.cell? ⟨gb141, 5, none⟩ = some (.int .i64 a0_5) := (blk_cell BK141.out 5).trans rfl
    have hfz11_0 := blk_frozen BK141.out 0
    have hfz11_1 := blk_frozen BK141.out 1
    have hfz11_2 := blk_frozen BK141.out 2
    have hfz11_3 := blk_frozen BK141.out 3
    have hfz11_4 := blk_frozen BK141.out 4
    have hfz11_5 := blk_frozen BK141.out 5
    go_wp2_with (first | ((with_reducible refine gate_callee (f := 87) rfl ?_); refine goesL_ (some 24) rfl rfl Try.func87 (by kernel_rfl) rfl #[.agg #[.string a0_0, .int .i64 a0_1, .slice A0_2 l0_2.length c0_2, .int .i64 a0_3, .slice A0_4 l0_4.length c0_4, .int .i64 a0_5], .bool x3_1] rfl (by (try simp only [List.map_toArray, List.map_cons, List.map_nil]); first | done | rfl | (simp only [List.length_drop, List.length_take]; rfl)) ?_; (with_reducible refine (forebayref07_Rest.calls k1 a0_0 a0_1 _ _ l0_2 a0_3 _ _ l0_4 a0_5 x3_1 t144 _ ?side1 ?side2 ?side3 ?side4 A10.out).mono ?_); (case side1 => repeat (first | exact (Kd.C_below HR0_2.out HB.out) | (with_reducible refine Kd.C_alloc ?_ _) | (with_reducible refine Kd.C_drewN ?_ _) | (with_reducible refine Kd.C_drew ?_))); (case side2 => exact HC0_2.out); (case side3 => repeat (first | exact (Kd.C_below HR0_4.out HB.out) | (with_reducible refine Kd.C_alloc ?_ _) | (with_reducible refine Kd.C_drewN ?_ _) | (with_reducible refine Kd.C_drew ?_))); (case side4 => exact HC0_4.out); rintro e w12 ⟨rfl, hb⟩; refine ⟨_, rfl, ?_⟩; have n0_ := Aside0.mk (blk_below (g := gb141) (o := .cells #[.string a0_0, .int .i64 a0_1, .slice A0_2 l0_2.length c0_2, .int .i64 a0_3, .slice A0_4 l0_4.length c0_4, .int .i64 a0_5] 26 (0, 0)) (by (with_reducible repeat (first | refine blk_drewN ?_ _ | refine blk_drew ?_ | refine blk_alloc ?_ _)); exact BK141.out) hb); have n1_ := Aside0.mk (below_step (by repeat (first | (with_reducible first | exact HB.out | apply below_alloc | apply pw_below_drewN | apply below_drew1 | refine below_set ?_ GE141.out) | exact HB.out)) hb); clear BK141; clear HB; have BK141 := n0_; have HB := n1_; clear n0_ n1_; (try clear hb); (try clear hb2); (try clear hk); (try clear hi)))
    go_ret
    exact ⟨by first | rfl | (simp [errW_none, errW_some] <;> rfl) | (simp [*, errW_none, errW_some] <;> rfl), by repeat (first | (with_reducible first | exact HB.out | apply below_alloc | apply pw_below_drewN | apply below_drew1 | refine below_set ?_ GE141.out) | exact HB.out)⟩
end Go.Proofs.Ytclbmdblalgdjaa.PE
