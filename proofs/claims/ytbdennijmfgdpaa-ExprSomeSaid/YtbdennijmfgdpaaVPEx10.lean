-- Printed by the kit's print.py over contracts of this session's own.
import Derived.Test.YtbdennijmfgdpaaVClone
import Derived.Test.YtbdennijmfgdpaaVInj
import Derived.Test.YtbdennijmfgdpaaVPEx0
import Derived.Test.YtbdennijmfgdpaaVPEx1
import Derived.Test.YtbdennijmfgdpaaVPEx2
namespace Go.Proofs.Ytbdennijmfgdpaa.PE
open Go.RowKit Go.Proofs.YtbdennijmfgdpaaW.PrintWords Go.Proofs.YtbdennijmfgdpaaW.PrintLast Go.Proofs.YtbdennijmfgdpaaW.PrintMore
attribute [local go_sem] max2_int min2_int max_two min_two max_three min_three max_four min_four   -- for this text's walks alone
set_option linter.unusedVariables false
set_option linter.unusedSimpArgs false
attribute [local go_sem high] eqA46 eqA48
/-! ### forebaylaw07_Few: function 12 -/
mutual
def forebaylaw07_Few.j0 : Nat → Bool → ByteArray → Int → List (S46) → Int → List (S48) → Int → Option (Bool)
  | 0, _, _, _, _, _, _, _ => none
  | k + 1, x19, x190000, x190001, x190002, x190003, x190004, x190005 => if x19 = true then (some false) else (forebaylaw07_Few.l0 k 0 x190000 x190001 x190002 x190003 x190004 x190005)
def forebaylaw07_Few.l0 : Nat → Int → ByteArray → Int → List (S46) → Int → List (S48) → Int → Option (Bool)
  | 0, _, _, _, _, _, _, _ => none
  | k + 1, x3, x190000, x190001, x190002, x190003, x190004, x190005 => if x3 < (x190004.length : Int) then (if 0 ≤ x3 then (if (((rd_T48 x190004 x3).f0).size : Int) > 150 then (some false) else (if (((rd_T48 x190004 x3).f1).size : Int) > 150 then (some false) else (forebaylaw07_Few.l0 k (wrap64 (x3 + 1)) x190000 x190001 x190002 x190003 x190004 x190005))) else (none)) else (some true)
end
def forebaylaw07_Few.f (k : Nat) (a0_0 : ByteArray) (a0_1 : Int) (l0_2 : List (S46)) (a0_3 : Int) (l0_4 : List (S48)) (a0_5 : Int) : Option (Bool) := if (a0_0.size : Int) > 300 then (forebaylaw07_Few.j0 k true a0_0 a0_1 l0_2 a0_3 l0_4 a0_5) else (if (l0_2.length : Int) > 80 then (forebaylaw07_Few.j0 k true a0_0 a0_1 l0_2 a0_3 l0_4 a0_5) else (forebaylaw07_Few.j0 k (decide ((l0_4.length : Int) > 40)) a0_0 a0_1 l0_2 a0_3 l0_4 a0_5))
set_option maxHeartbeats 8000000 in
set_option maxRecDepth 100000 in
theorem forebaylaw07_Few.calls (k : Nat) (a0_0 : ByteArray) (a0_1 : Int) (A0_2 : Option Addr) (c0_2 : Nat) (l0_2 : List (S46)) (a0_3 : Int) (A0_4 : Option Addr) (c0_4 : Nat) (l0_4 : List (S48)) (a0_5 : Int) (r : Bool) (w : World) (hr0_2 : Kd.C k46 w A0_2 l0_2.length l0_2) (hc0_2 : l0_2.length ≤ c0_2) (hr0_4 : Kd.C k48 w A0_4 l0_4.length l0_4) (hc0_4 : l0_4.length ≤ c0_4) (h : forebaylaw07_Few.f k a0_0 a0_1 l0_2 a0_3 l0_4 a0_5 = some r) :
    Calls Try.prog 12 #[.agg #[.string a0_0, .int .i64 a0_1, .slice A0_2 l0_2.length c0_2, .int .i64 a0_3, .slice A0_4 l0_4.length c0_4, .int .i64 a0_5]] w fun e w' => e = .returned (.bool r) ∧ Below w.heap.size w w' := by
  have hu25 := Try.underlying25
  have HR0_2 := Aside0.mk hr0_2
  have HC0_2 := Aside0.mk hc0_2
  clear hr0_2 hc0_2
  have HR0_4 := Aside0.mk hr0_4
  have HC0_4 := Aside0.mk hc0_4
  clear hr0_4 hc0_4
  have HB := Aside0.mk (Below.refl w.heap.size w)
  have H : (if (a0_0.size : Int) > 300 then (forebaylaw07_Few.j0 k true a0_0 a0_1 l0_2 a0_3 l0_4 a0_5) else (if (l0_2.length : Int) > 80 then (forebaylaw07_Few.j0 k true a0_0 a0_1 l0_2 a0_3 l0_4 a0_5) else (forebaylaw07_Few.j0 k (decide ((l0_4.length : Int) > 40)) a0_0 a0_1 l0_2 a0_3 l0_4 a0_5))) = some r := h
  clear h
  have HC2 := Aside0.mk H
  clear H
  go_enter Try.func12, Try.ntmps12
  go_upto_region 1 with (first | ((with_reducible refine gate_dst (N := 1) rfl ?_); (try (refine gate_guard (by rfl) ?_; dsimp only)); refine box_event ?hg (N := 1) ?hd (cs := #[.string a0_0, .int .i64 a0_1, .slice A0_2 l0_2.length c0_2, .int .i64 a0_3, .slice A0_4 l0_4.length c0_4, .int .i64 a0_5]) (t := 25) ?hr ?_; (case hd => rfl); (case hg => rfl); (case hr => first | (go_simp; done) | (go_simp; rfl)); intro gb189 hg w3 hbox hb; have n0_ := Aside0.mk (below_step (by repeat (first | (with_reducible first | exact HB.out | apply below_alloc | apply pw_below_drewN | apply below_drew1) | exact HB.out)) hb); have n1_ := Aside0.mk (hbox); have n2_ := Aside0.mk ((by rw [hg]; exact (below_size (by repeat (first | (with_reducible first | exact HB.out | apply below_alloc | apply pw_below_drewN | apply below_drew1) | exact HB.out))) : w.heap.size ≤ gb189)); have n3_ := Aside0.mk ((by rw [hg]; exact (below_size (by repeat (first | (with_reducible first | exact HB.out | apply below_alloc | apply pw_below_drewN | apply below_drew1) | exact HB.out))) : w.heap.size ≤ gb189)); clear HB; have HB := n0_; have BK189 := n1_; have GW189 := n2_; have GE189 := n3_; clear n0_ n1_ n2_ n3_; clear hb hbox hg))
  (try simp only [Act.put, List.setIfInBounds_toArray, List.set_cons_zero, List.set_cons_succ])
  go_cut [19] (fun v19 wc => ∃ (kq : Nat) (x19_1 : Bool), v19 = .bool x19_1 ∧ Aside0 (forebaylaw07_Few.j0 kq x19_1 a0_0 a0_1 l0_2 a0_3 l0_4 a0_5 = some r) ∧ Aside0 (kq ≤ k) ∧ Aside0 (wc.heap[gb189]? = some (.cells #[.string a0_0, .int .i64 a0_1, (.slice A0_2 l0_2.length c0_2), .int .i64 a0_3, (.slice A0_4 l0_4.length c0_4), .int .i64 a0_5] 25 (0, 0))) ∧ Aside0 (Below w.heap.size w wc))
  case first =>
    have H := HC2.out
    clear HC2
    by_cases c4 : (a0_0.size : Int) > 300
    · rw [if_pos c4] at H
      have c4b0 : decide (300 < (a0_0.size : Int)) = true := decide_eq_true c4
      have c4b1 : decide (300 < a0_0.size) = true := decide_eq_true (by omega)
      clear c4
      (first | rw [c4b0] | (simp only [i64_w, i32_w]; rw [c4b0]) | skip)
      have H' := Aside0.mk H
      clear H
      have hcz5_0 : w3.cell? ⟨gb189, 0, none⟩ = some (.string a0_0) := (blk_cell BK189.out 0).trans rfl
      have hcz5_1 : w3.cell? ⟨gb189, 1, none⟩ = some (.int .i64 a0_1) := (blk_cell BK189.out 1).trans rfl
      have hcz5_2 : w3.cell? ⟨gb189, 2, none⟩ = some (.slice A0_2 l0_2.length c0_2) := (blk_cell BK189.out 2).trans rfl
      have hcz5_3 : w3.cell? ⟨gb189, 3, none⟩ = some (.int .i64 a0_3) := (blk_cell BK189.out 3).trans rfl
      have hcz5_4 : w3.cell? ⟨gb189, 4, none⟩ = some (.slice A0_4 l0_4.length c0_4) := (blk_cell BK189.out 4).trans rfl
      have hcz5_5 : w3.cell? ⟨gb189, 5, none⟩ = some (.int .i64 a0_5) := (blk_cell BK189.out 5).trans rfl
      have hfz5_0 := blk_frozen BK189.out 0
      have hfz5_1 := blk_frozen BK189.out 1
      have hfz5_2 := blk_frozen BK189.out 2
      have hfz5_3 := blk_frozen BK189.out 3
      have hfz5_4 := blk_frozen BK189.out 4
      have hfz5_5 := blk_frozen BK189.out 5
      go_wp2
      go_meet
      case rel => exact ⟨_, (true), (by first | rfl | (simp; done) | (simp [*]; done)), H', ⟨by first | omega | exact Nat.le_refl _⟩, ⟨by (with_reducible repeat (first | refine blk_drewN ?_ _ | refine blk_drew ?_ | refine blk_alloc ?_ _)); exact BK189.out⟩, ⟨by repeat (first | (with_reducible first | exact HB.out | apply below_alloc | apply pw_below_drewN | apply below_drew1 | refine below_set ?_ GE189.out) | exact HB.out)⟩⟩
    · rw [if_neg c4] at H
      have c4b0 : decide (300 < (a0_0.size : Int)) = false := decide_eq_false c4
      have c4b1 : decide (300 < a0_0.size) = false := decide_eq_false (by omega)
      clear c4
      (first | rw [c4b0] | (simp only [i64_w, i32_w]; rw [c4b0]) | skip)
      by_cases c6 : (l0_2.length : Int) > 80
      · rw [if_pos c6] at H
        have c6b0 : decide (80 < (l0_2.length : Int)) = true := decide_eq_true c6
        have c6b1 : decide (80 < l0_2.length) = true := decide_eq_true (by omega)
        clear c6
        have H' := Aside0.mk H
        clear H
        have hcz7_0 : w3.cell? ⟨gb189, 0, none⟩ = some (.string a0_0) := (blk_cell BK189.out 0).trans rfl
        have hcz7_1 : w3.cell? ⟨gb189, 1, none⟩ = some (.int .i64 a0_1) := (blk_cell BK189.out 1).trans rfl
        have hcz7_2 : w3.cell? ⟨gb189, 2, none⟩ = some (.slice A0_2 l0_2.length c0_2) := (blk_cell BK189.out 2).trans rfl
        have hcz7_3 : w3.cell? ⟨gb189, 3, none⟩ = some (.int .i64 a0_3) := (blk_cell BK189.out 3).trans rfl
        have hcz7_4 : w3.cell? ⟨gb189, 4, none⟩ = some (.slice A0_4 l0_4.length c0_4) := (blk_cell BK189.out 4).trans rfl
        have hcz7_5 : w3.cell? ⟨gb189, 5, none⟩ = some (.int .i64 a0_5) := (blk_cell BK189.out 5).trans rfl
        have hfz7_0 := blk_frozen BK189.out 0
        have hfz7_1 := blk_frozen BK189.out 1
        have hfz7_2 := blk_frozen BK189.out 2
        have hfz7_3 := blk_frozen BK189.out 3
        have hfz7_4 := blk_frozen BK189.out 4
        have hfz7_5 := blk_frozen BK189.out 5
        go_wp2
        go_meet
        case rel => exact ⟨_, (true), (by first | rfl | (simp; done) | (simp [*]; done)), H', ⟨by first | omega | exact Nat.le_refl _⟩, ⟨by (with_reducible repeat (first | refine blk_drewN ?_ _ | refine blk_drew ?_ | refine blk_alloc ?_ _)); exact BK189.out⟩, ⟨by repeat (first | (with_reducible first | exact HB.out | apply below_alloc | apply pw_below_drewN | apply below_drew1 | refine below_set ?_ GE189.out) | exact HB.out)⟩⟩
      · rw [if_neg c6] at H
        have c6b0 : decide (80 < (l0_2.length : Int)) = false := decide_eq_false c6
        have c6b1 : decide (80 < l0_2.length) = false := decide_eq_false (by omega)
        clear c6
        have H' := Aside0.mk H
        clear H
        have hcz8_0 : w3.cell? ⟨gb189, 0, none⟩ = some (.string a0_0) := (blk_cell BK189.out 0).trans rfl
        have hcz8_1 : w3.cell? ⟨gb189, 1, none⟩ = some (.int .i64 a0_1) := (blk_cell BK189.out 1).trans rfl
        have hcz8_2 : w3.cell? ⟨gb189, 2, none⟩ = some (.slice A0_2 l0_2.length c0_2) := (blk_cell BK189.out 2).trans rfl
        have hcz8_3 : w3.cell? ⟨gb189, 3, none⟩ = some (.int .i64 a0_3) := (blk_cell BK189.out 3).trans rfl
        have hcz8_4 : w3.cell? ⟨gb189, 4, none⟩ = some (.slice A0_4 l0_4.length c0_4) := (blk_cell BK189.out 4).trans rfl
        have hcz8_5 : w3.cell? ⟨gb189, 5, none⟩ = some (.int .i64 a0_5) := (blk_cell BK189.out 5).trans rfl
        have hfz8_0 := blk_frozen BK189.out 0
        have hfz8_1 := blk_frozen BK189.out 1
        have hfz8_2 := blk_frozen BK189.out 2
        have hfz8_3 := blk_frozen BK189.out 3
        have hfz8_4 := blk_frozen BK189.out 4
        have hfz8_5 := blk_frozen BK189.out 5
        go_wp2
        go_meet
        case rel => exact ⟨_, (decide ((l0_4.length : Int) > 40)), (by first | rfl | (simp; done) | (simp [*]; done)), H', ⟨by first | omega | exact Nat.le_refl _⟩, ⟨by (with_reducible repeat (first | refine blk_drewN ?_ _ | refine blk_drew ?_ | refine blk_alloc ?_ _)); exact BK189.out⟩, ⟨by repeat (first | (with_reducible first | exact HB.out | apply below_alloc | apply pw_below_drewN | apply below_drew1 | refine below_set ?_ GE189.out) | exact HB.out)⟩⟩
  case rest =>
    clear HC2
    try clear c1
    try clear p2
    try clear c4
    try clear c4b0
    try clear c4b1
    try clear c6
    try clear c6b0
    try clear c6b1
    try clear hcz5_0
    try clear hcz5_1
    try clear hcz5_2
    try clear hcz5_3
    try clear hcz5_4
    try clear hcz5_5
    try clear hcz7_0
    try clear hcz7_1
    try clear hcz7_2
    try clear hcz7_3
    try clear hcz7_4
    try clear hcz7_5
    try clear hcz8_0
    try clear hcz8_1
    try clear hcz8_2
    try clear hcz8_3
    try clear hcz8_4
    try clear hcz8_5
    try clear hfz5_0
    try clear hfz5_1
    try clear hfz5_2
    try clear hfz5_3
    try clear hfz5_4
    try clear hfz5_5
    try clear hfz7_0
    try clear hfz7_1
    try clear hfz7_2
    try clear hfz7_3
    try clear hfz7_4
    try clear hfz7_5
    try clear hfz8_0
    try clear hfz8_1
    try clear hfz8_2
    try clear hfz8_3
    try clear hfz8_4
    try clear hfz8_5
    obtain ⟨kq, x19_1, rfl, HA, HJ1, BK189, HB⟩ := hcut
    cases kq with
    | zero => exact absurd HA.out (by simp [forebaylaw07_Few.j0])
    | succ kj1 =>
      have H := HA.out
      clear HA
      simp only [forebaylaw07_Few.j0] at H
      by_cases c9 : x19_1 = true
      · subst c9
        have H1 : (some false) = some r := by rw [if_pos rfl] at H; exact H
        clear H
        have H := H1
        clear H1
        obtain rfl := Option.some.inj H
        go_wp2
        go_ret
        exact ⟨by first | rfl | (simp [errW_none, errW_some] <;> rfl) | (simp [*, errW_none, errW_some] <;> rfl), by repeat (first | (with_reducible first | exact HB.out | apply below_alloc | apply pw_below_drewN | apply below_drew1 | refine below_set ?_ GE189.out) | exact HB.out)⟩
      · replace c9 := Bool.eq_false_iff.mpr c9
        subst c9
        have H1 : (forebaylaw07_Few.l0 kj1 0 a0_0 a0_1 l0_2 a0_3 l0_4 a0_5) = some r := by rw [if_neg (show ¬ (false = true) by decide)] at H; exact H
        clear H
        have H := H1
        clear H1
        have H' := Aside0.mk H
        clear H
        go_wp2
        go_loopg [3] kj1 (fun kq v3 w' => ∃ (x3_2 : Int), v3 = .int .i64 x3_2 ∧ Aside0 (forebaylaw07_Few.l0 kq x3_2 a0_0 a0_1 l0_2 a0_3 l0_4 a0_5 = some r) ∧ Aside0 (kq ≤ kj1) ∧ Aside0 (w'.heap[gb189]? = some (.cells #[.string a0_0, .int .i64 a0_1, (.slice A0_2 l0_2.length c0_2), .int .i64 a0_3, (.slice A0_4 l0_4.length c0_4), .int .i64 a0_5] 25 (0, 0))) ∧ Aside0 (Below w.heap.size w w'))
        case atStart => exact ⟨(0), (by first | rfl | (simp; done) | (simp [*]; done)), H', ⟨Nat.le_refl _⟩, ⟨by (with_reducible repeat (first | refine blk_drewN ?_ _ | refine blk_drew ?_ | refine blk_alloc ?_ _)); exact BK189.out⟩, ⟨by repeat (first | (with_reducible first | exact HB.out | apply below_alloc | apply pw_below_drewN | apply below_drew1 | refine below_set ?_ GE189.out) | exact HB.out)⟩⟩
        case round =>
          clear H'
          try clear c1
          try clear p2
          try clear c4
          try clear c4b0
          try clear c4b1
          try clear c6
          try clear c6b0
          try clear c6b1
          try clear c9
          try clear hcz5_0
          try clear hcz5_1
          try clear hcz5_2
          try clear hcz5_3
          try clear hcz5_4
          try clear hcz5_5
          try clear hcz7_0
          try clear hcz7_1
          try clear hcz7_2
          try clear hcz7_3
          try clear hcz7_4
          try clear hcz7_5
          try clear hcz8_0
          try clear hcz8_1
          try clear hcz8_2
          try clear hcz8_3
          try clear hcz8_4
          try clear hcz8_5
          try clear hfz5_0
          try clear hfz5_1
          try clear hfz5_2
          try clear hfz5_3
          try clear hfz5_4
          try clear hfz5_5
          try clear hfz7_0
          try clear hfz7_1
          try clear hfz7_2
          try clear hfz7_3
          try clear hfz7_4
          try clear hfz7_5
          try clear hfz8_0
          try clear hfz8_1
          try clear hfz8_2
          try clear hfz8_3
          try clear hfz8_4
          try clear hfz8_5
          try clear p2
          obtain ⟨x3_2, rfl, HA, HK2, BK189, HB⟩ := hrel
          cases gk with
          | zero => exact absurd HA.out (by simp [forebaylaw07_Few.l0])
          | succ k2 =>
            have H := HA.out
            clear HA
            simp only [forebaylaw07_Few.l0] at H
            by_cases c10 : x3_2 < (l0_4.length : Int)
            · rw [if_pos c10] at H
              have c10b0 : decide (x3_2 < (l0_4.length : Int)) = true := decide_eq_true c10
              clear c10
              by_cases c11 : 0 ≤ x3_2
              · rw [if_pos c11] at H
                have c11b0 : decide (0 ≤ x3_2) = true := decide_eq_true c11
                clear c11
                by_cases c12 : (((rd_T48 l0_4 x3_2).f0).size : Int) > 150
                · rw [if_pos c12] at H
                  have c12b0 : decide (150 < (((rd_T48 l0_4 x3_2).f0).size : Int)) = true := decide_eq_true c12
                  have c12b1 : decide (150 < ((rd_T48 l0_4 x3_2).f0).size) = true := decide_eq_true (by omega)
                  clear c12
                  obtain rfl := Option.some.inj H
                  have hcz13_0 : wr.cell? ⟨gb189, 0, none⟩ = some (.string a0_0) := (blk_cell BK189.out 0).trans rfl
                  have hcz13_1 : wr.cell? ⟨gb189, 1, none⟩ = some (.int .i64 a0_1) := (blk_cell BK189.out 1).trans rfl
                  have hcz13_2 : wr.cell? ⟨gb189, 2, none⟩ = some (.slice A0_2 l0_2.length c0_2) := (blk_cell BK189.out 2).trans rfl
                  have hcz13_3 : wr.cell? ⟨gb189, 3, none⟩ = some (.int .i64 a0_3) := (blk_cell BK189.out 3).trans rfl
                  have hcz13_4 : wr.cell? ⟨gb189, 4, none⟩ = some (.slice A0_4 l0_4.length c0_4) := (blk_cell BK189.out 4).trans rfl
                  have hcz13_5 : wr.cell? ⟨gb189, 5, none⟩ = some (.int .i64 a0_5) := (blk_cell BK189.out 5).trans rfl
                  have hfz13_0 := blk_frozen BK189.out 0
                  have hfz13_1 := blk_frozen BK189.out 1
                  have hfz13_2 := blk_frozen BK189.out 2
                  have hfz13_3 := blk_frozen BK189.out 3
                  have hfz13_4 := blk_frozen BK189.out 4
                  have hfz13_5 := blk_frozen BK189.out 5
                  have p190 : 0 ≤ (x3_2 : Int) := of_decide_eq_true (by first | (with_reducible assumption) | assumption)
                  have q190 : x3_2 < (l0_4.length : Int) := of_decide_eq_true (by first | (with_reducible assumption) | assumption)
                  obtain ⟨ad190, e190, hx190_0, hx190_1⟩ := at_T48 HR0_4.out x3_2 p190 q190
                  cases e190
                  replace hx190_0 := (HB.out.cell (World.block_lt_of_cell? w _ hx190_0)).trans hx190_0
                  replace hx190_1 := (HB.out.cell (World.block_lt_of_cell? w _ hx190_1)).trans hx190_1
                  replace p190 := eq_true p190
                  replace q190 := eq_true q190
                  go_wp2
                  go_ret
                  exact ⟨by first | rfl | (simp [errW_none, errW_some] <;> rfl) | (simp [*, errW_none, errW_some] <;> rfl), by repeat (first | (with_reducible first | exact HB.out | apply below_alloc | apply pw_below_drewN | apply below_drew1 | refine below_set ?_ GE189.out) | exact HB.out)⟩
                · rw [if_neg c12] at H
                  have c12b0 : decide (150 < (((rd_T48 l0_4 x3_2).f0).size : Int)) = false := decide_eq_false c12
                  have c12b1 : decide (150 < ((rd_T48 l0_4 x3_2).f0).size) = false := decide_eq_false (by omega)
                  clear c12
                  by_cases c14 : (((rd_T48 l0_4 x3_2).f1).size : Int) > 150
                  · rw [if_pos c14] at H
                    have c14b0 : decide (150 < (((rd_T48 l0_4 x3_2).f1).size : Int)) = true := decide_eq_true c14
                    have c14b1 : decide (150 < ((rd_T48 l0_4 x3_2).f1).size) = true := decide_eq_true (by omega)
                    clear c14
                    obtain rfl := Option.some.inj H
                    have hcz15_0 : wr.cell? ⟨gb189, 0, none⟩ = some (.string a0_0) := (blk_cell BK189.out 0).trans rfl
                    have hcz15_1 : wr.cell? ⟨gb189, 1, none⟩ = some (.int .i64 a0_1) := (blk_cell BK189.out 1).trans rfl
                    have hcz15_2 : wr.cell? ⟨gb189, 2, none⟩ = some (.slice A0_2 l0_2.length c0_2) := (blk_cell BK189.out 2).trans rfl
                    have hcz15_3 : wr.cell? ⟨gb189, 3, none⟩ = some (.int .i64 a0_3) := (blk_cell BK189.out 3).trans rfl
                    have hcz15_4 : wr.cell? ⟨gb189, 4, none⟩ = some (.slice A0_4 l0_4.length c0_4) := (blk_cell BK189.out 4).trans rfl
                    have hcz15_5 : wr.cell? ⟨gb189, 5, none⟩ = some (.int .i64 a0_5) := (blk_cell BK189.out 5).trans rfl
                    have hfz15_0 := blk_frozen BK189.out 0
                    have hfz15_1 := blk_frozen BK189.out 1
                    have hfz15_2 := blk_frozen BK189.out 2
                    have hfz15_3 := blk_frozen BK189.out 3
                    have hfz15_4 := blk_frozen BK189.out 4
                    have hfz15_5 := blk_frozen BK189.out 5
                    have p190 : 0 ≤ (x3_2 : Int) := of_decide_eq_true (by first | (with_reducible assumption) | assumption)
                    have q190 : x3_2 < (l0_4.length : Int) := of_decide_eq_true (by first | (with_reducible assumption) | assumption)
                    obtain ⟨ad190, e190, hx190_0, hx190_1⟩ := at_T48 HR0_4.out x3_2 p190 q190
                    cases e190
                    replace hx190_0 := (HB.out.cell (World.block_lt_of_cell? w _ hx190_0)).trans hx190_0
                    replace hx190_1 := (HB.out.cell (World.block_lt_of_cell? w _ hx190_1)).trans hx190_1
                    replace p190 := eq_true p190
                    replace q190 := eq_true q190
                    have p191 : 0 ≤ (x3_2 : Int) := of_decide_eq_true (by first | (with_reducible assumption) | assumption)
                    have q191 : x3_2 < (l0_4.length : Int) := of_decide_eq_true (by first | (with_reducible assumption) | assumption)
                    obtain ⟨ad191, e191, hx191_0, hx191_1⟩ := at_T48 HR0_4.out x3_2 p191 q191
                    obtain rfl : ad190 = ad191 := (by injection e191)
                    replace hx191_0 := (HB.out.cell (World.block_lt_of_cell? w _ hx191_0)).trans hx191_0
                    replace hx191_1 := (HB.out.cell (World.block_lt_of_cell? w _ hx191_1)).trans hx191_1
                    replace p191 := eq_true p191
                    replace q191 := eq_true q191
                    go_wp2
                    go_ret
                    exact ⟨by first | rfl | (simp [errW_none, errW_some] <;> rfl) | (simp [*, errW_none, errW_some] <;> rfl), by repeat (first | (with_reducible first | exact HB.out | apply below_alloc | apply pw_below_drewN | apply below_drew1 | refine below_set ?_ GE189.out) | exact HB.out)⟩
                  · rw [if_neg c14] at H
                    have c14b0 : decide (150 < (((rd_T48 l0_4 x3_2).f1).size : Int)) = false := decide_eq_false c14
                    have c14b1 : decide (150 < ((rd_T48 l0_4 x3_2).f1).size) = false := decide_eq_false (by omega)
                    clear c14
                    have H' := Aside0.mk H
                    clear H
                    have hcz16_0 : wr.cell? ⟨gb189, 0, none⟩ = some (.string a0_0) := (blk_cell BK189.out 0).trans rfl
                    have hcz16_1 : wr.cell? ⟨gb189, 1, none⟩ = some (.int .i64 a0_1) := (blk_cell BK189.out 1).trans rfl
                    have hcz16_2 : wr.cell? ⟨gb189, 2, none⟩ = some (.slice A0_2 l0_2.length c0_2) := (blk_cell BK189.out 2).trans rfl
                    have hcz16_3 : wr.cell? ⟨gb189, 3, none⟩ = some (.int .i64 a0_3) := (blk_cell BK189.out 3).trans rfl
                    have hcz16_4 : wr.cell? ⟨gb189, 4, none⟩ = some (.slice A0_4 l0_4.length c0_4) := (blk_cell BK189.out 4).trans rfl
                    have hcz16_5 : wr.cell? ⟨gb189, 5, none⟩ = some (.int .i64 a0_5) := (blk_cell BK189.out 5).trans rfl
                    have hfz16_0 := blk_frozen BK189.out 0
                    have hfz16_1 := blk_frozen BK189.out 1
                    have hfz16_2 := blk_frozen BK189.out 2
                    have hfz16_3 := blk_frozen BK189.out 3
                    have hfz16_4 := blk_frozen BK189.out 4
                    have hfz16_5 := blk_frozen BK189.out 5
                    have p190 : 0 ≤ (x3_2 : Int) := of_decide_eq_true (by first | (with_reducible assumption) | assumption)
                    have q190 : x3_2 < (l0_4.length : Int) := of_decide_eq_true (by first | (with_reducible assumption) | assumption)
                    obtain ⟨ad190, e190, hx190_0, hx190_1⟩ := at_T48 HR0_4.out x3_2 p190 q190
                    cases e190
                    replace hx190_0 := (HB.out.cell (World.block_lt_of_cell? w _ hx190_0)).trans hx190_0
                    replace hx190_1 := (HB.out.cell (World.block_lt_of_cell? w _ hx190_1)).trans hx190_1
                    replace p190 := eq_true p190
                    replace q190 := eq_true q190
                    have p191 : 0 ≤ (x3_2 : Int) := of_decide_eq_true (by first | (with_reducible assumption) | assumption)
                    have q191 : x3_2 < (l0_4.length : Int) := of_decide_eq_true (by first | (with_reducible assumption) | assumption)
                    obtain ⟨ad191, e191, hx191_0, hx191_1⟩ := at_T48 HR0_4.out x3_2 p191 q191
                    obtain rfl : ad190 = ad191 := (by injection e191)
                    replace hx191_0 := (HB.out.cell (World.block_lt_of_cell? w _ hx191_0)).trans hx191_0
                    replace hx191_1 := (HB.out.cell (World.block_lt_of_cell? w _ hx191_1)).trans hx191_1
                    replace p191 := eq_true p191
                    replace q191 := eq_true q191
                    go_wp2
                    go_roundg k2
                    case measure => have := HJ1.out; have := HK2.out; omega
                    case rel => exact ⟨(wrap64 (x3_2 + 1)), (by first | rfl | (simp; done) | (simp [*]; done)), H', ⟨by have := HJ1.out; have := HK2.out; omega⟩, ⟨by (with_reducible repeat (first | refine blk_drewN ?_ _ | refine blk_drew ?_ | refine blk_alloc ?_ _)); exact BK189.out⟩, ⟨by repeat (first | (with_reducible first | exact HB.out | apply below_alloc | apply pw_below_drewN | apply below_drew1 | refine below_set ?_ GE189.out) | exact HB.out)⟩⟩
              · rw [if_neg c11] at H
                exact absurd H (by simp)
            · rw [if_neg c10] at H
              have c10b0 : decide (x3_2 < (l0_4.length : Int)) = false := decide_eq_false c10
              clear c10
              obtain rfl := Option.some.inj H
              have hcz17_0 : wr.cell? ⟨gb189, 0, none⟩ = some (.string a0_0) := (blk_cell BK189.out 0).trans rfl
              have hcz17_1 : wr.cell? ⟨gb189, 1, none⟩ = some (.int .i64 a0_1) := (blk_cell BK189.out 1).trans rfl
              have hcz17_2 : wr.cell? ⟨gb189, 2, none⟩ = some (.slice A0_2 l0_2.length c0_2) := (blk_cell BK189.out 2).trans rfl
              have hcz17_3 : wr.cell? ⟨gb189, 3, none⟩ = some (.int .i64 a0_3) := (blk_cell BK189.out 3).trans rfl
              have hcz17_4 : wr.cell? ⟨gb189, 4, none⟩ = some (.slice A0_4 l0_4.length c0_4) := (blk_cell BK189.out 4).trans rfl
              have hcz17_5 : wr.cell? ⟨gb189, 5, none⟩ = some (.int .i64 a0_5) := (blk_cell BK189.out 5).trans rfl
              have hfz17_0 := blk_frozen BK189.out 0
              have hfz17_1 := blk_frozen BK189.out 1
              have hfz17_2 := blk_frozen BK189.out 2
              have hfz17_3 := blk_frozen BK189.out 3
              have hfz17_4 := blk_frozen BK189.out 4
              have hfz17_5 := blk_frozen BK189.out 5
              go_wp2
              go_ret
              exact ⟨by first | rfl | (simp [errW_none, errW_some] <;> rfl) | (simp [*, errW_none, errW_some] <;> rfl), by repeat (first | (with_reducible first | exact HB.out | apply below_alloc | apply pw_below_drewN | apply below_drew1 | refine below_set ?_ GE189.out) | exact HB.out)⟩
/-! ### forebaylaw08_Few: function 20 -/
mutual
def forebaylaw08_Few.l0 : Nat → List (S25) → Int → Option (Bool)
  | 0, _, _ => none
  | k + 1, x0, x3 => if x3 < (x0.length : Int) then (forebaylaw08_Few.j1 k x0 x3 (decide (x3 < 13))) else (forebaylaw08_Few.j1 k x0 x3 false)
def forebaylaw08_Few.j1 : Nat → List (S25) → Int → Bool → Option (Bool)
  | 0, _, _, _ => none
  | k + 1, x0, x3, x11 => if x11 = true then (if 0 ≤ x3 then (if x3 < (x0.length : Int) then ((forebaylaw07_Few.f k ((rd_T25 x0 x3).f0) ((rd_T25 x0 x3).f1) ((rd_T25 x0 x3).f2) ((rd_T25 x0 x3).f3) ((rd_T25 x0 x3).f4) ((rd_T25 x0 x3).f5)).bind fun t193 => (if t193 = true then (forebaylaw08_Few.l0 k x0 (wrap64 (x3 + 1))) else (some false))) else (none)) else (none)) else (some (decide ((x0.length : Int) ≤ 12)))
end
def forebaylaw08_Few.f (k : Nat) (l0 : List (S25)) : Option (Bool) := forebaylaw08_Few.l0 k l0 0
set_option maxHeartbeats 8000000 in
set_option maxRecDepth 100000 in
theorem forebaylaw08_Few.calls (k : Nat) (A0 : Option Addr) (c0 : Nat) (l0 : List (S25)) (r : Bool) (w : World) (hr0 : Kd.C k25 w A0 l0.length l0) (hc0 : l0.length ≤ c0) (h : forebaylaw08_Few.f k l0 = some r) :
    Calls Try.prog 20 #[.slice A0 l0.length c0] w fun e w' => e = .returned (.bool r) ∧ Below w.heap.size w w' := by
  have hu25 := Try.underlying25
  have HR0 := Aside0.mk hr0
  have HC0 := Aside0.mk hc0
  clear hr0 hc0
  have HB := Aside0.mk (Below.refl w.heap.size w)
  have H : (forebaylaw08_Few.l0 k l0 0) = some r := h
  clear h
  have H' := Aside0.mk H
  clear H
  go_enter Try.func20, Try.ntmps20
  go_wp2
  go_loopg [3] k (fun kq v3 w' => ∃ (x3_1 : Int), v3 = .int .i64 x3_1 ∧ Aside0 (forebaylaw08_Few.l0 kq l0 x3_1 = some r) ∧ Aside0 (kq ≤ k) ∧ Aside0 (Below w.heap.size w w'))
  case atStart => exact ⟨(0), (by first | rfl | (simp; done) | (simp [*]; done)), H', ⟨Nat.le_refl _⟩, ⟨by repeat (first | (with_reducible first | exact HB.out | apply below_alloc | apply pw_below_drewN | apply below_drew1) | exact HB.out)⟩⟩
  case round =>
    clear H'
    obtain ⟨x3_1, rfl, HA, HK1, HB⟩ := hrel
    cases gk with
    | zero => exact absurd HA.out (by simp [forebaylaw08_Few.l0])
    | succ k1 =>
      have H := HA.out
      clear HA
      simp only [forebaylaw08_Few.l0] at H
      have HC2 := Aside0.mk H
      clear H
      go_upto_region 2 with (fail)
      go_cut [11] (fun v11 wc => ∃ (kq : Nat) (x11_1 : Bool), v11 = .bool x11_1 ∧ Aside0 (forebaylaw08_Few.j1 kq l0 x3_1 x11_1 = some r) ∧ Aside0 (kq ≤ k1) ∧ Aside0 (Below w.heap.size w wc))
      case first =>
        have H := HC2.out
        clear HC2
        by_cases c3 : x3_1 < (l0.length : Int)
        · rw [if_pos c3] at H
          have c3b0 : decide (x3_1 < (l0.length : Int)) = true := decide_eq_true c3
          clear c3
          (first | rw [c3b0] | (simp only [i64_w, i32_w]; rw [c3b0]) | skip)
          have H' := Aside0.mk H
          clear H
          go_wp2
          go_meet
          case rel => exact ⟨_, (decide (x3_1 < 13)), (by first | rfl | (simp; done) | (simp [*]; done)), H', ⟨by have := HK1.out; first | omega | exact Nat.le_refl _⟩, ⟨by repeat (first | (with_reducible first | exact HB.out | apply below_alloc | apply pw_below_drewN | apply below_drew1) | exact HB.out)⟩⟩
        · rw [if_neg c3] at H
          have c3b0 : decide (x3_1 < (l0.length : Int)) = false := decide_eq_false c3
          clear c3
          (first | rw [c3b0] | (simp only [i64_w, i32_w]; rw [c3b0]) | skip)
          have H' := Aside0.mk H
          clear H
          go_wp2
          go_meet
          case rel => exact ⟨_, (false), (by first | rfl | (simp; done) | (simp [*]; done)), H', ⟨by have := HK1.out; first | omega | exact Nat.le_refl _⟩, ⟨by repeat (first | (with_reducible first | exact HB.out | apply below_alloc | apply pw_below_drewN | apply below_drew1) | exact HB.out)⟩⟩
      case rest =>
        clear HC2
        try clear c2
        try clear p2
        try clear c3
        try clear c3b0
        obtain ⟨kq, x11_1, rfl, HA, HJ1, HB⟩ := hcut
        cases kq with
        | zero => exact absurd HA.out (by simp [forebaylaw08_Few.j1])
        | succ kj1 =>
          have H := HA.out
          clear HA
          simp only [forebaylaw08_Few.j1] at H
          by_cases c4 : x11_1 = true
          · subst c4
            have H1 : (if 0 ≤ x3_1 then (if x3_1 < (l0.length : Int) then ((forebaylaw07_Few.f kj1 ((rd_T25 l0 x3_1).f0) ((rd_T25 l0 x3_1).f1) ((rd_T25 l0 x3_1).f2) ((rd_T25 l0 x3_1).f3) ((rd_T25 l0 x3_1).f4) ((rd_T25 l0 x3_1).f5)).bind fun t193 => (if t193 = true then (forebaylaw08_Few.l0 kj1 l0 (wrap64 (x3_1 + 1))) else (some false))) else (none)) else (none)) = some r := by rw [if_pos rfl] at H; exact H
            clear H
            have H := H1
            clear H1
            by_cases c5 : 0 ≤ x3_1
            · rw [if_pos c5] at H
              have c5b0 : decide (0 ≤ x3_1) = true := decide_eq_true c5
              clear c5
              by_cases c6 : x3_1 < (l0.length : Int)
              · rw [if_pos c6] at H
                have c6b0 : decide (x3_1 < (l0.length : Int)) = true := decide_eq_true c6
                clear c6
                replace H := Option.bind_eq_some_iff.mp H
                obtain ⟨t193, A70, H⟩ := H
                replace H : (if t193 = true then (forebaylaw08_Few.l0 kj1 l0 (wrap64 (x3_1 + 1))) else (some false)) = some r := H
                have A7 := Aside0.mk A70
                clear A70
                by_cases c8 : t193 = true
                · subst c8
                  have H1 : (forebaylaw08_Few.l0 kj1 l0 (wrap64 (x3_1 + 1))) = some r := by rw [if_pos rfl] at H; exact H
                  clear H
                  have H := H1
                  clear H1
                  have H' := Aside0.mk H
                  clear H
                  have p192 : 0 ≤ (x3_1 : Int) := of_decide_eq_true (by first | (with_reducible assumption) | assumption)
                  have q192 : x3_1 < (l0.length : Int) := of_decide_eq_true (by first | (with_reducible assumption) | assumption)
                  obtain ⟨ad192, A192_2, c192_2, A192_4, c192_4, e192, hx192_0, hx192_1, hx192_2, hx192_3, hx192_4, hx192_5, hl192_2, hi192_2, hl192_4, hi192_4⟩ := at_T25 HR0.out x3_1 p192 q192
                  cases e192
                  replace hx192_0 := (HB.out.cell (World.block_lt_of_cell? w _ hx192_0)).trans hx192_0
                  replace hx192_1 := (HB.out.cell (World.block_lt_of_cell? w _ hx192_1)).trans hx192_1
                  replace hx192_2 := (HB.out.cell (World.block_lt_of_cell? w _ hx192_2)).trans hx192_2
                  replace hx192_3 := (HB.out.cell (World.block_lt_of_cell? w _ hx192_3)).trans hx192_3
                  replace hx192_4 := (HB.out.cell (World.block_lt_of_cell? w _ hx192_4)).trans hx192_4
                  replace hx192_5 := (HB.out.cell (World.block_lt_of_cell? w _ hx192_5)).trans hx192_5
                  have HR192_2 := Aside0.mk hi192_2
                  have HC192_2 := Aside0.mk hl192_2
                  clear hi192_2 hl192_2
                  have HR192_4 := Aside0.mk hi192_4
                  have HC192_4 := Aside0.mk hl192_4
                  clear hi192_4 hl192_4
                  replace p192 := eq_true p192
                  replace q192 := eq_true q192
                  go_wp2_with (first | ((with_reducible refine gate_callee (f := 12) rfl ?_); refine goesL_ (some 18) rfl rfl Try.func12 (by kernel_rfl) rfl #[.agg #[.string ((rd_T25 l0 x3_1).f0), .int .i64 ((rd_T25 l0 x3_1).f1), .slice A192_2 ((rd_T25 l0 x3_1).f2).length c192_2, .int .i64 ((rd_T25 l0 x3_1).f3), .slice A192_4 ((rd_T25 l0 x3_1).f4).length c192_4, .int .i64 ((rd_T25 l0 x3_1).f5)]] rfl (by (try simp only [List.map_toArray, List.map_cons, List.map_nil]); first | done | rfl | (simp only [List.length_drop, List.length_take]; rfl)) ?_; (with_reducible refine (forebaylaw07_Few.calls kj1 ((rd_T25 l0 x3_1).f0) ((rd_T25 l0 x3_1).f1) _ _ ((rd_T25 l0 x3_1).f2) ((rd_T25 l0 x3_1).f3) _ _ ((rd_T25 l0 x3_1).f4) ((rd_T25 l0 x3_1).f5) true _ ?side1 ?side2 ?side3 ?side4 A7.out).mono ?_); (case side1 => repeat (first | exact (Kd.C_below HR192_2.out HB.out) | (with_reducible refine Kd.C_alloc ?_ _) | (with_reducible refine Kd.C_drewN ?_ _) | (with_reducible refine Kd.C_drew ?_))); (case side2 => exact HC192_2.out); (case side3 => repeat (first | exact (Kd.C_below HR192_4.out HB.out) | (with_reducible refine Kd.C_alloc ?_ _) | (with_reducible refine Kd.C_drewN ?_ _) | (with_reducible refine Kd.C_drew ?_))); (case side4 => exact HC192_4.out); rintro e w9 ⟨rfl, hb⟩; refine ⟨_, rfl, ?_⟩; have n0_ := Aside0.mk (below_step (by repeat (first | (with_reducible first | exact HB.out | apply below_alloc | apply pw_below_drewN | apply below_drew1) | exact HB.out)) hb); clear HB; have HB := n0_; clear n0_; (try clear hb); (try clear hb2); (try clear hk); (try clear hi)))
                  go_roundg kj1
                  case measure => have := HK1.out; have := HJ1.out; omega
                  case rel => exact ⟨(wrap64 (x3_1 + 1)), (by first | rfl | (simp; done) | (simp [*]; done)), H', ⟨by have := HK1.out; have := HJ1.out; omega⟩, ⟨by repeat (first | (with_reducible first | exact HB.out | apply below_alloc | apply pw_below_drewN | apply below_drew1) | exact HB.out)⟩⟩
                · replace c8 := Bool.eq_false_iff.mpr c8
                  subst c8
                  have H1 : (some false) = some r := by rw [if_neg (show ¬ (false = true) by decide)] at H; exact H
                  clear H
                  have H := H1
                  clear H1
                  obtain rfl := Option.some.inj H
                  have p192 : 0 ≤ (x3_1 : Int) := of_decide_eq_true (by first | (with_reducible assumption) | assumption)
                  have q192 : x3_1 < (l0.length : Int) := of_decide_eq_true (by first | (with_reducible assumption) | assumption)
                  obtain ⟨ad192, A192_2, c192_2, A192_4, c192_4, e192, hx192_0, hx192_1, hx192_2, hx192_3, hx192_4, hx192_5, hl192_2, hi192_2, hl192_4, hi192_4⟩ := at_T25 HR0.out x3_1 p192 q192
                  cases e192
                  replace hx192_0 := (HB.out.cell (World.block_lt_of_cell? w _ hx192_0)).trans hx192_0
                  replace hx192_1 := (HB.out.cell (World.block_lt_of_cell? w _ hx192_1)).trans hx192_1
                  replace hx192_2 := (HB.out.cell (World.block_lt_of_cell? w _ hx192_2)).trans hx192_2
                  replace hx192_3 := (HB.out.cell (World.block_lt_of_cell? w _ hx192_3)).trans hx192_3
                  replace hx192_4 := (HB.out.cell (World.block_lt_of_cell? w _ hx192_4)).trans hx192_4
                  replace hx192_5 := (HB.out.cell (World.block_lt_of_cell? w _ hx192_5)).trans hx192_5
                  have HR192_2 := Aside0.mk hi192_2
                  have HC192_2 := Aside0.mk hl192_2
                  clear hi192_2 hl192_2
                  have HR192_4 := Aside0.mk hi192_4
                  have HC192_4 := Aside0.mk hl192_4
                  clear hi192_4 hl192_4
                  replace p192 := eq_true p192
                  replace q192 := eq_true q192
                  go_wp2_with (first | ((with_reducible refine gate_callee (f := 12) rfl ?_); refine goesL_ (some 18) rfl rfl Try.func12 (by kernel_rfl) rfl #[.agg #[.string ((rd_T25 l0 x3_1).f0), .int .i64 ((rd_T25 l0 x3_1).f1), .slice A192_2 ((rd_T25 l0 x3_1).f2).length c192_2, .int .i64 ((rd_T25 l0 x3_1).f3), .slice A192_4 ((rd_T25 l0 x3_1).f4).length c192_4, .int .i64 ((rd_T25 l0 x3_1).f5)]] rfl (by (try simp only [List.map_toArray, List.map_cons, List.map_nil]); first | done | rfl | (simp only [List.length_drop, List.length_take]; rfl)) ?_; (with_reducible refine (forebaylaw07_Few.calls kj1 ((rd_T25 l0 x3_1).f0) ((rd_T25 l0 x3_1).f1) _ _ ((rd_T25 l0 x3_1).f2) ((rd_T25 l0 x3_1).f3) _ _ ((rd_T25 l0 x3_1).f4) ((rd_T25 l0 x3_1).f5) false _ ?side1 ?side2 ?side3 ?side4 A7.out).mono ?_); (case side1 => repeat (first | exact (Kd.C_below HR192_2.out HB.out) | (with_reducible refine Kd.C_alloc ?_ _) | (with_reducible refine Kd.C_drewN ?_ _) | (with_reducible refine Kd.C_drew ?_))); (case side2 => exact HC192_2.out); (case side3 => repeat (first | exact (Kd.C_below HR192_4.out HB.out) | (with_reducible refine Kd.C_alloc ?_ _) | (with_reducible refine Kd.C_drewN ?_ _) | (with_reducible refine Kd.C_drew ?_))); (case side4 => exact HC192_4.out); rintro e w10 ⟨rfl, hb⟩; refine ⟨_, rfl, ?_⟩; have n0_ := Aside0.mk (below_step (by repeat (first | (with_reducible first | exact HB.out | apply below_alloc | apply pw_below_drewN | apply below_drew1) | exact HB.out)) hb); clear HB; have HB := n0_; clear n0_; (try clear hb); (try clear hb2); (try clear hk); (try clear hi)))
                  go_ret
                  exact ⟨by first | rfl | (simp [errW_none, errW_some] <;> rfl) | (simp [*, errW_none, errW_some] <;> rfl), by repeat (first | (with_reducible first | exact HB.out | apply below_alloc | apply pw_below_drewN | apply below_drew1) | exact HB.out)⟩
              · rw [if_neg c6] at H
                exact absurd H (by simp)
            · rw [if_neg c5] at H
              exact absurd H (by simp)
          · replace c4 := Bool.eq_false_iff.mpr c4
            subst c4
            have H1 : (some (decide ((l0.length : Int) ≤ 12))) = some r := by rw [if_neg (show ¬ (false = true) by decide)] at H; exact H
            clear H
            have H := H1
            clear H1
            obtain rfl := Option.some.inj H
            go_wp2
            go_ret
            exact ⟨by first | rfl | (simp [errW_none, errW_some] <;> rfl) | (simp [*, errW_none, errW_some] <;> rfl), by repeat (first | (with_reducible first | exact HB.out | apply below_alloc | apply pw_below_drewN | apply below_drew1) | exact HB.out)⟩
/-! ### api_Dec_106: function 106 -/
def api_Dec_106.l0 : Nat → List (S46) → List (S46) → Int → Int → Option (Bool)
  | 0, _, _, _, _ => none
  | k + 1, x0, x1, x12, x13 => if x13 < x12 then (if 0 ≤ x13 then (if x13 < (x0.length : Int) then (if x13 < (x1.length : Int) then (if (!(((rd_T46 x0 x13).f0) == ((rd_T46 x1 x13).f0)) || (!(((rd_T46 x0 x13).f1) == ((rd_T46 x1 x13).f1)) || (!(((rd_T46 x0 x13).f2) == ((rd_T46 x1 x13).f2))))) = true then (some false) else (api_Dec_106.l0 k x0 x1 x12 (wrap64 (x13 + 1)))) else (none)) else (none)) else (none)) else (some true)
def api_Dec_106.f (k : Nat) (l0 : List (S46)) (l1 : List (S46)) : Option (Bool) := if (l0.length : Int) = (l1.length : Int) then (api_Dec_106.l0 k l0 l1 (l0.length : Int) 0) else (some false)
/-! ### api_Dec_61: function 61 -/
/-! ### api_Tag_107: function 107 -/
def api_Tag_107.l0 : Nat → List (S48) → List (S48) → Int → Int → Option (Bool)
  | 0, _, _, _, _ => none
  | k + 1, x0, x1, x12, x13 => if x13 < x12 then (if 0 ≤ x13 then (if x13 < (x0.length : Int) then (if x13 < (x1.length : Int) then (if (!((((rd_T48 x0 x13).f0).toList) == (((rd_T48 x1 x13).f0).toList)) || (!((((rd_T48 x0 x13).f1).toList) == (((rd_T48 x1 x13).f1).toList)))) = true then (some false) else (api_Tag_107.l0 k x0 x1 x12 (wrap64 (x13 + 1)))) else (none)) else (none)) else (none)) else (some true)
/-! ### api_Tag_62: function 62 -/
/-! ### metric_Equal: function 25 -/
/-! ### metric_Clone: function 24 -/
def metric_Clone.f (a0_0 : ByteArray) (a0_1 : Int) (l0_2 : List (S46)) (a0_3 : Int) (l0_4 : List (S48)) (a0_5 : Int) : Option (ByteArray × Int × (List (S46)) × Int × (List (S48)) × Int) := (slices_Clone_d.f l0_2).bind fun t206 => ((slices_Clone_t.f l0_4).bind fun t209 => (some (a0_0, a0_1, t206, a0_3, t209, a0_5)))
def metric_Clone.T1 : Bool × List (List Nat × List Nat) := (true, [([], []), ([0], [0]), ([1], [1]), ([], []), ([3], [3]), ([4, 2], [4]), ([0, 1, 2, 3, 4], []), ([6, 2, 5, 0, 1, 2, 3, 4], [2, 6]), ([0, 1, 2, 3, 4, 5, 6, 7], []), ([8, 5, 7, 0, 1, 2, 3, 4, 5, 6, 7], [5, 8])])
def metric_Clone.B1 : List Nat := [0, 1, 3, 0, 8, 31, 31, 127, 255, 511]
theorem metric_Clone.tab1 : rtab .any (opsOf Try.f24 1) = metric_Clone.T1 := by kernel_rfl
theorem metric_Clone.bits1 : waitsOk metric_Clone.T1.2 metric_Clone.B1 = true := by kernel_rfl
set_option maxHeartbeats 8000000 in
set_option maxRecDepth 100000 in
theorem metric_Clone.calls (a0_0 : ByteArray) (a0_1 : Int) (A0_2 : Option Addr) (c0_2 : Nat) (l0_2 : List (S46)) (a0_3 : Int) (A0_4 : Option Addr) (c0_4 : Nat) (l0_4 : List (S48)) (a0_5 : Int) (r1 : ByteArray) (r2 : Int) (r3 : List (S46)) (r4 : Int) (r5 : List (S48)) (r6 : Int) (w : World) (hr0_2 : Kd.C k46 w A0_2 l0_2.length l0_2) (hc0_2 : l0_2.length ≤ c0_2) (hr0_4 : Kd.C k48 w A0_4 l0_4.length l0_4) (hc0_4 : l0_4.length ≤ c0_4) (h : metric_Clone.f a0_0 a0_1 l0_2 a0_3 l0_4 a0_5 = some (r1, r2, r3, r4, r5, r6)) :
    Calls Try.prog 24 #[.agg #[.string a0_0, .int .i64 a0_1, .slice A0_2 l0_2.length c0_2, .int .i64 a0_3, .slice A0_4 l0_4.length c0_4, .int .i64 a0_5]] w fun e w' => ∃ v2_ v4_ : Value, e = .returned (.agg #[.string r1, .int .i64 r2, v2_, .int .i64 r4, v4_, .int .i64 r6]) ∧ Kd.R k46 46 w' w.heap.size (fun _ => True) v2_ r3 ∧ Kd.R k48 48 w' w.heap.size (fun _ => True) v4_ r5 ∧ Below w.heap.size w w' := by
  have hu25 := Try.underlying25
  have HR0_2 := Aside0.mk hr0_2
  have HC0_2 := Aside0.mk hc0_2
  clear hr0_2 hc0_2
  have HR0_4 := Aside0.mk hr0_4
  have HC0_4 := Aside0.mk hc0_4
  clear hr0_4 hc0_4
  have HB := Aside0.mk (Below.refl w.heap.size w)
  have H : ((slices_Clone_d.f l0_2).bind fun t206 => ((slices_Clone_t.f l0_4).bind fun t209 => (some (a0_0, a0_1, t206, a0_3, t209, a0_5)))) = some (r1, r2, r3, r4, r5, r6) := h
  clear h
  replace H := Option.bind_eq_some_iff.mp H
  obtain ⟨t206, A20, H⟩ := H
  replace H : ((slices_Clone_t.f l0_4).bind fun t209 => (some (a0_0, a0_1, t206, a0_3, t209, a0_5))) = some (r1, r2, r3, r4, r5, r6) := H
  have A2 := Aside0.mk A20
  clear A20
  replace H := Option.bind_eq_some_iff.mp H
  obtain ⟨t209, A30, H⟩ := H
  replace H : (some (a0_0, a0_1, t206, a0_3, t209, a0_5)) = some (r1, r2, r3, r4, r5, r6) := H
  have A3 := Aside0.mk A30
  clear A30
  simp only [Option.some.injEq, Prod.mk.injEq] at H
  obtain ⟨rfl, rfl, rfl, rfl, rfl, rfl⟩ := H
  go_enter Try.func24, Try.ntmps24
  try go_wp2_with (first | ((with_reducible refine gate_dst (N := 1) rfl ?_); refine box_event ?hg (N := 1) ?hd (cs := #[.string a0_0, .int .i64 a0_1, .slice A0_2 l0_2.length c0_2, .int .i64 a0_3, .slice A0_4 l0_4.length c0_4, .int .i64 a0_5]) (t := 25) ?hr ?_; (case hd => rfl); (case hg => rfl); (case hr => first | (go_simp; done) | (go_simp; rfl)); intro gb204 hg w4 hbox hb; have n0_ := Aside0.mk (below_step (by repeat (first | (with_reducible first | exact HB.out | apply below_alloc | apply pw_below_drewN | apply below_drew1) | exact HB.out)) hb); have n1_ := Aside0.mk (hbox); have n2_ := Aside0.mk ((by rw [hg]; exact (below_size (by repeat (first | (with_reducible first | exact HB.out | apply below_alloc | apply pw_below_drewN | apply below_drew1) | exact HB.out))) : w.heap.size ≤ gb204)); have n3_ := Aside0.mk ((by rw [hg]; exact (below_size (by repeat (first | (with_reducible first | exact HB.out | apply below_alloc | apply pw_below_drewN | apply below_drew1) | exact HB.out))) : w.heap.size ≤ gb204)); clear HB; have HB := n0_; have BK204 := n1_; have GW204 := n2_; have GE204 := n3_; clear n0_ n1_ n2_ n3_; clear hb hbox hg) | ((with_reducible refine gate_dst (N := 2) rfl ?_); refine box_event ?hg (N := 2) ?hd (cs := #[.string (⟨#[]⟩ : ByteArray), .int .i64 0, .slice none 0 0, .int .i64 0, .slice none 0 0, .int .i64 0]) (t := 25) ?hr ?_; (case hd => rfl); (case hg => rfl); (case hr => first | (go_simp; done) | (go_simp; rfl)); intro gb205 hg w5 hbox hb; have n0_ := Aside0.mk (blk_below (g := gb204) (o := .cells #[.string a0_0, .int .i64 a0_1, .slice A0_2 l0_2.length c0_2, .int .i64 a0_3, .slice A0_4 l0_4.length c0_4, .int .i64 a0_5] 25 (0, 0)) (by (with_reducible repeat (first | refine blk_drewN ?_ _ | refine blk_drew ?_ | refine blk_alloc ?_ _)); exact BK204.out) hb); have n1_ := Aside0.mk (below_step (by repeat (first | (with_reducible first | exact HB.out | apply below_alloc | apply pw_below_drewN | apply below_drew1 | refine below_set ?_ GE204.out) | exact HB.out)) hb); have n2_ := Aside0.mk (hbox); have n3_ := Aside0.mk ((by rw [hg]; exact (below_size (by repeat (first | (with_reducible first | exact HB.out | apply below_alloc | apply pw_below_drewN | apply below_drew1 | refine below_set ?_ GE204.out) | exact HB.out))) : w.heap.size ≤ gb205)); have n4_ := Aside0.mk ((by rw [hg]; exact (below_size (by repeat (first | (with_reducible first | exact HB.out | apply below_alloc | apply pw_below_drewN | apply below_drew1 | refine below_set ?_ GE204.out) | exact HB.out))) : w.heap.size ≤ gb205)); have n5_ := Aside0.mk ((by rw [hg]; exact Nat.ne_of_lt (blk_lt (g := gb204) (o := .cells #[.string a0_0, .int .i64 a0_1, .slice A0_2 l0_2.length c0_2, .int .i64 a0_3, .slice A0_4 l0_4.length c0_4, .int .i64 a0_5] 25 (0, 0)) (by (with_reducible repeat (first | refine blk_drewN ?_ _ | refine blk_drew ?_ | refine blk_alloc ?_ _)); exact BK204.out)) : gb204 ≠ gb205)); have n6_ := Aside0.mk ((by rw [hg]; exact Nat.ne_of_gt (blk_lt (g := gb204) (o := .cells #[.string a0_0, .int .i64 a0_1, .slice A0_2 l0_2.length c0_2, .int .i64 a0_3, .slice A0_4 l0_4.length c0_4, .int .i64 a0_5] 25 (0, 0)) (by (with_reducible repeat (first | refine blk_drewN ?_ _ | refine blk_drew ?_ | refine blk_alloc ?_ _)); exact BK204.out)) : gb205 ≠ gb204)); clear BK204; clear HB; have BK204 := n0_; have HB := n1_; have BK205 := n2_; have GW205 := n3_; have GE205 := n4_; have NB204_205 := n5_; have NB205_204 := n6_; clear n0_ n1_ n2_ n3_ n4_ n5_ n6_; clear hb hbox hg))
  have n0_ := Aside0.mk (blk_drew BK204.out)
  have n1_ := Aside0.mk (blk_drew BK205.out)
  have n2_ := Aside0.mk (below_drew1 HB.out)
  clear BK204
  clear BK205
  clear HB
  have BK204 := n0_
  have BK205 := n1_
  have HB := n2_
  clear n0_ n1_ n2_
  refine start_ (n := 10) (S := fun w' => w'.cell? ⟨gb204, 0, none⟩ = some (.string a0_0) ∧ w'.cell? ⟨gb204, 1, none⟩ = some (.int .i64 a0_1) ∧ w'.cell? ⟨gb204, 2, none⟩ = some (.slice A0_2 l0_2.length c0_2) ∧ w'.cell? ⟨gb204, 3, none⟩ = some (.int .i64 a0_3) ∧ w'.cell? ⟨gb204, 4, none⟩ = some (.slice A0_4 l0_4.length c0_4) ∧ w'.cell? ⟨gb204, 5, none⟩ = some (.int .i64 a0_5)) (ds := [7, 9]) #[false, false, false, false, false, false, false, false, false, false] (by kernel_rfl) rfl rfl ⟨(blk_cell BK204.out 0).trans rfl, (blk_cell BK204.out 1).trans rfl, (blk_cell BK204.out 2).trans rfl, (blk_cell BK204.out 3).trans rfl, (blk_cell BK204.out 4).trans rfl, (blk_cell BK204.out 5).trans rfl⟩ (fun hHeld => ?_); refine with_tabW metric_Clone.tab1 metric_Clone.bits1 (fun HT_ HW_ => ?_)
  generalize w5.drew = w6 at BK204 BK205 HB hHeld ⊢
  refine pure_ (i := 0) (N := some 3) (v := ?_) (a' := ?_) #[true, false, false, false, false, false, false, false, false, false] rfl rfl (any_of HT_.out (by kernel_rfl)) (fun _ _ _ h => h) (Or.inl ⟨by rfl, ?_⟩) ?_ ?_
  rotate_left
  · intro w'
    go_simp
    with_reducible rfl
  rotate_left
  · simp only [Act.put, List.setIfInBounds_toArray, List.set_cons_zero, List.set_cons_succ, i64_w, i32_w]
    rfl
  refine pure_ (i := 3) (N := some 6) (v := ?_) (a' := ?_) #[true, false, false, true, false, false, false, false, false, false] rfl rfl (any_of HT_.out (by kernel_rfl)) (fun _ _ _ h => h) (Or.inl ⟨by rfl, ?_⟩) ?_ ?_
  rotate_left
  · intro w'
    go_simp
    with_reducible rfl
  rotate_left
  · simp only [Act.put, List.setIfInBounds_toArray, List.set_cons_zero, List.set_cons_succ, i64_w, i32_w]
    rfl
  refine take_ (i := 1) (N := some 4) (v := ?_) (a' := ?_) #[true, true, false, true, false, false, false, false, false, false] rfl rfl (take_ofW HT_.out HW_.out (by kernel_rfl)) (fun _ _ _ h => h) (Or.inl ⟨by rfl, ?_⟩) hHeld ?_ ?_
  rotate_left
  · rintro w' ⟨s0, s1, s2, s3, s4, s5⟩
    go_simp
    with_reducible rfl
  rotate_left
  · simp only [Act.put, List.setIfInBounds_toArray, List.set_cons_zero, List.set_cons_succ, i64_w, i32_w]
    rfl
  refine take_ (i := 4) (N := some 7) (v := ?_) (a' := ?_) #[true, true, false, true, true, false, false, false, false, false] rfl rfl (take_ofW HT_.out HW_.out (by kernel_rfl)) (fun _ _ _ h => h) (Or.inl ⟨by rfl, ?_⟩) hHeld ?_ ?_
  rotate_left
  · rintro w' ⟨s0, s1, s2, s3, s4, s5⟩
    go_simp
    with_reducible rfl
  rotate_left
  · simp only [Act.put, List.setIfInBounds_toArray, List.set_cons_zero, List.set_cons_succ, i64_w, i32_w]
    rfl
  refine one_ (i := 2) (N := some 5) #[true, true, true, true, true, false, false, false, false, false] rfl rfl (one_of HT_.out (by kernel_rfl)) (by decide) (fun K hK => ?_)
  refine goes_ Try.func59 (by kernel_rfl) rfl #[.slice A0_2 l0_2.length c0_2] (by rfl) rfl rfl (by (try simp only [List.map_toArray, List.map_cons, List.map_nil]); first | done | rfl | (simp only [List.length_drop, List.length_take]; rfl)) ?_
  with_reducible refine (slices_Clone_d.calls _ _ l0_2 t206 _ ?side1 ?side2 A2.out).mono ?_
  (case side1 => repeat (first | exact (Kd.C_below HR0_2.out HB.out) | (with_reducible refine Kd.C_alloc ?_ _) | (with_reducible refine Kd.C_drewN ?_ _) | (with_reducible refine Kd.C_drew ?_)))
  (case side2 => exact HC0_2.out)
  rintro e w7 ⟨v207, rfl, ho0, hb⟩
  refine ⟨_, rfl, ?_⟩
  have n0_ := Aside0.mk (Kd.R_lower ho0 (below_size (by repeat (first | (with_reducible first | exact HB.out | apply below_alloc | apply pw_below_drewN | apply below_drew1 | refine below_set ?_ GE204.out | refine below_set ?_ GE205.out) | exact HB.out))))
  have n1_ := Aside0.mk (blk_below (g := gb204) (o := .cells #[.string a0_0, .int .i64 a0_1, .slice A0_2 l0_2.length c0_2, .int .i64 a0_3, .slice A0_4 l0_4.length c0_4, .int .i64 a0_5] 25 (0, 0)) (by (with_reducible repeat (first | refine blk_drewN ?_ _ | refine blk_drew ?_ | refine blk_alloc ?_ _)); exact BK204.out) hb)
  have n2_ := Aside0.mk (blk_below (g := gb205) (o := .cells #[.string (⟨#[]⟩ : ByteArray), .int .i64 0, .slice none 0 0, .int .i64 0, .slice none 0 0, .int .i64 0] 25 (0, 0)) (by (with_reducible repeat (first | refine blk_drewN ?_ _ | refine blk_drew ?_ | refine blk_alloc ?_ _)); exact BK205.out) hb)
  have n3_ := Aside0.mk (below_step (by repeat (first | (with_reducible first | exact HB.out | apply below_alloc | apply pw_below_drewN | apply below_drew1 | refine below_set ?_ GE204.out | refine below_set ?_ GE205.out) | exact HB.out)) hb)
  clear BK204
  clear BK205
  clear HB
  have HO208 := n0_
  have BK204 := n1_
  have BK205 := n2_
  have HB := n3_
  clear n0_ n1_ n2_ n3_
  (try clear hb)
  (try clear hb2)
  (try clear hk)
  (try clear hi)
  (try clear ho0)
  refine hK.out _ _ ⟨(blk_cell BK204.out 0).trans rfl, (blk_cell BK204.out 1).trans rfl, (blk_cell BK204.out 2).trans rfl, (blk_cell BK204.out 3).trans rfl, (blk_cell BK204.out 4).trans rfl, (blk_cell BK204.out 5).trans rfl⟩ (fun hHeld => ?_)
  clear hK K
  refine norm_ (a' := ?_) ?_ ?_
  rotate_left
  · show Act.put _ (some 5) _ = _
    simp only [Act.put, List.setIfInBounds_toArray, List.set_cons_zero, List.set_cons_succ, i64_w, i32_w]
    rfl
  refine pure_ (i := 6) (N := some 9) (v := ?_) (a' := ?_) #[true, true, true, true, true, false, true, false, false, false] rfl rfl (any_of HT_.out (by kernel_rfl)) (fun _ _ _ h => h) (Or.inl ⟨by rfl, ?_⟩) ?_ ?_
  rotate_left
  · intro w'
    go_simp
    with_reducible rfl
  rotate_left
  · simp only [Act.put, List.setIfInBounds_toArray, List.set_cons_zero, List.set_cons_succ, i64_w, i32_w]
    rfl
  refine one_ (i := 5) (N := some 8) #[true, true, true, true, true, true, true, false, false, false] rfl rfl (one_of HT_.out (by kernel_rfl)) (by decide) (fun K hK => ?_)
  refine goes_ Try.func60 (by kernel_rfl) rfl #[.slice A0_4 l0_4.length c0_4] (by rfl) rfl rfl (by (try simp only [List.map_toArray, List.map_cons, List.map_nil]); first | done | rfl | (simp only [List.length_drop, List.length_take]; rfl)) ?_
  with_reducible refine (slices_Clone_t.calls _ _ l0_4 t209 _ ?side1 ?side2 A3.out).mono ?_
  (case side1 => repeat (first | exact (Kd.C_below HR0_4.out HB.out) | (with_reducible refine Kd.C_alloc ?_ _) | (with_reducible refine Kd.C_drewN ?_ _) | (with_reducible refine Kd.C_drew ?_)))
  (case side2 => exact HC0_4.out)
  rintro e w8 ⟨v210, rfl, ho0, hb⟩
  refine ⟨_, rfl, ?_⟩
  have n0_ := Aside0.mk (Kd.R_below (by (with_reducible repeat (first | apply Kd.R_alloc | apply Kd.R_drewN | apply Kd.R_drew)); exact HO208.out) hb)
  have n1_ := Aside0.mk (Kd.R_lower ho0 (below_size (by repeat (first | (with_reducible first | exact HB.out | apply below_alloc | apply pw_below_drewN | apply below_drew1 | refine below_set ?_ GE204.out | refine below_set ?_ GE205.out) | exact HB.out))))
  have n2_ := Aside0.mk (blk_below (g := gb204) (o := .cells #[.string a0_0, .int .i64 a0_1, .slice A0_2 l0_2.length c0_2, .int .i64 a0_3, .slice A0_4 l0_4.length c0_4, .int .i64 a0_5] 25 (0, 0)) (by (with_reducible repeat (first | refine blk_drewN ?_ _ | refine blk_drew ?_ | refine blk_alloc ?_ _)); exact BK204.out) hb)
  have n3_ := Aside0.mk (blk_below (g := gb205) (o := .cells #[.string (⟨#[]⟩ : ByteArray), .int .i64 0, .slice none 0 0, .int .i64 0, .slice none 0 0, .int .i64 0] 25 (0, 0)) (by (with_reducible repeat (first | refine blk_drewN ?_ _ | refine blk_drew ?_ | refine blk_alloc ?_ _)); exact BK205.out) hb)
  have n4_ := Aside0.mk (below_step (by repeat (first | (with_reducible first | exact HB.out | apply below_alloc | apply pw_below_drewN | apply below_drew1 | refine below_set ?_ GE204.out | refine below_set ?_ GE205.out) | exact HB.out)) hb)
  clear HO208
  clear BK204
  clear BK205
  clear HB
  have HO208 := n0_
  have HO211 := n1_
  have BK204 := n2_
  have BK205 := n3_
  have HB := n4_
  clear n0_ n1_ n2_ n3_ n4_
  (try clear hb)
  (try clear hb2)
  (try clear hk)
  (try clear hi)
  (try clear ho0)
  obtain ⟨Ao9, co9, eo9⟩ := Kd.R_slice HO208.out
  (first | subst eo9 | (injection eo9 with f1_ f2_ f3_; have f4_ := f1_.symm; have f5_ := f3_.symm; clear f1_ f2_ f3_; subst f4_; subst f5_))
  obtain ⟨Ao11, co11, eo11⟩ := Kd.R_slice HO211.out
  (first | subst eo11 | (injection eo11 with f1_ f2_ f3_; have f4_ := f1_.symm; have f5_ := f3_.symm; clear f1_ f2_ f3_; subst f4_; subst f5_))
  refine hK.out _ _ ⟨(blk_cell BK204.out 0).trans rfl, (blk_cell BK204.out 1).trans rfl, (blk_cell BK204.out 2).trans rfl, (blk_cell BK204.out 3).trans rfl, (blk_cell BK204.out 4).trans rfl, (blk_cell BK204.out 5).trans rfl⟩ (fun hHeld => ?_)
  clear hK K
  refine norm_ (a' := ?_) ?_ ?_
  rotate_left
  · show Act.put _ (some 8) _ = _
    simp only [Act.put, List.setIfInBounds_toArray, List.set_cons_zero, List.set_cons_succ, i64_w, i32_w]
    rfl
  refine last_ (i := 7) (N := none) #[true, true, true, true, true, true, true, true, false, false] rfl rfl (one_of HT_.out (by kernel_rfl)) (by decide) (fun K hK => ?_)
  have hs10 : w8.cell? ⟨gb204, 2, none⟩ = some (.slice A0_2 l0_2.length c0_2) := (blk_cell BK204.out 2).trans rfl
  have hfs10 := blk_frozen BK204.out 2
  have hns10_1 := NB205_204.out
  have hms10_1 := NB204_205.out
  refine skip_ (w1 := ?_) (by rfl) rfl ?_ ?_
  rotate_left
  · go_simp
    rfl
  refine hK.out _ _ ?_
  clear hK K
  refine pure_ (i := 8) (N := some 10) (v := ?_) (a' := ?_) #[true, true, true, true, true, true, true, true, true, false] rfl rfl (any_of HT_.out (by kernel_rfl)) (fun _ _ _ h => h) (Or.inl ⟨by rfl, ?_⟩) ?_ ?_
  rotate_left
  · intro w'
    go_simp
    with_reducible rfl
  rotate_left
  · simp only [Act.put, List.setIfInBounds_toArray, List.set_cons_zero, List.set_cons_succ, i64_w, i32_w]
    rfl
  refine last_ (i := 9) (N := none) #[true, true, true, true, true, true, true, true, true, true] rfl rfl (one_of HT_.out (by kernel_rfl)) (by decide) (fun K hK => ?_)
  have hs12 : w8.cell? ⟨gb204, 4, none⟩ = some (.slice A0_4 l0_4.length c0_4) := (blk_cell BK204.out 4).trans rfl
  have hfs12 := blk_frozen BK204.out 4
  have hns12_1 := NB205_204.out
  have hms12_1 := NB204_205.out
  refine skip_ (w1 := ?_) (by rfl) rfl ?_ ?_
  rotate_left
  · go_simp
    rfl
  refine hK.out _ _ ?_
  clear hK K
  refine done_ (done_of HT_.out (by kernel_rfl)) ?_
  have hnb13 := NB204_205.out
  have hnc13 := NB205_204.out
  have hcz14_0 : w8.cell? ⟨gb204, 0, none⟩ = some (.string a0_0) := (blk_cell BK204.out 0).trans rfl
  have hcz14_1 : w8.cell? ⟨gb204, 1, none⟩ = some (.int .i64 a0_1) := (blk_cell BK204.out 1).trans rfl
  have hcz14_2 : w8.cell? ⟨gb204, 2, none⟩ = some (.slice A0_2 l0_2.length c0_2) := (blk_cell BK204.out 2).trans rfl
  have hcz14_3 : w8.cell? ⟨gb204, 3, none⟩ = some (.int .i64 a0_3) := (blk_cell BK204.out 3).trans rfl
  have hcz14_4 : w8.cell? ⟨gb204, 4, none⟩ = some (.slice A0_4 l0_4.length c0_4) := (blk_cell BK204.out 4).trans rfl
  have hcz14_5 : w8.cell? ⟨gb204, 5, none⟩ = some (.int .i64 a0_5) := (blk_cell BK204.out 5).trans rfl
  have hfz14_0 := blk_frozen BK204.out 0
  have hfz14_1 := blk_frozen BK204.out 1
  have hfz14_2 := blk_frozen BK204.out 2
  have hfz14_3 := blk_frozen BK204.out 3
  have hfz14_4 := blk_frozen BK204.out 4
  have hfz14_5 := blk_frozen BK204.out 5
  have hcz15_0 : w8.cell? ⟨gb205, 0, none⟩ = some (.string (⟨#[]⟩ : ByteArray)) := (blk_cell BK205.out 0).trans rfl
  have hcz15_1 : w8.cell? ⟨gb205, 1, none⟩ = some (.int .i64 0) := (blk_cell BK205.out 1).trans rfl
  have hcz15_2 : w8.cell? ⟨gb205, 2, none⟩ = some (.slice none 0 0) := (blk_cell BK205.out 2).trans rfl
  have hcz15_3 : w8.cell? ⟨gb205, 3, none⟩ = some (.int .i64 0) := (blk_cell BK205.out 3).trans rfl
  have hcz15_4 : w8.cell? ⟨gb205, 4, none⟩ = some (.slice none 0 0) := (blk_cell BK205.out 4).trans rfl
  have hcz15_5 : w8.cell? ⟨gb205, 5, none⟩ = some (.int .i64 0) := (blk_cell BK205.out 5).trans rfl
  have hfz15_0 := blk_frozen BK205.out 0
  have hfz15_1 := blk_frozen BK205.out 1
  have hfz15_2 := blk_frozen BK205.out 2
  have hfz15_3 := blk_frozen BK205.out 3
  have hfz15_4 := blk_frozen BK205.out 4
  have hfz15_5 := blk_frozen BK205.out 5
  try go_wp2
  refine bodyPost_ret (results_cell_row rfl _ _ gb205 25 #[.string a0_0, .int .i64 a0_1, .slice Ao9 t206.length co9, .int .i64 a0_3, .slice Ao11 t209.length co11, .int .i64 a0_5] (0, 0) _ rfl (by (with_reducible repeat (first | refine blk_drewN ?_ _ | refine blk_drew ?_ | refine blk_alloc ?_ _)); refine blk_put (cs := #[.string a0_0, .int .i64 a0_1, .slice Ao9 t206.length co9, .int .i64 a0_3, .slice Ao11 t209.length co11, .int .i64 0]) ?_ 5 _ rfl; (with_reducible repeat (first | refine blk_drewN ?_ _ | refine blk_drew ?_ | refine blk_alloc ?_ _)); refine blk_put (cs := #[.string a0_0, .int .i64 a0_1, .slice Ao9 t206.length co9, .int .i64 a0_3, .slice none 0 0, .int .i64 0]) ?_ 4 _ rfl; (with_reducible repeat (first | refine blk_drewN ?_ _ | refine blk_drew ?_ | refine blk_alloc ?_ _)); refine blk_put (cs := #[.string a0_0, .int .i64 a0_1, .slice Ao9 t206.length co9, .int .i64 0, .slice none 0 0, .int .i64 0]) ?_ 3 _ rfl; (with_reducible repeat (first | refine blk_drewN ?_ _ | refine blk_drew ?_ | refine blk_alloc ?_ _)); refine blk_put (cs := #[.string a0_0, .int .i64 a0_1, .slice none 0 0, .int .i64 0, .slice none 0 0, .int .i64 0]) ?_ 2 _ rfl; (with_reducible repeat (first | refine blk_drewN ?_ _ | refine blk_drew ?_ | refine blk_alloc ?_ _)); refine blk_put (cs := #[.string a0_0, .int .i64 0, .slice none 0 0, .int .i64 0, .slice none 0 0, .int .i64 0]) ?_ 1 _ rfl; (with_reducible repeat (first | refine blk_drewN ?_ _ | refine blk_drew ?_ | refine blk_alloc ?_ _)); refine blk_put (cs := #[.string (⟨#[]⟩ : ByteArray), .int .i64 0, .slice none 0 0, .int .i64 0, .slice none 0 0, .int .i64 0]) ?_ 0 _ rfl; (with_reducible repeat (first | refine blk_drewN ?_ _ | refine blk_drew ?_ | refine blk_alloc ?_ _)); refine blk_far ?_ NB205_204.out _; (with_reducible repeat (first | refine blk_drewN ?_ _ | refine blk_drew ?_ | refine blk_alloc ?_ _)); refine blk_far ?_ NB205_204.out _; (with_reducible repeat (first | refine blk_drewN ?_ _ | refine blk_drew ?_ | refine blk_alloc ?_ _)); exact BK205.out) Try.underlying25 rfl (by kernel_rfl)) rfl ?_
  exact ⟨_, _, by first | rfl | (simp [errW_none, errW_some] <;> rfl) | (simp [*, errW_none, errW_some] <;> rfl), by (with_reducible repeat (first | apply Kd.R_alloc | apply Kd.R_drewN | apply Kd.R_drew)); exact Kd.R_mono (Kd.R_far (p := ⟨gb205, 5, none⟩) (Kd.R_far (p := ⟨gb205, 4, none⟩) (Kd.R_far (p := ⟨gb205, 3, none⟩) (Kd.R_far (p := ⟨gb205, 2, none⟩) (Kd.R_far (p := ⟨gb205, 1, none⟩) (Kd.R_far (p := ⟨gb205, 0, none⟩) (Kd.R_far (p := ⟨gb204, 4, none⟩) (Kd.R_far (p := ⟨gb204, 2, none⟩) (Kd.R_types (Kd.R_types HO208.out BK204.out (by decide)) BK205.out (by decide)) (fun _ hk => hk.1.2) (.slice Ao9 t206.length co9)) (fun _ hk => hk.1.2) (.slice Ao11 t209.length co11)) (fun _ hk => hk.2) (.string a0_0)) (fun _ hk => hk.2) (.int .i64 a0_1)) (fun _ hk => hk.2) (.slice Ao9 t206.length co9)) (fun _ hk => hk.2) (.int .i64 a0_3)) (fun _ hk => hk.2) (.slice Ao11 t209.length co11)) (fun _ hk => hk.2) (.int .i64 a0_5)) (fun _ hk => trivial), by (with_reducible repeat (first | apply Kd.R_alloc | apply Kd.R_drewN | apply Kd.R_drew)); exact Kd.R_mono (Kd.R_far (p := ⟨gb205, 5, none⟩) (Kd.R_far (p := ⟨gb205, 4, none⟩) (Kd.R_far (p := ⟨gb205, 3, none⟩) (Kd.R_far (p := ⟨gb205, 2, none⟩) (Kd.R_far (p := ⟨gb205, 1, none⟩) (Kd.R_far (p := ⟨gb205, 0, none⟩) (Kd.R_far (p := ⟨gb204, 4, none⟩) (Kd.R_far (p := ⟨gb204, 2, none⟩) (Kd.R_types (Kd.R_types HO211.out BK204.out (by decide)) BK205.out (by decide)) (fun _ hk => hk.1.2) (.slice Ao9 t206.length co9)) (fun _ hk => hk.1.2) (.slice Ao11 t209.length co11)) (fun _ hk => hk.2) (.string a0_0)) (fun _ hk => hk.2) (.int .i64 a0_1)) (fun _ hk => hk.2) (.slice Ao9 t206.length co9)) (fun _ hk => hk.2) (.int .i64 a0_3)) (fun _ hk => hk.2) (.slice Ao11 t209.length co11)) (fun _ hk => hk.2) (.int .i64 a0_5)) (fun _ hk => trivial), by repeat (first | (with_reducible first | exact HB.out | apply below_alloc | apply pw_below_drewN | apply below_drew1 | refine below_set ?_ GE204.out | refine below_set ?_ GE205.out) | exact HB.out)⟩
/-! ### metric_Split: function 45 -/
def metric_Split.l0 : Nat → List (S25) → List (S46) → Int → Int → ByteArray → Int → List (S46) → Int → List (S48) → Int → Option ((List (S25)) × Int)
  | 0, _, _, _, _, _, _, _, _, _, _ => none
  | k + 1, x5, x15, x16, x17, x213000, x213001, x213002, x213003, x213004, x213005 => if x17 < x16 then (if 0 ≤ x17 then (if x17 < (x15.length : Int) then ((metric_Clone.f x213000 x213001 x213002 x213003 x213004 x213005).bind fun bt216 => (if x5.length < 1599289640401 then (metric_Split.l0 k (x5 ++ [(⟨bt216.1, bt216.2.1, (([(⟨(rd_T46 x15 x17).f0, (rd_T46 x15 x17).f1, (rd_T46 x15 x17).f2⟩ : S46)] : List (S46))), bt216.2.2.2.1, bt216.2.2.2.2.1, bt216.2.2.2.2.2⟩ : S25)]) x15 x16 (wrap64 (x17 + 1)) x213000 x213001 x213002 x213003 x213004 x213005) else (none))) else (none)) else (none)) else (some (x5, 0))
def metric_Split.f (k : Nat) (a0_0 : ByteArray) (a0_1 : Int) (l0_2 : List (S46)) (a0_3 : Int) (l0_4 : List (S48)) (a0_5 : Int) : Option ((List (S25)) × Int) := (metric_Check.f a0_0 a0_1 l0_2 a0_3 l0_4 a0_5).bind fun t213 => (if t213 = 0 then (metric_Split.l0 k ([] : List (S25)) l0_2 (l0_2.length : Int) 0 a0_0 a0_1 l0_2 a0_3 l0_4 a0_5) else (some (([] : List (S25)), t213)))
set_option maxHeartbeats 8000000 in
set_option maxRecDepth 100000 in
theorem metric_Split.calls (k : Nat) (a0_0 : ByteArray) (a0_1 : Int) (A0_2 : Option Addr) (c0_2 : Nat) (l0_2 : List (S46)) (a0_3 : Int) (A0_4 : Option Addr) (c0_4 : Nat) (l0_4 : List (S48)) (a0_5 : Int) (r1 : List (S25)) (r2 : Int) (w : World) (hr0_2 : Kd.C k46 w A0_2 l0_2.length l0_2) (hc0_2 : l0_2.length ≤ c0_2) (hr0_4 : Kd.C k48 w A0_4 l0_4.length l0_4) (hc0_4 : l0_4.length ≤ c0_4) (h : metric_Split.f k a0_0 a0_1 l0_2 a0_3 l0_4 a0_5 = some (r1, r2)) :
    Calls Try.prog 45 #[.agg #[.string a0_0, .int .i64 a0_1, .slice A0_2 l0_2.length c0_2, .int .i64 a0_3, .slice A0_4 l0_4.length c0_4, .int .i64 a0_5]] w fun e w' => ∃ v0_ : Value, e = .returned (.tuple #[v0_, .int .i64 r2]) ∧ Kd.S k25 25 w' w.heap.size (fun _ => True) v0_ r1 ∧ Below w.heap.size w w' := by
  have hu25 := Try.underlying25
  have hu46 := Try.underlying46
  have HR0_2 := Aside0.mk hr0_2
  have HC0_2 := Aside0.mk hc0_2
  clear hr0_2 hc0_2
  have HR0_4 := Aside0.mk hr0_4
  have HC0_4 := Aside0.mk hc0_4
  clear hr0_4 hc0_4
  have HB := Aside0.mk (Below.refl w.heap.size w)
  have H : ((metric_Check.f a0_0 a0_1 l0_2 a0_3 l0_4 a0_5).bind fun t213 => (if t213 = 0 then (metric_Split.l0 k ([] : List (S25)) l0_2 (l0_2.length : Int) 0 a0_0 a0_1 l0_2 a0_3 l0_4 a0_5) else (some (([] : List (S25)), t213)))) = some (r1, r2) := h
  clear h
  replace H := Option.bind_eq_some_iff.mp H
  obtain ⟨t213, A20, H⟩ := H
  replace H : (if t213 = 0 then (metric_Split.l0 k ([] : List (S25)) l0_2 (l0_2.length : Int) 0 a0_0 a0_1 l0_2 a0_3 l0_4 a0_5) else (some (([] : List (S25)), t213))) = some (r1, r2) := H
  have A2 := Aside0.mk A20
  clear A20
  by_cases c3 : t213 = 0
  · rw [if_pos c3] at H
    have c3b0 : (t213 == 0) = true := beq_iff_eq.mpr c3
    have c3b1 : (t213 != 0) = false := bne_eq_false_iff_eq.mpr c3
    clear c3
    have H' := Aside0.mk H
    clear H
    go_enter Try.func45, Try.ntmps45
    go_wp2_with (first | ((with_reducible refine gate_dst (N := 1) rfl ?_); refine box_event ?hg (N := 1) ?hd (cs := #[.string a0_0, .int .i64 a0_1, .slice A0_2 l0_2.length c0_2, .int .i64 a0_3, .slice A0_4 l0_4.length c0_4, .int .i64 a0_5]) (t := 25) ?hr ?_; (case hd => rfl); (case hg => rfl); (case hr => first | (go_simp; done) | (go_simp; rfl)); intro gb212 hg w4 hbox hb; have n0_ := Aside0.mk (below_step (by repeat (first | (with_reducible first | exact HB.out | apply below_alloc | apply pw_below_drewN | apply below_drew1) | exact HB.out)) hb); have n1_ := Aside0.mk (hbox); have n2_ := Aside0.mk ((by rw [hg]; exact (below_size (by repeat (first | (with_reducible first | exact HB.out | apply below_alloc | apply pw_below_drewN | apply below_drew1) | exact HB.out))) : w.heap.size ≤ gb212)); have n3_ := Aside0.mk ((by rw [hg]; exact (below_size (by repeat (first | (with_reducible first | exact HB.out | apply below_alloc | apply pw_below_drewN | apply below_drew1) | exact HB.out))) : w.heap.size ≤ gb212)); clear HB; have HB := n0_; have BK212 := n1_; have GW212 := n2_; have GE212 := n3_; clear n0_ n1_ n2_ n3_; clear hb hbox hg; have hcz5_0 : w4.cell? ⟨gb212, 0, none⟩ = some (.string a0_0) := (blk_cell BK212.out 0).trans rfl; have hcz5_1 : w4.cell? ⟨gb212, 1, none⟩ = some (.int .i64 a0_1) := (blk_cell BK212.out 1).trans rfl; have hcz5_2 : w4.cell? ⟨gb212, 2, none⟩ = some (.slice A0_2 l0_2.length c0_2) := (blk_cell BK212.out 2).trans rfl; have hcz5_3 : w4.cell? ⟨gb212, 3, none⟩ = some (.int .i64 a0_3) := (blk_cell BK212.out 3).trans rfl; have hcz5_4 : w4.cell? ⟨gb212, 4, none⟩ = some (.slice A0_4 l0_4.length c0_4) := (blk_cell BK212.out 4).trans rfl; have hcz5_5 : w4.cell? ⟨gb212, 5, none⟩ = some (.int .i64 a0_5) := (blk_cell BK212.out 5).trans rfl; have hfz5_0 := blk_frozen BK212.out 0; have hfz5_1 := blk_frozen BK212.out 1; have hfz5_2 := blk_frozen BK212.out 2; have hfz5_3 := blk_frozen BK212.out 3; have hfz5_4 := blk_frozen BK212.out 4; have hfz5_5 := blk_frozen BK212.out 5) | ((with_reducible refine gate_callee (f := 23) rfl ?_); refine goesL_ (some 10) rfl rfl Try.func23 (by kernel_rfl) rfl #[.agg #[.string a0_0, .int .i64 a0_1, .slice A0_2 l0_2.length c0_2, .int .i64 a0_3, .slice A0_4 l0_4.length c0_4, .int .i64 a0_5]] rfl (by (try simp only [List.map_toArray, List.map_cons, List.map_nil]); first | done | rfl | (simp only [List.length_drop, List.length_take]; rfl)) ?_; (with_reducible refine (metric_Check.calls a0_0 a0_1 _ _ l0_2 a0_3 _ _ l0_4 a0_5 t213 _ ?side1 ?side2 ?side3 ?side4 A2.out).mono ?_); (case side1 => repeat (first | exact (Kd.C_below HR0_2.out HB.out) | (with_reducible refine Kd.C_alloc ?_ _) | (with_reducible refine Kd.C_drewN ?_ _) | (with_reducible refine Kd.C_drew ?_))); (case side2 => exact HC0_2.out); (case side3 => repeat (first | exact (Kd.C_below HR0_4.out HB.out) | (with_reducible refine Kd.C_alloc ?_ _) | (with_reducible refine Kd.C_drewN ?_ _) | (with_reducible refine Kd.C_drew ?_))); (case side4 => exact HC0_4.out); rintro e w6 ⟨rfl, hb⟩; refine ⟨_, rfl, ?_⟩; have n0_ := Aside0.mk (blk_below (g := gb212) (o := .cells #[.string a0_0, .int .i64 a0_1, .slice A0_2 l0_2.length c0_2, .int .i64 a0_3, .slice A0_4 l0_4.length c0_4, .int .i64 a0_5] 25 (0, 0)) (by (with_reducible repeat (first | refine blk_drewN ?_ _ | refine blk_drew ?_ | refine blk_alloc ?_ _)); exact BK212.out) hb); have n1_ := Aside0.mk (below_step (by repeat (first | (with_reducible first | exact HB.out | apply below_alloc | apply pw_below_drewN | apply below_drew1 | refine below_set ?_ GE212.out) | exact HB.out)) hb); clear BK212; clear HB; have BK212 := n0_; have HB := n1_; clear n0_ n1_; (try clear hb); (try clear hb2); (try clear hk); (try clear hi); have hcz7_0 : w6.cell? ⟨gb212, 0, none⟩ = some (.string a0_0) := (blk_cell BK212.out 0).trans rfl; have hcz7_1 : w6.cell? ⟨gb212, 1, none⟩ = some (.int .i64 a0_1) := (blk_cell BK212.out 1).trans rfl; have hcz7_2 : w6.cell? ⟨gb212, 2, none⟩ = some (.slice A0_2 l0_2.length c0_2) := (blk_cell BK212.out 2).trans rfl; have hcz7_3 : w6.cell? ⟨gb212, 3, none⟩ = some (.int .i64 a0_3) := (blk_cell BK212.out 3).trans rfl; have hcz7_4 : w6.cell? ⟨gb212, 4, none⟩ = some (.slice A0_4 l0_4.length c0_4) := (blk_cell BK212.out 4).trans rfl; have hcz7_5 : w6.cell? ⟨gb212, 5, none⟩ = some (.int .i64 a0_5) := (blk_cell BK212.out 5).trans rfl; have hfz7_0 := blk_frozen BK212.out 0; have hfz7_1 := blk_frozen BK212.out 1; have hfz7_2 := blk_frozen BK212.out 2; have hfz7_3 := blk_frozen BK212.out 3; have hfz7_4 := blk_frozen BK212.out 4; have hfz7_5 := blk_frozen BK212.out 5))
    go_loopg [5, 17] k (fun kq v5 v17 w' => ∃ (x5_1 : List (S25)) (x17_1 : Int), v17 = .int .i64 x17_1 ∧ Aside0 (metric_Split.l0 kq x5_1 l0_2 (l0_2.length : Int) x17_1 a0_0 a0_1 l0_2 a0_3 l0_4 a0_5 = some (r1, r2)) ∧ Aside0 (kq ≤ k) ∧ Aside0 (Kd.S k25 25 w' w.heap.size (fun k_ => k_ ≠ gb212) v5 x5_1) ∧ Aside0 (w'.heap[gb212]? = some (.cells #[.string a0_0, .int .i64 a0_1, (.slice A0_2 l0_2.length c0_2), .int .i64 a0_3, (.slice A0_4 l0_4.length c0_4), .int .i64 a0_5] 25 (0, 0))) ∧ Aside0 (Below w.heap.size w w'))
    case atStart => exact ⟨(([] : List (S25))), (0), (by first | rfl | (simp; done) | (simp [*]; done)), H', ⟨Nat.le_refl _⟩, ⟨by first | exact Kd.S_nil _ _ _ _ _ | exact Kd.N_nil _ _ _ _ _ | exact Kd.V_nil _ _ _ _ _ | exact Kd.Q_nil _ _ _ _ _ | exact Kd.R_nil _ _ _ _ _⟩, ⟨by (with_reducible repeat (first | refine blk_drewN ?_ _ | refine blk_drew ?_ | refine blk_alloc ?_ _)); exact BK212.out⟩, ⟨by repeat (first | (with_reducible first | exact HB.out | apply below_alloc | apply pw_below_drewN | apply below_drew1 | refine below_set ?_ GE212.out) | exact HB.out)⟩⟩
    case round =>
      clear H'
      try clear c2
      try clear p2
      try clear c3
      try clear c3b0
      try clear c3b1
      try clear c4
      try clear hcz5_0
      try clear hcz5_1
      try clear hcz5_2
      try clear hcz5_3
      try clear hcz5_4
      try clear hcz5_5
      try clear hcz7_0
      try clear hcz7_1
      try clear hcz7_2
      try clear hcz7_3
      try clear hcz7_4
      try clear hcz7_5
      try clear hfz5_0
      try clear hfz5_1
      try clear hfz5_2
      try clear hfz5_3
      try clear hfz5_4
      try clear hfz5_5
      try clear hfz7_0
      try clear hfz7_1
      try clear hfz7_2
      try clear hfz7_3
      try clear hfz7_4
      try clear hfz7_5
      obtain ⟨x5_1, x17_1, rfl, HA, HK1, HO_5, BK212, HB⟩ := hrel
      cases gk with
      | zero => exact absurd HA.out (by simp [metric_Split.l0])
      | succ k1 =>
        have H := HA.out
        clear HA
        simp only [metric_Split.l0] at H
        by_cases c8 : x17_1 < (l0_2.length : Int)
        · rw [if_pos c8] at H
          have c8b0 : decide (x17_1 < (l0_2.length : Int)) = true := decide_eq_true c8
          clear c8
          by_cases c9 : 0 ≤ x17_1
          · rw [if_pos c9] at H
            have c9b0 : decide (0 ≤ x17_1) = true := decide_eq_true c9
            clear c9
            by_cases c10 : x17_1 < (l0_2.length : Int)
            · rw [if_pos c10] at H
              have c10b0 : decide (x17_1 < (l0_2.length : Int)) = true := decide_eq_true c10
              clear c10
              replace H := Option.bind_eq_some_iff.mp H
              obtain ⟨⟨t216, t217, t218, t221, t222, t225⟩, A110, H⟩ := H
              replace H : (if x5_1.length < 1599289640401 then (metric_Split.l0 k1 (x5_1 ++ [(⟨t216, t217, (([(⟨(rd_T46 l0_2 x17_1).f0, (rd_T46 l0_2 x17_1).f1, (rd_T46 l0_2 x17_1).f2⟩ : S46)] : List (S46))), t221, t222, t225⟩ : S25)]) l0_2 (l0_2.length : Int) (wrap64 (x17_1 + 1)) a0_0 a0_1 l0_2 a0_3 l0_4 a0_5) else (none)) = some (r1, r2) := H
              have A11 := Aside0.mk A110
              clear A110
              obtain ⟨y227, hy227⟩ : ∃ y_ : List (S46), y_ = (([(⟨(rd_T46 l0_2 x17_1).f0, (rd_T46 l0_2 x17_1).f1, (rd_T46 l0_2 x17_1).f2⟩ : S46)] : List (S46))) := ⟨_, rfl⟩
              replace H : (if x5_1.length < 1599289640401 then (metric_Split.l0 k1 (x5_1 ++ [(⟨t216, t217, y227, t221, t222, t225⟩ : S25)]) l0_2 (l0_2.length : Int) (wrap64 (x17_1 + 1)) a0_0 a0_1 l0_2 a0_3 l0_4 a0_5) else (none)) = some (r1, r2) := by first | (rw [hy227]; with_reducible exact H) | (have H2_ := (Option.bind_some _ _).symm.trans H; rw [hy227]; with_reducible exact H2_) | (have H2_ := (Option.bind_some _ _).symm.trans H; with_reducible exact H2_) | with_reducible exact H | (rw [hy227]; exact H) | exact H
              have Ny227 := Aside0.mk hy227
              clear hy227
              by_cases c12 : x5_1.length < 1599289640401
              · rw [if_pos c12] at H
                have LMc12 := Aside0.mk c12
                clear c12
                obtain ⟨y230, hy230⟩ : ∃ y_ : List (S25), y_ = (x5_1 ++ [(⟨t216, t217, y227, t221, t222, t225⟩ : S25)]) := ⟨_, rfl⟩
                replace H : (metric_Split.l0 k1 y230 l0_2 (l0_2.length : Int) (wrap64 (x17_1 + 1)) a0_0 a0_1 l0_2 a0_3 l0_4 a0_5) = some (r1, r2) := by first | (rw [hy230]; with_reducible exact H) | (have H2_ := (Option.bind_some _ _).symm.trans H; rw [hy230]; with_reducible exact H2_) | (have H2_ := (Option.bind_some _ _).symm.trans H; with_reducible exact H2_) | with_reducible exact H | (rw [hy230]; exact H) | exact H
                have Ny230 := Aside0.mk hy230
                clear hy230
                have H' := Aside0.mk H
                clear H
                have p214 : 0 ≤ (x17_1 : Int) := of_decide_eq_true (by first | (with_reducible assumption) | assumption)
                have q214 : x17_1 < (l0_2.length : Int) := of_decide_eq_true (by first | (with_reducible assumption) | assumption)
                obtain ⟨ad214, e214, hx214_0, hx214_1, hx214_2⟩ := at_T46 HR0_2.out x17_1 p214 q214
                cases e214
                replace hx214_0 := (HB.out.cell (World.block_lt_of_cell? w _ hx214_0)).trans hx214_0
                replace hx214_1 := (HB.out.cell (World.block_lt_of_cell? w _ hx214_1)).trans hx214_1
                replace hx214_2 := (HB.out.cell (World.block_lt_of_cell? w _ hx214_2)).trans hx214_2
                replace p214 := eq_true p214
                replace q214 := eq_true q214
                go_wp2_with (first | ((with_reducible refine gate_dst (N := 7) rfl ?_); refine box_event ?hg (N := 7) ?hd (cs := #[.bool false, .int .u64 0, .int .i64 0]) (t := 46) ?hr ?_; (case hd => rfl); (case hg => rfl); (case hr => first | (go_simp; done) | (go_simp; rfl)); intro gb215 hg w13 hbox hb; have n0_ := Aside0.mk (Kd.S_below (Kd.S_elderB (by (with_reducible repeat (first | apply Kd.S_alloc | apply Kd.S_drewN | apply Kd.S_drew)); exact HO_5.out) gb215 (Nat.le_of_eq hg.symm)) hb); have n1_ := Aside0.mk (blk_below (g := gb212) (o := .cells #[.string a0_0, .int .i64 a0_1, .slice (some ad214) l0_2.length c0_2, .int .i64 a0_3, .slice A0_4 l0_4.length c0_4, .int .i64 a0_5] 25 (0, 0)) (by (with_reducible repeat (first | refine blk_drewN ?_ _ | refine blk_drew ?_ | refine blk_alloc ?_ _)); exact BK212.out) hb); have n2_ := Aside0.mk (below_step (by repeat (first | (with_reducible first | exact HB.out | apply below_alloc | apply pw_below_drewN | apply below_drew1 | refine below_set ?_ GE212.out) | exact HB.out)) hb); have n3_ := Aside0.mk (hbox); have n4_ := Aside0.mk ((by rw [hg]; exact (below_size (by repeat (first | (with_reducible first | exact HB.out | apply below_alloc | apply pw_below_drewN | apply below_drew1 | refine below_set ?_ GE212.out) | exact HB.out))) : w.heap.size ≤ gb215)); have n5_ := Aside0.mk ((by rw [hg]; exact (below_size (by repeat (first | (with_reducible first | exact HB.out | apply below_alloc | apply pw_below_drewN | apply below_drew1 | refine below_set ?_ GE212.out) | exact HB.out))) : w.heap.size ≤ gb215)); have n6_ := Aside0.mk ((by rw [hg]; exact Nat.ne_of_lt (blk_lt (g := gb212) (o := .cells #[.string a0_0, .int .i64 a0_1, .slice (some ad214) l0_2.length c0_2, .int .i64 a0_3, .slice A0_4 l0_4.length c0_4, .int .i64 a0_5] 25 (0, 0)) (by (with_reducible repeat (first | refine blk_drewN ?_ _ | refine blk_drew ?_ | refine blk_alloc ?_ _)); exact BK212.out)) : gb212 ≠ gb215)); have n7_ := Aside0.mk ((by rw [hg]; exact Nat.ne_of_gt (blk_lt (g := gb212) (o := .cells #[.string a0_0, .int .i64 a0_1, .slice (some ad214) l0_2.length c0_2, .int .i64 a0_3, .slice A0_4 l0_4.length c0_4, .int .i64 a0_5] 25 (0, 0)) (by (with_reducible repeat (first | refine blk_drewN ?_ _ | refine blk_drew ?_ | refine blk_alloc ?_ _)); exact BK212.out)) : gb215 ≠ gb212)); clear HO_5; clear BK212; clear HB; have HO_5 := n0_; have BK212 := n1_; have HB := n2_; have BK215 := n3_; have GW215 := n4_; have GE215 := n5_; have NB212_215 := n6_; have NB215_212 := n7_; clear n0_ n1_ n2_ n3_ n4_ n5_ n6_ n7_; clear hb hbox hg; have hnb14 := NB215_212.out; have hnc14 := NB212_215.out; have hcz15_0 : w13.cell? ⟨gb215, 0, none⟩ = some (.bool false) := (blk_cell BK215.out 0).trans rfl; have hcz15_1 : w13.cell? ⟨gb215, 1, none⟩ = some (.int .u64 0) := (blk_cell BK215.out 1).trans rfl; have hcz15_2 : w13.cell? ⟨gb215, 2, none⟩ = some (.int .i64 0) := (blk_cell BK215.out 2).trans rfl; have hfz15_0 := blk_frozen BK215.out 0; have hfz15_1 := blk_frozen BK215.out 1; have hfz15_2 := blk_frozen BK215.out 2; have hcz16_0 : w13.cell? ⟨gb212, 0, none⟩ = some (.string a0_0) := (blk_cell BK212.out 0).trans rfl; have hcz16_1 : w13.cell? ⟨gb212, 1, none⟩ = some (.int .i64 a0_1) := (blk_cell BK212.out 1).trans rfl; have hcz16_2 : w13.cell? ⟨gb212, 2, none⟩ = some (.slice (some ad214) l0_2.length c0_2) := (blk_cell BK212.out 2).trans rfl; have hcz16_3 : w13.cell? ⟨gb212, 3, none⟩ = some (.int .i64 a0_3) := (blk_cell BK212.out 3).trans rfl; have hcz16_4 : w13.cell? ⟨gb212, 4, none⟩ = some (.slice A0_4 l0_4.length c0_4) := (blk_cell BK212.out 4).trans rfl; have hcz16_5 : w13.cell? ⟨gb212, 5, none⟩ = some (.int .i64 a0_5) := (blk_cell BK212.out 5).trans rfl; have hfz16_0 := blk_frozen BK212.out 0; have hfz16_1 := blk_frozen BK212.out 1; have hfz16_2 := blk_frozen BK212.out 2; have hfz16_3 := blk_frozen BK212.out 3; have hfz16_4 := blk_frozen BK212.out 4; have hfz16_5 := blk_frozen BK212.out 5) | ((with_reducible refine gate_callee (f := 24) rfl ?_); refine goesL_ (some 22) rfl rfl Try.func24 (by kernel_rfl) rfl #[.agg #[.string a0_0, .int .i64 a0_1, .slice (some ad214) l0_2.length c0_2, .int .i64 a0_3, .slice A0_4 l0_4.length c0_4, .int .i64 a0_5]] rfl (by (try simp only [List.map_toArray, List.map_cons, List.map_nil]); first | done | rfl | (simp only [List.length_drop, List.length_take]; rfl)) ?_; (with_reducible refine (metric_Clone.calls a0_0 a0_1 _ _ l0_2 a0_3 _ _ l0_4 a0_5 t216 t217 t218 t221 t222 t225 _ ?side1 ?side2 ?side3 ?side4 A11.out).mono ?_); (case side1 => exact Kd.C_below HR0_2.out (by repeat (first | (with_reducible first | exact HB.out | apply below_alloc | apply pw_below_drewN | apply below_drew1 | refine below_set ?_ GE212.out | refine below_set ?_ GE215.out) | exact HB.out))); (case side2 => exact HC0_2.out); (case side3 => exact Kd.C_below HR0_4.out (by repeat (first | (with_reducible first | exact HB.out | apply below_alloc | apply pw_below_drewN | apply below_drew1 | refine below_set ?_ GE212.out | refine below_set ?_ GE215.out) | exact HB.out))); (case side4 => exact HC0_4.out); rintro e w17 ⟨v219, v223, rfl, ho0, ho1, hb⟩; refine ⟨_, rfl, ?_⟩; have n0_ := Aside0.mk (Kd.S_mono (Kd.S_told (Kd.S_told (Kd.S_old (by (with_reducible repeat (first | apply Kd.S_alloc | apply Kd.S_drewN | apply Kd.S_drew)); exact (Kd.S_mono (Kd.S_far (p := ⟨gb215, 2, none⟩) (Kd.S_far (p := ⟨gb215, 1, none⟩) (Kd.S_far (p := ⟨gb215, 0, none⟩) (Kd.S_mono HO_5.out (fun k_ hk => (⟨hk, hk.2⟩ : _ ∧ k_ ≠ gb215))) (fun _ hk => hk.2) (.bool ((rd_T46 l0_2 x17_1).f0))) (fun _ hk => hk.2) (.int .u64 ((rd_T46 l0_2 x17_1).f1))) (fun _ hk => hk.2) (.int .i64 ((rd_T46 l0_2 x17_1).f2))) (fun _ h_ => h_.1))) hb) (Kd.R_base ho0)) (Kd.R_base ho1)) (fun _ h_ => h_.1)); have n1_ := Aside0.mk (Kd.R_lower (Kd.R_newB ho0 (g := gb215) (o := .cells #[.bool ((rd_T46 l0_2 x17_1).f0), .int .u64 ((rd_T46 l0_2 x17_1).f1), .int .i64 ((rd_T46 l0_2 x17_1).f2)] 46 (0, 0)) (by (with_reducible repeat (first | refine blk_drewN ?_ _ | refine blk_drew ?_ | refine blk_alloc ?_ _)); refine blk_put (cs := #[.bool ((rd_T46 l0_2 x17_1).f0), .int .u64 ((rd_T46 l0_2 x17_1).f1), .int .i64 0]) ?_ 2 _ rfl; (with_reducible repeat (first | refine blk_drewN ?_ _ | refine blk_drew ?_ | refine blk_alloc ?_ _)); refine blk_put (cs := #[.bool ((rd_T46 l0_2 x17_1).f0), .int .u64 0, .int .i64 0]) ?_ 1 _ rfl; (with_reducible repeat (first | refine blk_drewN ?_ _ | refine blk_drew ?_ | refine blk_alloc ?_ _)); refine blk_put (cs := #[.bool false, .int .u64 0, .int .i64 0]) ?_ 0 _ rfl; (with_reducible repeat (first | refine blk_drewN ?_ _ | refine blk_drew ?_ | refine blk_alloc ?_ _)); exact BK215.out)) (below_size (by repeat (first | (with_reducible first | exact HB.out | apply below_alloc | apply pw_below_drewN | apply below_drew1 | refine below_set ?_ GE212.out | refine below_set ?_ GE215.out) | exact HB.out)))); have n2_ := Aside0.mk (Kd.R_lower ho1 (below_size (by repeat (first | (with_reducible first | exact HB.out | apply below_alloc | apply pw_below_drewN | apply below_drew1 | refine below_set ?_ GE212.out | refine below_set ?_ GE215.out) | exact HB.out)))); have n3_ := Aside0.mk (blk_below (g := gb212) (o := .cells #[.string a0_0, .int .i64 a0_1, .slice (some ad214) l0_2.length c0_2, .int .i64 a0_3, .slice A0_4 l0_4.length c0_4, .int .i64 a0_5] 25 (0, 0)) (by (with_reducible repeat (first | refine blk_drewN ?_ _ | refine blk_drew ?_ | refine blk_alloc ?_ _)); refine blk_far ?_ NB212_215.out _; (with_reducible repeat (first | refine blk_drewN ?_ _ | refine blk_drew ?_ | refine blk_alloc ?_ _)); refine blk_far ?_ NB212_215.out _; (with_reducible repeat (first | refine blk_drewN ?_ _ | refine blk_drew ?_ | refine blk_alloc ?_ _)); refine blk_far ?_ NB212_215.out _; (with_reducible repeat (first | refine blk_drewN ?_ _ | refine blk_drew ?_ | refine blk_alloc ?_ _)); exact BK212.out) hb); have n4_ := Aside0.mk (blk_below (g := gb215) (o := .cells #[.bool ((rd_T46 l0_2 x17_1).f0), .int .u64 ((rd_T46 l0_2 x17_1).f1), .int .i64 ((rd_T46 l0_2 x17_1).f2)] 46 (0, 0)) (by (with_reducible repeat (first | refine blk_drewN ?_ _ | refine blk_drew ?_ | refine blk_alloc ?_ _)); refine blk_put (cs := #[.bool ((rd_T46 l0_2 x17_1).f0), .int .u64 ((rd_T46 l0_2 x17_1).f1), .int .i64 0]) ?_ 2 _ rfl; (with_reducible repeat (first | refine blk_drewN ?_ _ | refine blk_drew ?_ | refine blk_alloc ?_ _)); refine blk_put (cs := #[.bool ((rd_T46 l0_2 x17_1).f0), .int .u64 0, .int .i64 0]) ?_ 1 _ rfl; (with_reducible repeat (first | refine blk_drewN ?_ _ | refine blk_drew ?_ | refine blk_alloc ?_ _)); refine blk_put (cs := #[.bool false, .int .u64 0, .int .i64 0]) ?_ 0 _ rfl; (with_reducible repeat (first | refine blk_drewN ?_ _ | refine blk_drew ?_ | refine blk_alloc ?_ _)); exact BK215.out) hb); have n5_ := Aside0.mk (below_step (by repeat (first | (with_reducible first | exact HB.out | apply below_alloc | apply pw_below_drewN | apply below_drew1 | refine below_set ?_ GE212.out | refine below_set ?_ GE215.out) | exact HB.out)) hb); clear HO_5; clear BK212; clear BK215; clear HB; have HO_5 := n0_; have HO220 := n1_; have HO224 := n2_; have BK212 := n3_; have BK215 := n4_; have HB := n5_; clear n0_ n1_ n2_ n3_ n4_ n5_; (try clear hb); (try clear hb2); (try clear hk); (try clear hi); (try clear ho0); (try clear ho1)) | ((with_reducible refine gate_dst (N := 8) rfl ?_); refine box_event ?hg (N := 8) ?hd (cs := #[.string (⟨#[]⟩ : ByteArray), .int .i64 0, .slice none 0 0, .int .i64 0, .slice none 0 0, .int .i64 0]) (t := 25) ?hr ?_; (case hd => rfl); (case hg => rfl); (case hr => first | (go_simp; done) | (go_simp; rfl)); intro gb226 hg w18 hbox hb; have n0_ := Aside0.mk (Kd.S_below (Kd.S_elderB (by (with_reducible repeat (first | apply Kd.S_alloc | apply Kd.S_drewN | apply Kd.S_drew)); exact HO_5.out) gb226 (Nat.le_of_eq hg.symm)) hb); have n1_ := Aside0.mk (Kd.R_below (by (with_reducible repeat (first | apply Kd.R_alloc | apply Kd.R_drewN | apply Kd.R_drew)); exact HO220.out) hb); have n2_ := Aside0.mk (Kd.R_below (by (with_reducible repeat (first | apply Kd.R_alloc | apply Kd.R_drewN | apply Kd.R_drew)); exact HO224.out) hb); have n3_ := Aside0.mk (blk_below (g := gb212) (o := .cells #[.string a0_0, .int .i64 a0_1, .slice (some ad214) l0_2.length c0_2, .int .i64 a0_3, .slice A0_4 l0_4.length c0_4, .int .i64 a0_5] 25 (0, 0)) (by (with_reducible repeat (first | refine blk_drewN ?_ _ | refine blk_drew ?_ | refine blk_alloc ?_ _)); exact BK212.out) hb); have n4_ := Aside0.mk (blk_below (g := gb215) (o := .cells #[.bool ((rd_T46 l0_2 x17_1).f0), .int .u64 ((rd_T46 l0_2 x17_1).f1), .int .i64 ((rd_T46 l0_2 x17_1).f2)] 46 (0, 0)) (by (with_reducible repeat (first | refine blk_drewN ?_ _ | refine blk_drew ?_ | refine blk_alloc ?_ _)); exact BK215.out) hb); have n5_ := Aside0.mk (below_step (by repeat (first | (with_reducible first | exact HB.out | apply below_alloc | apply pw_below_drewN | apply below_drew1 | refine below_set ?_ GE212.out | refine below_set ?_ GE215.out) | exact HB.out)) hb); have n6_ := Aside0.mk (hbox); have n7_ := Aside0.mk ((by rw [hg]; exact (below_size (by repeat (first | (with_reducible first | exact HB.out | apply below_alloc | apply pw_below_drewN | apply below_drew1 | refine below_set ?_ GE212.out | refine below_set ?_ GE215.out) | exact HB.out))) : w.heap.size ≤ gb226)); have n8_ := Aside0.mk ((by rw [hg]; exact (below_size (by repeat (first | (with_reducible first | exact HB.out | apply below_alloc | apply pw_below_drewN | apply below_drew1 | refine below_set ?_ GE212.out | refine below_set ?_ GE215.out) | exact HB.out))) : w.heap.size ≤ gb226)); have n9_ := Aside0.mk ((by rw [hg]; exact Nat.ne_of_lt (blk_lt (g := gb212) (o := .cells #[.string a0_0, .int .i64 a0_1, .slice (some ad214) l0_2.length c0_2, .int .i64 a0_3, .slice A0_4 l0_4.length c0_4, .int .i64 a0_5] 25 (0, 0)) (by (with_reducible repeat (first | refine blk_drewN ?_ _ | refine blk_drew ?_ | refine blk_alloc ?_ _)); exact BK212.out)) : gb212 ≠ gb226)); have n10_ := Aside0.mk ((by rw [hg]; exact Nat.ne_of_gt (blk_lt (g := gb212) (o := .cells #[.string a0_0, .int .i64 a0_1, .slice (some ad214) l0_2.length c0_2, .int .i64 a0_3, .slice A0_4 l0_4.length c0_4, .int .i64 a0_5] 25 (0, 0)) (by (with_reducible repeat (first | refine blk_drewN ?_ _ | refine blk_drew ?_ | refine blk_alloc ?_ _)); exact BK212.out)) : gb226 ≠ gb212)); have n11_ := Aside0.mk ((by rw [hg]; exact Nat.ne_of_lt (blk_lt (g := gb215) (o := .cells #[.bool ((rd_T46 l0_2 x17_1).f0), .int .u64 ((rd_T46 l0_2 x17_1).f1), .int .i64 ((rd_T46 l0_2 x17_1).f2)] 46 (0, 0)) (by (with_reducible repeat (first | refine blk_drewN ?_ _ | refine blk_drew ?_ | refine blk_alloc ?_ _)); exact BK215.out)) : gb215 ≠ gb226)); have n12_ := Aside0.mk ((by rw [hg]; exact Nat.ne_of_gt (blk_lt (g := gb215) (o := .cells #[.bool ((rd_T46 l0_2 x17_1).f0), .int .u64 ((rd_T46 l0_2 x17_1).f1), .int .i64 ((rd_T46 l0_2 x17_1).f2)] 46 (0, 0)) (by (with_reducible repeat (first | refine blk_drewN ?_ _ | refine blk_drew ?_ | refine blk_alloc ?_ _)); exact BK215.out)) : gb226 ≠ gb215)); clear HO_5; clear HO220; clear HO224; clear BK212; clear BK215; clear HB; have HO_5 := n0_; have HO220 := n1_; have HO224 := n2_; have BK212 := n3_; have BK215 := n4_; have HB := n5_; have BK226 := n6_; have GW226 := n7_; have GE226 := n8_; have NB212_226 := n9_; have NB226_212 := n10_; have NB215_226 := n11_; have NB226_215 := n12_; clear n0_ n1_ n2_ n3_ n4_ n5_ n6_ n7_ n8_ n9_ n10_ n11_ n12_; clear hb hbox hg; have hnb19 := NB226_212.out; have hnc19 := NB212_226.out; have hnb20 := NB226_215.out; have hnc20 := NB215_226.out; have hcz21_0 : w18.cell? ⟨gb226, 0, none⟩ = some (.string (⟨#[]⟩ : ByteArray)) := (blk_cell BK226.out 0).trans rfl; have hcz21_1 : w18.cell? ⟨gb226, 1, none⟩ = some (.int .i64 0) := (blk_cell BK226.out 1).trans rfl; have hcz21_2 : w18.cell? ⟨gb226, 2, none⟩ = some (.slice none 0 0) := (blk_cell BK226.out 2).trans rfl; have hcz21_3 : w18.cell? ⟨gb226, 3, none⟩ = some (.int .i64 0) := (blk_cell BK226.out 3).trans rfl; have hcz21_4 : w18.cell? ⟨gb226, 4, none⟩ = some (.slice none 0 0) := (blk_cell BK226.out 4).trans rfl; have hcz21_5 : w18.cell? ⟨gb226, 5, none⟩ = some (.int .i64 0) := (blk_cell BK226.out 5).trans rfl; have hfz21_0 := blk_frozen BK226.out 0; have hfz21_1 := blk_frozen BK226.out 1; have hfz21_2 := blk_frozen BK226.out 2; have hfz21_3 := blk_frozen BK226.out 3; have hfz21_4 := blk_frozen BK226.out 4; have hfz21_5 := blk_frozen BK226.out 5; obtain ⟨Ao22, co22, eo22⟩ := Kd.R_slice HO220.out; subst eo22; obtain ⟨Ao23, co23, eo23⟩ := Kd.R_slice HO224.out; subst eo23; have hcz24_0 : w18.cell? ⟨gb215, 0, none⟩ = some (.bool ((rd_T46 l0_2 x17_1).f0)) := (blk_cell BK215.out 0).trans rfl; have hcz24_1 : w18.cell? ⟨gb215, 1, none⟩ = some (.int .u64 ((rd_T46 l0_2 x17_1).f1)) := (blk_cell BK215.out 1).trans rfl; have hcz24_2 : w18.cell? ⟨gb215, 2, none⟩ = some (.int .i64 ((rd_T46 l0_2 x17_1).f2)) := (blk_cell BK215.out 2).trans rfl; have hfz24_0 := blk_frozen BK215.out 0; have hfz24_1 := blk_frozen BK215.out 1; have hfz24_2 := blk_frozen BK215.out 2) | ((with_reducible refine gate_dst (N := 24) rfl ?_); refine Kd.R_lit k46 _ 46 ?hg (N := 24) ?hd (xs := ([(⟨(rd_T46 l0_2 x17_1).f0, (rd_T46 l0_2 x17_1).f1, (rd_T46 l0_2 x17_1).f2⟩ : S46)] : List (S46))) (inner := [.bool ((rd_T46 l0_2 x17_1).f0), .int .u64 ((rd_T46 l0_2 x17_1).f1), .int .i64 ((rd_T46 l0_2 x17_1).f2)]) (ok := fun _ => True) (okp := fun _ => True) ?hr ?hp (fun _ hk => hk) trivial (Below.refl _ _) (Nat.le_refl _) (by simp) ?_; (case hd => rfl); (case hg => rfl); (case hr => first | (go_simp; done) | (go_simp; rfl)); (case hp => exact (Reps.c3 (show Kd.M k46 _ _ _ (⟨(rd_T46 l0_2 x17_1).f0, (rd_T46 l0_2 x17_1).f1, (rd_T46 l0_2 x17_1).f2⟩ : S46) [.bool ((rd_T46 l0_2 x17_1).f0), .int .u64 ((rd_T46 l0_2 x17_1).f1), .int .i64 ((rd_T46 l0_2 x17_1).f2)] from (k46_mkM _ _ _ (⟨(rd_T46 l0_2 x17_1).f0, (rd_T46 l0_2 x17_1).f1, (rd_T46 l0_2 x17_1).f2⟩ : S46) )) (Reps.none _ _))); intro v228 w25 ho26 hb hg_ hnew_; clear hg_ hnew_; (first | rw [← Ny227.out] at ho26 | (simp only [Int.reduceToNat] at ho26; rw [← Ny227.out] at ho26)); have n0_ := Aside0.mk (Kd.S_elder' (by (with_reducible repeat (first | apply Kd.S_alloc | apply Kd.S_drewN | apply Kd.S_drew)); exact (Kd.S_mono (Kd.S_far (p := ⟨gb226, 5, none⟩) (Kd.S_far (p := ⟨gb226, 4, none⟩) (Kd.S_far (p := ⟨gb226, 3, none⟩) (Kd.S_far (p := ⟨gb226, 2, none⟩) (Kd.S_far (p := ⟨gb226, 1, none⟩) (Kd.S_far (p := ⟨gb226, 0, none⟩) (Kd.S_mono HO_5.out (fun k_ hk => (⟨hk, hk.2⟩ : _ ∧ k_ ≠ gb226))) (fun _ hk => hk.2) (.string t216)) (fun _ hk => hk.2) (.int .i64 t217)) (fun _ hk => hk.2) (.slice Ao22 t218.length co22)) (fun _ hk => hk.2) (.int .i64 t221)) (fun _ hk => hk.2) (.slice Ao23 t222.length co23)) (fun _ hk => hk.2) (.int .i64 t225)) (fun _ h_ => h_.1))) (Kd.R_base ho26) hb); have n1_ := Aside0.mk (Kd.R_elder' (by (with_reducible repeat (first | apply Kd.R_alloc | apply Kd.R_drewN | apply Kd.R_drew)); exact (Kd.R_mono (Kd.R_far (p := ⟨gb226, 5, none⟩) (Kd.R_far (p := ⟨gb226, 4, none⟩) (Kd.R_far (p := ⟨gb226, 3, none⟩) (Kd.R_far (p := ⟨gb226, 2, none⟩) (Kd.R_far (p := ⟨gb226, 1, none⟩) (Kd.R_far (p := ⟨gb226, 0, none⟩) (Kd.R_types HO220.out BK226.out (by decide)) (fun _ hk => hk.2) (.string t216)) (fun _ hk => hk.2) (.int .i64 t217)) (fun _ hk => hk.2) (.slice Ao22 t218.length co22)) (fun _ hk => hk.2) (.int .i64 t221)) (fun _ hk => hk.2) (.slice Ao23 t222.length co23)) (fun _ hk => hk.2) (.int .i64 t225)) (fun _ h_ => h_.1))) (Kd.R_base ho26) hb); have n2_ := Aside0.mk (Kd.R_below (by (with_reducible repeat (first | apply Kd.R_alloc | apply Kd.R_drewN | apply Kd.R_drew)); exact (Kd.R_mono (Kd.R_far (p := ⟨gb226, 5, none⟩) (Kd.R_far (p := ⟨gb226, 4, none⟩) (Kd.R_far (p := ⟨gb226, 3, none⟩) (Kd.R_far (p := ⟨gb226, 2, none⟩) (Kd.R_far (p := ⟨gb226, 1, none⟩) (Kd.R_far (p := ⟨gb226, 0, none⟩) (Kd.R_types HO224.out BK226.out (by decide)) (fun _ hk => hk.2) (.string t216)) (fun _ hk => hk.2) (.int .i64 t217)) (fun _ hk => hk.2) (.slice Ao22 t218.length co22)) (fun _ hk => hk.2) (.int .i64 t221)) (fun _ hk => hk.2) (.slice Ao23 t222.length co23)) (fun _ hk => hk.2) (.int .i64 t225)) (fun _ h_ => h_.1))) hb); have n3_ := Aside0.mk (Kd.R_lower (Kd.R_newB (Kd.R_new' ho26 (Kd.R_lt (by (with_reducible repeat (first | apply Kd.R_alloc | apply Kd.R_drewN | apply Kd.R_drew)); exact (Kd.R_mono (Kd.R_far (p := ⟨gb226, 5, none⟩) (Kd.R_far (p := ⟨gb226, 4, none⟩) (Kd.R_far (p := ⟨gb226, 3, none⟩) (Kd.R_far (p := ⟨gb226, 2, none⟩) (Kd.R_far (p := ⟨gb226, 1, none⟩) (Kd.R_far (p := ⟨gb226, 0, none⟩) (Kd.R_types HO220.out BK226.out (by decide)) (fun _ hk => hk.2) (.string t216)) (fun _ hk => hk.2) (.int .i64 t217)) (fun _ hk => hk.2) (.slice Ao22 t218.length co22)) (fun _ hk => hk.2) (.int .i64 t221)) (fun _ hk => hk.2) (.slice Ao23 t222.length co23)) (fun _ hk => hk.2) (.int .i64 t225)) (fun _ h_ => h_.1))))) (g := gb215) (o := .cells #[.bool ((rd_T46 l0_2 x17_1).f0), .int .u64 ((rd_T46 l0_2 x17_1).f1), .int .i64 ((rd_T46 l0_2 x17_1).f2)] 46 (0, 0)) (by (with_reducible repeat (first | refine blk_drewN ?_ _ | refine blk_drew ?_ | refine blk_alloc ?_ _)); refine blk_far ?_ NB215_226.out _; (with_reducible repeat (first | refine blk_drewN ?_ _ | refine blk_drew ?_ | refine blk_alloc ?_ _)); refine blk_far ?_ NB215_226.out _; (with_reducible repeat (first | refine blk_drewN ?_ _ | refine blk_drew ?_ | refine blk_alloc ?_ _)); refine blk_far ?_ NB215_226.out _; (with_reducible repeat (first | refine blk_drewN ?_ _ | refine blk_drew ?_ | refine blk_alloc ?_ _)); refine blk_far ?_ NB215_226.out _; (with_reducible repeat (first | refine blk_drewN ?_ _ | refine blk_drew ?_ | refine blk_alloc ?_ _)); refine blk_far ?_ NB215_226.out _; (with_reducible repeat (first | refine blk_drewN ?_ _ | refine blk_drew ?_ | refine blk_alloc ?_ _)); refine blk_far ?_ NB215_226.out _; (with_reducible repeat (first | refine blk_drewN ?_ _ | refine blk_drew ?_ | refine blk_alloc ?_ _)); exact BK215.out)) (below_size (by repeat (first | (with_reducible first | exact HB.out | apply below_alloc | apply pw_below_drewN | apply below_drew1 | refine below_set ?_ GE212.out | refine below_set ?_ GE215.out | refine below_set ?_ GE226.out) | exact HB.out)))); have n4_ := Aside0.mk (blk_below (g := gb212) (o := .cells #[.string a0_0, .int .i64 a0_1, .slice (some ad214) l0_2.length c0_2, .int .i64 a0_3, .slice A0_4 l0_4.length c0_4, .int .i64 a0_5] 25 (0, 0)) (by (with_reducible repeat (first | refine blk_drewN ?_ _ | refine blk_drew ?_ | refine blk_alloc ?_ _)); refine blk_far ?_ NB212_226.out _; (with_reducible repeat (first | refine blk_drewN ?_ _ | refine blk_drew ?_ | refine blk_alloc ?_ _)); refine blk_far ?_ NB212_226.out _; (with_reducible repeat (first | refine blk_drewN ?_ _ | refine blk_drew ?_ | refine blk_alloc ?_ _)); refine blk_far ?_ NB212_226.out _; (with_reducible repeat (first | refine blk_drewN ?_ _ | refine blk_drew ?_ | refine blk_alloc ?_ _)); refine blk_far ?_ NB212_226.out _; (with_reducible repeat (first | refine blk_drewN ?_ _ | refine blk_drew ?_ | refine blk_alloc ?_ _)); refine blk_far ?_ NB212_226.out _; (with_reducible repeat (first | refine blk_drewN ?_ _ | refine blk_drew ?_ | refine blk_alloc ?_ _)); refine blk_far ?_ NB212_226.out _; (with_reducible repeat (first | refine blk_drewN ?_ _ | refine blk_drew ?_ | refine blk_alloc ?_ _)); exact BK212.out) hb); have n5_ := Aside0.mk (blk_below (g := gb215) (o := .cells #[.bool ((rd_T46 l0_2 x17_1).f0), .int .u64 ((rd_T46 l0_2 x17_1).f1), .int .i64 ((rd_T46 l0_2 x17_1).f2)] 46 (0, 0)) (by (with_reducible repeat (first | refine blk_drewN ?_ _ | refine blk_drew ?_ | refine blk_alloc ?_ _)); refine blk_far ?_ NB215_226.out _; (with_reducible repeat (first | refine blk_drewN ?_ _ | refine blk_drew ?_ | refine blk_alloc ?_ _)); refine blk_far ?_ NB215_226.out _; (with_reducible repeat (first | refine blk_drewN ?_ _ | refine blk_drew ?_ | refine blk_alloc ?_ _)); refine blk_far ?_ NB215_226.out _; (with_reducible repeat (first | refine blk_drewN ?_ _ | refine blk_drew ?_ | refine blk_alloc ?_ _)); refine blk_far ?_ NB215_226.out _; (with_reducible repeat (first | refine blk_drewN ?_ _ | refine blk_drew ?_ | refine blk_alloc ?_ _)); refine blk_far ?_ NB215_226.out _; (with_reducible repeat (first | refine blk_drewN ?_ _ | refine blk_drew ?_ | refine blk_alloc ?_ _)); refine blk_far ?_ NB215_226.out _; (with_reducible repeat (first | refine blk_drewN ?_ _ | refine blk_drew ?_ | refine blk_alloc ?_ _)); exact BK215.out) hb); have n6_ := Aside0.mk (blk_below (g := gb226) (o := .cells #[.string t216, .int .i64 t217, .slice Ao22 t218.length co22, .int .i64 t221, .slice Ao23 t222.length co23, .int .i64 t225] 25 (0, 0)) (by (with_reducible repeat (first | refine blk_drewN ?_ _ | refine blk_drew ?_ | refine blk_alloc ?_ _)); refine blk_put (cs := #[.string t216, .int .i64 t217, .slice Ao22 t218.length co22, .int .i64 t221, .slice Ao23 t222.length co23, .int .i64 0]) ?_ 5 _ rfl; (with_reducible repeat (first | refine blk_drewN ?_ _ | refine blk_drew ?_ | refine blk_alloc ?_ _)); refine blk_put (cs := #[.string t216, .int .i64 t217, .slice Ao22 t218.length co22, .int .i64 t221, .slice none 0 0, .int .i64 0]) ?_ 4 _ rfl; (with_reducible repeat (first | refine blk_drewN ?_ _ | refine blk_drew ?_ | refine blk_alloc ?_ _)); refine blk_put (cs := #[.string t216, .int .i64 t217, .slice Ao22 t218.length co22, .int .i64 0, .slice none 0 0, .int .i64 0]) ?_ 3 _ rfl; (with_reducible repeat (first | refine blk_drewN ?_ _ | refine blk_drew ?_ | refine blk_alloc ?_ _)); refine blk_put (cs := #[.string t216, .int .i64 t217, .slice none 0 0, .int .i64 0, .slice none 0 0, .int .i64 0]) ?_ 2 _ rfl; (with_reducible repeat (first | refine blk_drewN ?_ _ | refine blk_drew ?_ | refine blk_alloc ?_ _)); refine blk_put (cs := #[.string t216, .int .i64 0, .slice none 0 0, .int .i64 0, .slice none 0 0, .int .i64 0]) ?_ 1 _ rfl; (with_reducible repeat (first | refine blk_drewN ?_ _ | refine blk_drew ?_ | refine blk_alloc ?_ _)); refine blk_put (cs := #[.string (⟨#[]⟩ : ByteArray), .int .i64 0, .slice none 0 0, .int .i64 0, .slice none 0 0, .int .i64 0]) ?_ 0 _ rfl; (with_reducible repeat (first | refine blk_drewN ?_ _ | refine blk_drew ?_ | refine blk_alloc ?_ _)); exact BK226.out) hb); have n7_ := Aside0.mk (below_step (by repeat (first | (with_reducible first | exact HB.out | apply below_alloc | apply pw_below_drewN | apply below_drew1 | refine below_set ?_ GE212.out | refine below_set ?_ GE215.out | refine below_set ?_ GE226.out) | exact HB.out)) hb); clear HO_5; clear HO220; clear HO224; clear BK212; clear BK215; clear BK226; clear HB; have HO_5 := n0_; have HO220 := n1_; have HO224 := n2_; have HO229 := n3_; have BK212 := n4_; have BK215 := n5_; have BK226 := n6_; have HB := n7_; clear n0_ n1_ n2_ n3_ n4_ n5_ n6_ n7_; clear hb ho26; obtain ⟨Ao27, co27, eo27⟩ := Kd.R_slice HO229.out; subst eo27; have hcz28_0 : w25.cell? ⟨gb226, 0, none⟩ = some (.string t216) := (blk_cell BK226.out 0).trans rfl; have hcz28_1 : w25.cell? ⟨gb226, 1, none⟩ = some (.int .i64 t217) := (blk_cell BK226.out 1).trans rfl; have hcz28_2 : w25.cell? ⟨gb226, 2, none⟩ = some (.slice Ao22 t218.length co22) := (blk_cell BK226.out 2).trans rfl; have hcz28_3 : w25.cell? ⟨gb226, 3, none⟩ = some (.int .i64 t221) := (blk_cell BK226.out 3).trans rfl; have hcz28_4 : w25.cell? ⟨gb226, 4, none⟩ = some (.slice Ao23 t222.length co23) := (blk_cell BK226.out 4).trans rfl; have hcz28_5 : w25.cell? ⟨gb226, 5, none⟩ = some (.int .i64 t225) := (blk_cell BK226.out 5).trans rfl; have hfz28_0 := blk_frozen BK226.out 0; have hfz28_1 := blk_frozen BK226.out 1; have hfz28_2 := blk_frozen BK226.out 2; have hfz28_3 := blk_frozen BK226.out 3; have hfz28_4 := blk_frozen BK226.out 4; have hfz28_5 := blk_frozen BK226.out 5) | ((with_reducible refine gate_store (t := 22) (p := 25) rfl ?_); refine store_event (t := 22) (p := 25) (v := ?vo_w29) (w1 := (w25.setCell ⟨gb226, 2, none⟩ (.slice Ao27 y227.length co27))) ?hg ?ho ?hn ?hr ?_; (case ho => rfl); (case hg => rfl); (case hn => rfl); (case hr => first | (go_simp; done) | (go_simp; rfl)); intro w29 hw; have n0_ : Aside0 (Kd.S k25 25 w29 w.heap.size (fun k_ => some k_ ≠ (.slice Ao22 t218.length co22 : Value).ownBlock ∧ some k_ ≠ (.slice Ao23 t222.length co23 : Value).ownBlock ∧ some k_ ≠ (.slice Ao27 y227.length co27 : Value).ownBlock ∧ k_ ≠ gb212 ∧ k_ ≠ gb215 ∧ k_ ≠ gb226) u5 x5_1) := ⟨(by rw [hw]; exact (by (with_reducible repeat (first | apply Kd.S_alloc | apply Kd.S_drewN | apply Kd.S_drew)); exact Kd.S_mono (Kd.S_far (p := ⟨gb226, 2, none⟩) (Kd.S_mono HO_5.out (fun k_ hk => (⟨hk, hk.1.2⟩ : _ ∧ k_ ≠ gb226))) (fun _ hk => hk.2) (.slice Ao27 y227.length co27)) (fun _ hk => ⟨hk.1.1.1.1.2, ⟨hk.1.1.1.2, ⟨hk.1.2, ⟨hk.1.1.1.1.1.1, ⟨hk.1.1.1.1.1.2, hk.1.1.2⟩⟩⟩⟩⟩)))⟩; have n1_ : Aside0 (Kd.R k46 46 w29 w.heap.size (fun k_ => some k_ ≠ (.slice Ao27 y227.length co27 : Value).ownBlock ∧ k_ ≠ gb215) (.slice Ao22 t218.length co22) t218) := ⟨(by rw [hw]; exact (by (with_reducible repeat (first | apply Kd.R_alloc | apply Kd.R_drewN | apply Kd.R_drew)); exact Kd.R_mono (Kd.R_far (p := ⟨gb226, 2, none⟩) (Kd.R_types HO220.out BK226.out (by decide)) (fun _ hk => hk.2) (.slice Ao27 y227.length co27)) (fun _ hk => ⟨hk.1.2, hk.1.1.2⟩)))⟩; have n2_ : Aside0 (Kd.R k48 48 w29 w.heap.size (fun _ => True) (.slice Ao23 t222.length co23) t222) := ⟨(by rw [hw]; exact (by (with_reducible repeat (first | apply Kd.R_alloc | apply Kd.R_drewN | apply Kd.R_drew)); exact Kd.R_mono (Kd.R_far (p := ⟨gb226, 2, none⟩) (Kd.R_types HO224.out BK226.out (by decide)) (fun _ hk => hk.2) (.slice Ao27 y227.length co27)) (fun _ hk => trivial)))⟩; have n3_ : Aside0 (Kd.R k46 46 w29 w.heap.size (fun k_ => some k_ ≠ (.slice Ao22 t218.length co22 : Value).ownBlock ∧ k_ ≠ gb215) (.slice Ao27 y227.length co27) y227) := ⟨(by rw [hw]; exact (by (with_reducible repeat (first | apply Kd.R_alloc | apply Kd.R_drewN | apply Kd.R_drew)); exact Kd.R_mono (Kd.R_far (p := ⟨gb226, 2, none⟩) (Kd.R_types HO229.out BK226.out (by decide)) (fun _ hk => hk.2) (.slice Ao27 y227.length co27)) (fun _ hk => ⟨hk.1.1.2, hk.1.2⟩)))⟩; have n4_ : Aside0 (w29.heap[gb212]? = some (.cells #[.string a0_0, .int .i64 a0_1, .slice (some ad214) l0_2.length c0_2, .int .i64 a0_3, .slice A0_4 l0_4.length c0_4, .int .i64 a0_5] 25 (0, 0))) := ⟨(by rw [hw]; exact (by (with_reducible repeat (first | refine blk_drewN ?_ _ | refine blk_drew ?_ | refine blk_alloc ?_ _)); refine blk_far ?_ NB212_226.out _; (with_reducible repeat (first | refine blk_drewN ?_ _ | refine blk_drew ?_ | refine blk_alloc ?_ _)); exact BK212.out))⟩; have n5_ : Aside0 (w29.heap[gb215]? = some (.cells #[.bool ((rd_T46 l0_2 x17_1).f0), .int .u64 ((rd_T46 l0_2 x17_1).f1), .int .i64 ((rd_T46 l0_2 x17_1).f2)] 46 (0, 0))) := ⟨(by rw [hw]; exact (by (with_reducible repeat (first | refine blk_drewN ?_ _ | refine blk_drew ?_ | refine blk_alloc ?_ _)); refine blk_far ?_ NB215_226.out _; (with_reducible repeat (first | refine blk_drewN ?_ _ | refine blk_drew ?_ | refine blk_alloc ?_ _)); exact BK215.out))⟩; have n6_ : Aside0 (w29.heap[gb226]? = some (.cells #[.string t216, .int .i64 t217, .slice Ao27 y227.length co27, .int .i64 t221, .slice Ao23 t222.length co23, .int .i64 t225] 25 (0, 0))) := ⟨(by rw [hw]; exact (by (with_reducible repeat (first | refine blk_drewN ?_ _ | refine blk_drew ?_ | refine blk_alloc ?_ _)); refine blk_put (cs := #[.string t216, .int .i64 t217, .slice Ao22 t218.length co22, .int .i64 t221, .slice Ao23 t222.length co23, .int .i64 t225]) ?_ 2 _ rfl; (with_reducible repeat (first | refine blk_drewN ?_ _ | refine blk_drew ?_ | refine blk_alloc ?_ _)); exact BK226.out))⟩; have n7_ : Aside0 (Below w.heap.size w w29) := ⟨(by rw [hw]; exact (by repeat (first | (with_reducible first | exact HB.out | apply below_alloc | apply pw_below_drewN | apply below_drew1 | refine below_set ?_ GE212.out | refine below_set ?_ GE215.out | refine below_set ?_ GE226.out) | exact HB.out)))⟩; clear hw; clear HO_5; clear HO220; clear HO224; clear HO229; clear BK212; clear BK215; clear BK226; clear HB; have HO_5 := n0_; have HO220 := n1_; have HO224 := n2_; have HO229 := n3_; have BK212 := n4_; have BK215 := n5_; have BK226 := n6_; have HB := n7_; clear n0_ n1_ n2_ n3_ n4_ n5_ n6_ n7_; have hcz30_0 : w29.cell? ⟨gb226, 0, none⟩ = some (.string t216) := (blk_cell BK226.out 0).trans rfl; have hcz30_1 : w29.cell? ⟨gb226, 1, none⟩ = some (.int .i64 t217) := (blk_cell BK226.out 1).trans rfl; have hcz30_2 : w29.cell? ⟨gb226, 2, none⟩ = some (.slice Ao27 y227.length co27) := (blk_cell BK226.out 2).trans rfl; have hcz30_3 : w29.cell? ⟨gb226, 3, none⟩ = some (.int .i64 t221) := (blk_cell BK226.out 3).trans rfl; have hcz30_4 : w29.cell? ⟨gb226, 4, none⟩ = some (.slice Ao23 t222.length co23) := (blk_cell BK226.out 4).trans rfl; have hcz30_5 : w29.cell? ⟨gb226, 5, none⟩ = some (.int .i64 t225) := (blk_cell BK226.out 5).trans rfl; have hfz30_0 := blk_frozen BK226.out 0; have hfz30_1 := blk_frozen BK226.out 1; have hfz30_2 := blk_frozen BK226.out 2; have hfz30_3 := blk_frozen BK226.out 3; have hfz30_4 := blk_frozen BK226.out 4; have hfz30_5 := blk_frozen BK226.out 5) | ((with_reducible refine gate_builtin (b := .append) (xs := #[.tmp 26, .tmp 28]) rfl ?_); at_builtin; refine Kd.S_append k25 (w0 := w) w.heap.size rfl (.tmp 26) (.tmp 28) 28 25 (.agg #[(.string ⟨#[]⟩), (.int .i64 0), (.slice none 0 0), (.int .i64 0), (.slice none 0 0), (.int .i64 0)]) 88 rfl Try.underlying28 info25 rfl (by decide) (by omega) u5 x5_1 (⟨t216, t217, y227, t221, t222, t225⟩ : S25) [.string t216, .int .i64 t217, .slice Ao27 y227.length co27, .int .i64 t221, .slice Ao23 t222.length co23, .int .i64 t225] (fun k_ => some k_ ≠ (.slice Ao22 t218.length co22 : Value).ownBlock ∧ k_ ≠ gb212 ∧ k_ ≠ gb215 ∧ k_ ≠ gb226) (fun k_ => some k_ = (.slice Ao27 y227.length co27 : Value).ownBlock ∨ some k_ = (.slice Ao23 t222.length co23 : Value).ownBlock) rfl rfl ?aP (fun k_ hk_ => hk_.elim (fun h_ => ((Kd.R_mono (ok' := fun k_ => ((fun k_ => some k_ ≠ (.slice Ao22 t218.length co22 : Value).ownBlock ∧ k_ ≠ gb212 ∧ k_ ≠ gb215 ∧ k_ ≠ gb226)) k_ ∧ some k_ ≠ (u5 : Value).ownBlock) (Kd.R_types (Kd.R_types (Kd.R_apart' (HO229.out) (Kd.S_typed HO_5.out) (by decide)) BK212.out (by decide)) BK226.out (by decide)) (fun k_ hk => ⟨⟨hk.1.1.1.1, ⟨hk.1.2, ⟨hk.1.1.1.2, hk.2⟩⟩⟩, hk.1.1.2⟩))).1 k_ h_.symm) (fun h_ => ((Kd.R_mono (ok' := fun k_ => ((fun k_ => some k_ ≠ (.slice Ao22 t218.length co22 : Value).ownBlock ∧ k_ ≠ gb212 ∧ k_ ≠ gb215 ∧ k_ ≠ gb226)) k_ ∧ some k_ ≠ (u5 : Value).ownBlock) (Kd.R_types (Kd.R_types (Kd.R_types (Kd.R_apart' (Kd.R_apart' (HO224.out) (Kd.R_typed HO220.out) (by decide)) (Kd.S_typed HO_5.out) (by decide)) BK212.out (by decide)) BK215.out (by decide)) BK226.out (by decide)) (fun k_ hk => ⟨⟨hk.1.1.1.1.2, ⟨hk.1.1.2, ⟨hk.1.2, hk.2⟩⟩⟩, hk.1.1.1.2⟩))).1 k_ h_.symm)) ?aF ?aO ?aB ?aS ?aL ?_; (case aP => exact k25_mkM _ _ _ (⟨t216, t217, y227, t221, t222, t225⟩ : S25) (Kd.R_mono (Kd.R_tight rfl (Kd.R_mono (ok' := fun k_ => ((fun k_ => some k_ ≠ (.slice Ao22 t218.length co22 : Value).ownBlock ∧ k_ ≠ gb212 ∧ k_ ≠ gb215 ∧ k_ ≠ gb226)) k_ ∧ some k_ ≠ (u5 : Value).ownBlock) (Kd.R_types (Kd.R_types (Kd.R_apart' (HO229.out) (Kd.S_typed HO_5.out) (by decide)) BK212.out (by decide)) BK226.out (by decide)) (fun k_ hk => ⟨⟨hk.1.1.1.1, ⟨hk.1.2, ⟨hk.1.1.1.2, hk.2⟩⟩⟩, hk.1.1.2⟩))) (fun _ h_ => Or.inl h_)) (Kd.R_mono (Kd.R_tight rfl (Kd.R_mono (ok' := fun k_ => ((fun k_ => some k_ ≠ (.slice Ao22 t218.length co22 : Value).ownBlock ∧ k_ ≠ gb212 ∧ k_ ≠ gb215 ∧ k_ ≠ gb226)) k_ ∧ some k_ ≠ (u5 : Value).ownBlock) (Kd.R_types (Kd.R_types (Kd.R_types (Kd.R_apart' (Kd.R_apart' (HO224.out) (Kd.R_typed HO220.out) (by decide)) (Kd.S_typed HO_5.out) (by decide)) BK212.out (by decide)) BK215.out (by decide)) BK226.out (by decide)) (fun k_ hk => ⟨⟨hk.1.1.1.1.2, ⟨hk.1.1.2, ⟨hk.1.2, hk.2⟩⟩⟩, hk.1.1.1.2⟩))) (fun _ h_ => Or.inr (h_)))); (case aB => exact (by repeat (first | (with_reducible first | exact HB.out | apply below_alloc | apply pw_below_drewN | apply below_drew1 | refine below_set ?_ GE212.out | refine below_set ?_ GE215.out | refine below_set ?_ GE226.out) | exact HB.out))); (case aF => exact (fun k_ hk => ⟨Kd.fresh' (Kd.R_lt (by (with_reducible repeat (first | apply Kd.R_alloc | apply Kd.R_drewN | apply Kd.R_drew)); exact HO220.out)) k_ hk, Kd.freshB (g := gb212) (o := .cells #[.string a0_0, .int .i64 a0_1, .slice (some ad214) l0_2.length c0_2, .int .i64 a0_3, .slice A0_4 l0_4.length c0_4, .int .i64 a0_5] 25 (0, 0)) (by (with_reducible repeat (first | refine blk_drewN ?_ _ | refine blk_drew ?_ | refine blk_alloc ?_ _)); exact BK212.out) k_ hk, Kd.freshB (g := gb215) (o := .cells #[.bool ((rd_T46 l0_2 x17_1).f0), .int .u64 ((rd_T46 l0_2 x17_1).f1), .int .i64 ((rd_T46 l0_2 x17_1).f2)] 46 (0, 0)) (by (with_reducible repeat (first | refine blk_drewN ?_ _ | refine blk_drew ?_ | refine blk_alloc ?_ _)); exact BK215.out) k_ hk, Kd.freshB (g := gb226) (o := .cells #[.string t216, .int .i64 t217, .slice Ao27 y227.length co27, .int .i64 t221, .slice Ao23 t222.length co23, .int .i64 t225] 25 (0, 0)) (by (with_reducible repeat (first | refine blk_drewN ?_ _ | refine blk_drew ?_ | refine blk_alloc ?_ _)); exact BK226.out) k_ hk⟩)); (case aO => exact (by (with_reducible repeat (first | apply Kd.S_alloc | apply Kd.S_drewN | apply Kd.S_drew)); exact Kd.S_mono HO_5.out (fun k_ hk => ⟨⟨hk.1, ⟨hk.2.2.2.1, ⟨hk.2.2.2.2.1, hk.2.2.2.2.2⟩⟩⟩, fun e_ => e_.elim (fun h_ => hk.2.2.1 h_) (fun h_ => hk.2.1 h_)⟩))); (case aS => exact (below_size (by repeat (first | (with_reducible first | exact HB.out | apply below_alloc | apply pw_below_drewN | apply below_drew1 | refine below_set ?_ GE212.out | refine below_set ?_ GE215.out | refine below_set ?_ GE226.out) | exact HB.out)))); (case aL => have := LMc12.out; omega); intro v231 w31 ho hb hg hat; rw [← Ny230.out] at ho; have n0_ := Aside0.mk (blk_grown (g := gb212) (o := .cells #[.string a0_0, .int .i64 a0_1, .slice (some ad214) l0_2.length c0_2, .int .i64 a0_3, .slice A0_4 l0_4.length c0_4, .int .i64 a0_5] 25 (0, 0)) (by (with_reducible repeat (first | refine blk_drewN ?_ _ | refine blk_drew ?_ | refine blk_alloc ?_ _)); exact BK212.out) hg (Kd.S_away HO_5.out (fun _ hk => hk.2.2.2.1))); have n1_ := Aside0.mk (blk_grown (g := gb215) (o := .cells #[.bool ((rd_T46 l0_2 x17_1).f0), .int .u64 ((rd_T46 l0_2 x17_1).f1), .int .i64 ((rd_T46 l0_2 x17_1).f2)] 46 (0, 0)) (by (with_reducible repeat (first | refine blk_drewN ?_ _ | refine blk_drew ?_ | refine blk_alloc ?_ _)); exact BK215.out) hg (Kd.S_ne HO_5.out BK215.out (by decide))); have n2_ := Aside0.mk (Kd.R_over' (by (with_reducible repeat (first | apply Kd.R_alloc | apply Kd.R_drewN | apply Kd.R_drew)); exact HO220.out) (Kd.S_typed (by (with_reducible repeat (first | apply Kd.S_alloc | apply Kd.S_drewN | apply Kd.S_drew)); exact HO_5.out)) (by decide) hg); have n3_ := Aside0.mk (blk_grown (g := gb226) (o := .cells #[.string t216, .int .i64 t217, .slice Ao27 y227.length co27, .int .i64 t221, .slice Ao23 t222.length co23, .int .i64 t225] 25 (0, 0)) (by (with_reducible repeat (first | refine blk_drewN ?_ _ | refine blk_drew ?_ | refine blk_alloc ?_ _)); exact BK226.out) hg (Kd.S_away HO_5.out (fun _ hk => hk.2.2.2.2.2))); have n4_ := Aside0.mk (hb); have n5_ := Aside0.mk (ho); clear BK212; clear BK215; clear HO220; clear BK226; clear HB; clear HO_5; clear HO224; clear HO229; have BK212 := n0_; have BK215 := n1_; have HO220 := n2_; have BK226 := n3_; have HB := n4_; have HO232 := n5_; clear n0_ n1_ n2_ n3_ n4_ n5_; clear ho hb hg hat))
                go_roundg k1
                case measure => have := HK1.out; omega
                case rel => exact ⟨(y230), (wrap64 (x17_1 + 1)), (by first | rfl | (simp; done) | (simp [*]; done)), H', ⟨by have := HK1.out; omega⟩, ⟨by (with_reducible repeat (first | apply Kd.S_alloc | apply Kd.S_drewN | apply Kd.S_drew)); exact Kd.S_mono HO232.out (fun _ hk => hk.2.1)⟩, ⟨by (with_reducible repeat (first | refine blk_drewN ?_ _ | refine blk_drew ?_ | refine blk_alloc ?_ _)); exact BK212.out⟩, ⟨by repeat (first | (with_reducible first | exact HB.out | apply below_alloc | apply pw_below_drewN | apply below_drew1 | refine below_set ?_ GE212.out | refine below_set ?_ GE215.out | refine below_set ?_ GE226.out) | exact HB.out)⟩⟩
              · rw [if_neg c12] at H
                exact absurd H (by simp)
            · rw [if_neg c10] at H
              exact absurd H (by simp)
          · rw [if_neg c9] at H
            exact absurd H (by simp)
        · rw [if_neg c8] at H
          have c8b0 : decide (x17_1 < (l0_2.length : Int)) = false := decide_eq_false c8
          clear c8
          simp only [Option.some.injEq, Prod.mk.injEq] at H
          obtain ⟨rfl, rfl⟩ := H
          go_wp2
          go_ret2
          exact ⟨_, by first | rfl | (simp [errW_none, errW_some] <;> rfl) | (simp [*, errW_none, errW_some] <;> rfl), by (with_reducible repeat (first | apply Kd.S_alloc | apply Kd.S_drewN | apply Kd.S_drew)); exact Kd.S_mono HO_5.out (fun _ hk => trivial), by repeat (first | (with_reducible first | exact HB.out | apply below_alloc | apply pw_below_drewN | apply below_drew1 | refine below_set ?_ GE212.out) | exact HB.out)⟩
  · rw [if_neg c3] at H
    have c3b0 : (t213 == 0) = false := beq_eq_false_iff_ne.mpr c3
    have c3b1 : (t213 != 0) = true := bne_iff_ne.mpr c3
    simp only [Option.some.injEq, Prod.mk.injEq] at H
    obtain ⟨rfl, rfl⟩ := H
    go_enter Try.func45, Try.ntmps45
    go_wp2_with (first | ((with_reducible refine gate_dst (N := 1) rfl ?_); refine box_event ?hg (N := 1) ?hd (cs := #[.string a0_0, .int .i64 a0_1, .slice A0_2 l0_2.length c0_2, .int .i64 a0_3, .slice A0_4 l0_4.length c0_4, .int .i64 a0_5]) (t := 25) ?hr ?_; (case hd => rfl); (case hg => rfl); (case hr => first | (go_simp; done) | (go_simp; rfl)); intro gb212 hg w32 hbox hb; have n0_ := Aside0.mk (below_step (by repeat (first | (with_reducible first | exact HB.out | apply below_alloc | apply pw_below_drewN | apply below_drew1) | exact HB.out)) hb); have n1_ := Aside0.mk (hbox); have n2_ := Aside0.mk ((by rw [hg]; exact (below_size (by repeat (first | (with_reducible first | exact HB.out | apply below_alloc | apply pw_below_drewN | apply below_drew1) | exact HB.out))) : w.heap.size ≤ gb212)); have n3_ := Aside0.mk ((by rw [hg]; exact (below_size (by repeat (first | (with_reducible first | exact HB.out | apply below_alloc | apply pw_below_drewN | apply below_drew1) | exact HB.out))) : w.heap.size ≤ gb212)); clear HB; have HB := n0_; have BK212 := n1_; have GW212 := n2_; have GE212 := n3_; clear n0_ n1_ n2_ n3_; clear hb hbox hg; have hcz33_0 : w32.cell? ⟨gb212, 0, none⟩ = some (.string a0_0) := (blk_cell BK212.out 0).trans rfl; have hcz33_1 : w32.cell? ⟨gb212, 1, none⟩ = some (.int .i64 a0_1) := (blk_cell BK212.out 1).trans rfl; have hcz33_2 : w32.cell? ⟨gb212, 2, none⟩ = some (.slice A0_2 l0_2.length c0_2) := (blk_cell BK212.out 2).trans rfl; have hcz33_3 : w32.cell? ⟨gb212, 3, none⟩ = some (.int .i64 a0_3) := (blk_cell BK212.out 3).trans rfl; have hcz33_4 : w32.cell? ⟨gb212, 4, none⟩ = some (.slice A0_4 l0_4.length c0_4) := (blk_cell BK212.out 4).trans rfl; have hcz33_5 : w32.cell? ⟨gb212, 5, none⟩ = some (.int .i64 a0_5) := (blk_cell BK212.out 5).trans rfl; have hfz33_0 := blk_frozen BK212.out 0; have hfz33_1 := blk_frozen BK212.out 1; have hfz33_2 := blk_frozen BK212.out 2; have hfz33_3 := blk_frozen BK212.out 3; have hfz33_4 := blk_frozen BK212.out 4; have hfz33_5 := blk_frozen BK212.out 5) | ((with_reducible refine gate_callee (f := 23) rfl ?_); refine goesL_ (some 10) rfl rfl Try.func23 (by kernel_rfl) rfl #[.agg #[.string a0_0, .int .i64 a0_1, .slice A0_2 l0_2.length c0_2, .int .i64 a0_3, .slice A0_4 l0_4.length c0_4, .int .i64 a0_5]] rfl (by (try simp only [List.map_toArray, List.map_cons, List.map_nil]); first | done | rfl | (simp only [List.length_drop, List.length_take]; rfl)) ?_; (with_reducible refine (metric_Check.calls a0_0 a0_1 _ _ l0_2 a0_3 _ _ l0_4 a0_5 t213 _ ?side1 ?side2 ?side3 ?side4 A2.out).mono ?_); (case side1 => repeat (first | exact (Kd.C_below HR0_2.out HB.out) | (with_reducible refine Kd.C_alloc ?_ _) | (with_reducible refine Kd.C_drewN ?_ _) | (with_reducible refine Kd.C_drew ?_))); (case side2 => exact HC0_2.out); (case side3 => repeat (first | exact (Kd.C_below HR0_4.out HB.out) | (with_reducible refine Kd.C_alloc ?_ _) | (with_reducible refine Kd.C_drewN ?_ _) | (with_reducible refine Kd.C_drew ?_))); (case side4 => exact HC0_4.out); rintro e w34 ⟨rfl, hb⟩; refine ⟨_, rfl, ?_⟩; have n0_ := Aside0.mk (blk_below (g := gb212) (o := .cells #[.string a0_0, .int .i64 a0_1, .slice A0_2 l0_2.length c0_2, .int .i64 a0_3, .slice A0_4 l0_4.length c0_4, .int .i64 a0_5] 25 (0, 0)) (by (with_reducible repeat (first | refine blk_drewN ?_ _ | refine blk_drew ?_ | refine blk_alloc ?_ _)); exact BK212.out) hb); have n1_ := Aside0.mk (below_step (by repeat (first | (with_reducible first | exact HB.out | apply below_alloc | apply pw_below_drewN | apply below_drew1 | refine below_set ?_ GE212.out) | exact HB.out)) hb); clear BK212; clear HB; have BK212 := n0_; have HB := n1_; clear n0_ n1_; (try clear hb); (try clear hb2); (try clear hk); (try clear hi)))
    go_ret2
    exact ⟨_, by first | rfl | (simp [errW_none, errW_some] <;> rfl) | (simp [*, errW_none, errW_some] <;> rfl), by first | exact Kd.S_nil _ _ _ _ _ | exact Kd.N_nil _ _ _ _ _ | exact Kd.V_nil _ _ _ _ _ | exact Kd.Q_nil _ _ _ _ _ | exact Kd.R_nil _ _ _ _ _, by repeat (first | (with_reducible first | exact HB.out | apply below_alloc | apply pw_below_drewN | apply below_drew1 | refine below_set ?_ GE212.out) | exact HB.out)⟩
end Go.Proofs.Ytbdennijmfgdpaa.PE
