-- Out of a text that print.sh wrote for this seat: what this claim does not use is left out.
import Derived.Test.YtclbmdblalgdjaaZNPEx0
import Derived.Test.YtclbmdblalgdjaaZNPEx1
import Derived.Test.YtclbmdblalgdjaaZNPEx3
namespace Go.Proofs.Ytclbmdblalgdjaa.PE
open Go.RowKit Go.Proofs.YtclbmdblalgdjaaW.PrintWords Go.Proofs.YtclbmdblalgdjaaW.PrintLast Go.Proofs.YtclbmdblalgdjaaW.PrintMore
attribute [local go_sem] max2_int min2_int max_two min_two max_three min_three max_four min_four   -- for this text's walks alone
set_option linter.unusedVariables false
set_option linter.unusedSimpArgs false
attribute [local go_sem high] eqA48 eqA81
/-! ### forebayref07_Equal: function 44 -/
mutual
def forebayref07_Equal.j0 : Nat → Bool → ByteArray → Int → List (S48) → Int → List (S81) → Int → ByteArray → Int → List (S48) → Int → List (S81) → Int → Option (Bool)
 | 0, _, _, _, _, _, _, _, _, _, _, _, _, _ => none
 | k + 1, x50, x207000, x207001, x207002, x207003, x207004, x207005, x208000, x208001, x208002, x208003, x208004, x208005 => if x50 = true then (some false) else (forebayref07_Equal.l0 k 0 x207000 x207001 x207002 x207003 x207004 x207005 x208000 x208001 x208002 x208003 x208004 x208005)
def forebayref07_Equal.l0 : Nat → Int → ByteArray → Int → List (S48) → Int → List (S81) → Int → ByteArray → Int → List (S48) → Int → List (S81) → Int → Option (Bool)
 | 0, _, _, _, _, _, _, _, _, _, _, _, _, _ => none
 | k + 1, x5, x207000, x207001, x207002, x207003, x207004, x207005, x208000, x208001, x208002, x208003, x208004, x208005 => if x5 < (x207002.length : Int) then (if 0 ≤ x5 then (if x5 < (x208002.length : Int) then (if (!(((rd_T48 x207002 x5).f0) == ((rd_T48 x208002 x5).f0)) || (!(((rd_T48 x207002 x5).f1) == ((rd_T48 x208002 x5).f1)) || (!(((rd_T48 x207002 x5).f2) == ((rd_T48 x208002 x5).f2))))) = true then (some false) else (forebayref07_Equal.l0 k (wrap64 (x5 + 1)) x207000 x207001 x207002 x207003 x207004 x207005 x208000 x208001 x208002 x208003 x208004 x208005)) else (none)) else (none)) else (forebayref07_Equal.l1 k 0 x207000 x207001 x207002 x207003 x207004 x207005 x208000 x208001 x208002 x208003 x208004 x208005)
def forebayref07_Equal.l1 : Nat → Int → ByteArray → Int → List (S48) → Int → List (S81) → Int → ByteArray → Int → List (S48) → Int → List (S81) → Int → Option (Bool)
 | 0, _, _, _, _, _, _, _, _, _, _, _, _, _ => none
 | k + 1, x6, x207000, x207001, x207002, x207003, x207004, x207005, x208000, x208001, x208002, x208003, x208004, x208005 => if x6 < (x207004.length : Int) then (if 0 ≤ x6 then (if x6 < (x208004.length : Int) then (if (!((((rd_T81 x207004 x6).f0).toList) == (((rd_T81 x208004 x6).f0).toList)) || (!((((rd_T81 x207004 x6).f1).toList) == (((rd_T81 x208004 x6).f1).toList)))) = true then (some false) else (forebayref07_Equal.l1 k (wrap64 (x6 + 1)) x207000 x207001 x207002 x207003 x207004 x207005 x208000 x208001 x208002 x208003 x208004 x208005)) else (none)) else (none)) else (some true)
end
def forebayref07_Equal.f (k : Nat) (a0_0 : ByteArray) (a0_1 : Int) (l0_2 : List (S48)) (a0_3 : Int) (l0_4 : List (S81)) (a0_5 : Int) (a1_0 : ByteArray) (a1_1 : Int) (l1_2 : List (S48)) (a1_3 : Int) (l1_4 : List (S81)) (a1_5 : Int) : Option (Bool) := if a0_0.toList = a1_0.toList then (if a0_1 = a1_1 then (if a0_3 = a1_3 then (if a0_5 = a1_5 then (if (l0_2.length : Int) = (l1_2.length : Int) then (forebayref07_Equal.j0 k ((l0_4.length : Int) != (l1_4.length : Int)) a0_0 a0_1 l0_2 a0_3 l0_4 a0_5 a1_0 a1_1 l1_2 a1_3 l1_4 a1_5) else (forebayref07_Equal.j0 k true a0_0 a0_1 l0_2 a0_3 l0_4 a0_5 a1_0 a1_1 l1_2 a1_3 l1_4 a1_5)) else (forebayref07_Equal.j0 k true a0_0 a0_1 l0_2 a0_3 l0_4 a0_5 a1_0 a1_1 l1_2 a1_3 l1_4 a1_5)) else (forebayref07_Equal.j0 k true a0_0 a0_1 l0_2 a0_3 l0_4 a0_5 a1_0 a1_1 l1_2 a1_3 l1_4 a1_5)) else (forebayref07_Equal.j0 k true a0_0 a0_1 l0_2 a0_3 l0_4 a0_5 a1_0 a1_1 l1_2 a1_3 l1_4 a1_5)) else (forebayref07_Equal.j0 k true a0_0 a0_1 l0_2 a0_3 l0_4 a0_5 a1_0 a1_1 l1_2 a1_3 l1_4 a1_5)
/-! ### forebaylaw07_Few: function 9 -/
mutual
def forebaylaw07_Few.j0 : Nat → Bool → ByteArray → Int → List (S48) → Int → List (S81) → Int → Option (Bool)
 | 0, _, _, _, _, _, _, _ => none
 | k + 1, x19, x213000, x213001, x213002, x213003, x213004, x213005 => if x19 = true then (some false) else (forebaylaw07_Few.l0 k 0 x213000 x213001 x213002 x213003 x213004 x213005)
def forebaylaw07_Few.l0 : Nat → Int → ByteArray → Int → List (S48) → Int → List (S81) → Int → Option (Bool)
 | 0, _, _, _, _, _, _, _ => none
 | k + 1, x3, x213000, x213001, x213002, x213003, x213004, x213005 => if x3 < (x213004.length : Int) then (if 0 ≤ x3 then (if (((rd_T81 x213004 x3).f0).size : Int) > 150 then (some false) else (if (((rd_T81 x213004 x3).f1).size : Int) > 150 then (some false) else (forebaylaw07_Few.l0 k (wrap64 (x3 + 1)) x213000 x213001 x213002 x213003 x213004 x213005))) else (none)) else (some true)
end
def forebaylaw07_Few.f (k : Nat) (a0_0 : ByteArray) (a0_1 : Int) (l0_2 : List (S48)) (a0_3 : Int) (l0_4 : List (S81)) (a0_5 : Int) : Option (Bool) := if (a0_0.size : Int) > 300 then (forebaylaw07_Few.j0 k true a0_0 a0_1 l0_2 a0_3 l0_4 a0_5) else (if (l0_2.length : Int) > 80 then (forebaylaw07_Few.j0 k true a0_0 a0_1 l0_2 a0_3 l0_4 a0_5) else (forebaylaw07_Few.j0 k (decide ((l0_4.length : Int) > 40)) a0_0 a0_1 l0_2 a0_3 l0_4 a0_5))
set_option maxHeartbeats 8000000 in
set_option maxRecDepth 100000 in
theorem forebaylaw07_Few.calls (k : Nat) (a0_0 : ByteArray) (a0_1 : Int) (A0_2 : Option Addr) (c0_2 : Nat) (l0_2 : List (S48)) (a0_3 : Int) (A0_4 : Option Addr) (c0_4 : Nat) (l0_4 : List (S81)) (a0_5 : Int) (r : Bool) (w : World) (hr0_2 : Kd.C k48 w A0_2 l0_2.length l0_2) (hc0_2 : l0_2.length ≤ c0_2) (hr0_4 : Kd.C k81 w A0_4 l0_4.length l0_4) (hc0_4 : l0_4.length ≤ c0_4) (h : forebaylaw07_Few.f k a0_0 a0_1 l0_2 a0_3 l0_4 a0_5 = some r) :
  Calls Try.prog 9 #[.agg #[.string a0_0, .int .i64 a0_1, .slice A0_2 l0_2.length c0_2, .int .i64 a0_3, .slice A0_4 l0_4.length c0_4, .int .i64 a0_5]] w fun e w' => e = .returned (.bool r) ∧ Below w.heap.size w w' := by
 have hu26 := Try.underlying26
 have HR0_2 := Aside0.mk hr0_2
 have HC0_2 := Aside0.mk hc0_2
 clear hr0_2 hc0_2
 have HR0_4 := Aside0.mk hr0_4
 have HC0_4 := Aside0.mk hc0_4
 clear hr0_4 hc0_4
 have HB := Aside0.mk (Below.refl w.heap.size w)
 have H : (if (a0_0.size : Int) > 300 then (forebaylaw07_Few.j0 k true a0_0 a0_1 l0_2 a0_3 l0_4 a0_5) else (if (l0_2.length : Int) > 80 then (forebaylaw07_Few.j0 k true a0_0 a0_1 l0_2 a0_3 l0_4 a0_5) else (forebaylaw07_Few.j0 k (decide ((l0_4.length : Int) > 40)) a0_0 a0_1 l0_2 a0_3 l0_4 a0_5))) = some r := h
 clear h
 have HC2 := Aside0.mk H
 clear H
 go_enter Try.func9, Try.ntmps9
 go_upto_region 1 with (first | ((with_reducible refine gate_dst (N := 1) rfl ?_); (try (refine gate_guard (by rfl) ?_; dsimp only)); refine box_event ?hg (N := 1) ?hd (cs := #[.string a0_0, .int .i64 a0_1, .slice A0_2 l0_2.length c0_2, .int .i64 a0_3, .slice A0_4 l0_4.length c0_4, .int .i64 a0_5]) (t := 26) ?hr ?_; (case hd => rfl); (case hg => rfl); (case hr => first | (go_simp; done) | (go_simp; rfl)); intro gb212 hg w3 hbox hb; have n0_ := Aside0.mk (below_step (by repeat (first | (with_reducible first | exact HB.out | apply below_alloc | apply pw_below_drewN | apply below_drew1) | exact HB.out)) hb); have n1_ := Aside0.mk (hbox); have n2_ := Aside0.mk ((by rw [hg]; exact (below_size (by repeat (first | (with_reducible first | exact HB.out | apply below_alloc | apply pw_below_drewN | apply below_drew1) | exact HB.out))) : w.heap.size ≤ gb212)); have n3_ := Aside0.mk ((by rw [hg]; exact (below_size (by repeat (first | (with_reducible first | exact HB.out | apply below_alloc | apply pw_below_drewN | apply below_drew1) | exact HB.out))) : w.heap.size ≤ gb212)); clear HB; have HB := n0_; have BK212 := n1_; have GW212 := n2_; have GE212 := n3_; clear n0_ n1_ n2_ n3_; clear hb hbox hg))
 (try simp only [Act.put, List.setIfInBounds_toArray, List.set_cons_zero, List.set_cons_succ])
 go_cut [19] (fun v19 wc => ∃ (kq : Nat) (x19_1 : Bool), v19 = .bool x19_1 ∧ Aside0 (forebaylaw07_Few.j0 kq x19_1 a0_0 a0_1 l0_2 a0_3 l0_4 a0_5 = some r) ∧ Aside0 (kq ≤ k) ∧ Aside0 (wc.heap[gb212]? = some (.cells #[.string a0_0, .int .i64 a0_1, (.slice A0_2 l0_2.length c0_2), .int .i64 a0_3, (.slice A0_4 l0_4.length c0_4), .int .i64 a0_5] 26 (0, 0))) ∧ Aside0 (Below w.heap.size w wc))
 case first =>
  have H := HC2.out
  clear HC2
  by_cases c4 : (a0_0.size : Int) > 300
  ·rw [if_pos c4] at H
   have c4b0 : decide (300 < (a0_0.size : Int)) = true := decide_eq_true c4
   have c4b1 : decide (300 < a0_0.size) = true := decide_eq_true (by omega)
   clear c4
   (first | rw [c4b0] | (simp only [i64_w, i32_w]; rw [c4b0]) | skip)
   have H' := Aside0.mk H
   clear H
   have hcz5_0 : w3.cell? ⟨gb212, 0, none⟩ = some (.string a0_0) := (blk_cell BK212.out 0).trans rfl
   have hcz5_1 : w3.cell? ⟨gb212, 1, none⟩ = some (.int .i64 a0_1) := (blk_cell BK212.out 1).trans rfl
   have hcz5_2 : w3.cell? ⟨gb212, 2, none⟩ = some (.slice A0_2 l0_2.length c0_2) := (blk_cell BK212.out 2).trans rfl
   have hcz5_3 : w3.cell? ⟨gb212, 3, none⟩ = some (.int .i64 a0_3) := (blk_cell BK212.out 3).trans rfl
   have hcz5_4 : w3.cell? ⟨gb212, 4, none⟩ = some (.slice A0_4 l0_4.length c0_4) := (blk_cell BK212.out 4).trans rfl
   have hcz5_5 : w3.cell? ⟨gb212, 5, none⟩ = some (.int .i64 a0_5) := (blk_cell BK212.out 5).trans rfl
   have hfz5_0 := blk_frozen BK212.out 0
   have hfz5_1 := blk_frozen BK212.out 1
   have hfz5_2 := blk_frozen BK212.out 2
   have hfz5_3 := blk_frozen BK212.out 3
   have hfz5_4 := blk_frozen BK212.out 4
   have hfz5_5 := blk_frozen BK212.out 5
   go_wp2
   go_meet
   case rel => exact ⟨_, (true), (by first | rfl | (simp; done) | (simp [*]; done)), H', ⟨by first | omega | exact Nat.le_refl _⟩, ⟨by (with_reducible repeat (first | refine blk_drewN ?_ _ | refine blk_drew ?_ | refine blk_alloc ?_ _)); exact BK212.out⟩, ⟨by repeat (first | (with_reducible first | exact HB.out | apply below_alloc | apply pw_below_drewN | apply below_drew1 | refine below_set ?_ GE212.out) | exact HB.out)⟩⟩
  ·rw [if_neg c4] at H
   have c4b0 : decide (300 < (a0_0.size : Int)) = false := decide_eq_false c4
   have c4b1 : decide (300 < a0_0.size) = false := decide_eq_false (by omega)
   clear c4
   (first | rw [c4b0] | (simp only [i64_w, i32_w]; rw [c4b0]) | skip)
   by_cases c6 : (l0_2.length : Int) > 80
   ·rw [if_pos c6] at H
    have c6b0 : decide (80 < (l0_2.length : Int)) = true := decide_eq_true c6
    have c6b1 : decide (80 < l0_2.length) = true := decide_eq_true (by omega)
    clear c6
    have H' := Aside0.mk H
    clear H
    have hcz7_0 : w3.cell? ⟨gb212, 0, none⟩ = some (.string a0_0) := (blk_cell BK212.out 0).trans rfl
    have hcz7_1 : w3.cell? ⟨gb212, 1, none⟩ = some (.int .i64 a0_1) := (blk_cell BK212.out 1).trans rfl
    have hcz7_2 : w3.cell? ⟨gb212, 2, none⟩ = some (.slice A0_2 l0_2.length c0_2) := (blk_cell BK212.out 2).trans rfl
    have hcz7_3 : w3.cell? ⟨gb212, 3, none⟩ = some (.int .i64 a0_3) := (blk_cell BK212.out 3).trans rfl
    have hcz7_4 : w3.cell? ⟨gb212, 4, none⟩ = some (.slice A0_4 l0_4.length c0_4) := (blk_cell BK212.out 4).trans rfl
    have hcz7_5 : w3.cell? ⟨gb212, 5, none⟩ = some (.int .i64 a0_5) := (blk_cell BK212.out 5).trans rfl
    have hfz7_0 := blk_frozen BK212.out 0
    have hfz7_1 := blk_frozen BK212.out 1
    have hfz7_2 := blk_frozen BK212.out 2
    have hfz7_3 := blk_frozen BK212.out 3
    have hfz7_4 := blk_frozen BK212.out 4
    have hfz7_5 := blk_frozen BK212.out 5
    go_wp2
    go_meet
    case rel => exact ⟨_, (true), (by first | rfl | (simp; done) | (simp [*]; done)), H', ⟨by first | omega | exact Nat.le_refl _⟩, ⟨by (with_reducible repeat (first | refine blk_drewN ?_ _ | refine blk_drew ?_ | refine blk_alloc ?_ _)); exact BK212.out⟩, ⟨by repeat (first | (with_reducible first | exact HB.out | apply below_alloc | apply pw_below_drewN | apply below_drew1 | refine below_set ?_ GE212.out) | exact HB.out)⟩⟩
   ·rw [if_neg c6] at H
    have c6b0 : decide (80 < (l0_2.length : Int)) = false := decide_eq_false c6
    have c6b1 : decide (80 < l0_2.length) = false := decide_eq_false (by omega)
    clear c6
    have H' := Aside0.mk H
    clear H
    have hcz8_0 : w3.cell? ⟨gb212, 0, none⟩ = some (.string a0_0) := (blk_cell BK212.out 0).trans rfl
    have hcz8_1 : w3.cell? ⟨gb212, 1, none⟩ = some (.int .i64 a0_1) := (blk_cell BK212.out 1).trans rfl
    have hcz8_2 : w3.cell? ⟨gb212, 2, none⟩ = some (.slice A0_2 l0_2.length c0_2) := (blk_cell BK212.out 2).trans rfl
    have hcz8_3 : w3.cell? ⟨gb212, 3, none⟩ = some (.int .i64 a0_3) := (blk_cell BK212.out 3).trans rfl
    have hcz8_4 : w3.cell? ⟨gb212, 4, none⟩ = some (.slice A0_4 l0_4.length c0_4) := (blk_cell BK212.out 4).trans rfl
    have hcz8_5 : w3.cell? ⟨gb212, 5, none⟩ = some (.int .i64 a0_5) := (blk_cell BK212.out 5).trans rfl
    have hfz8_0 := blk_frozen BK212.out 0
    have hfz8_1 := blk_frozen BK212.out 1
    have hfz8_2 := blk_frozen BK212.out 2
    have hfz8_3 := blk_frozen BK212.out 3
    have hfz8_4 := blk_frozen BK212.out 4
    have hfz8_5 := blk_frozen BK212.out 5
    go_wp2
    go_meet
    case rel => exact ⟨_, (decide ((l0_4.length : Int) > 40)), (by first | rfl | (simp; done) | (simp [*]; done)), H', ⟨by first | omega | exact Nat.le_refl _⟩, ⟨by (with_reducible repeat (first | refine blk_drewN ?_ _ | refine blk_drew ?_ | refine blk_alloc ?_ _)); exact BK212.out⟩, ⟨by repeat (first | (with_reducible first | exact HB.out | apply below_alloc | apply pw_below_drewN | apply below_drew1 | refine below_set ?_ GE212.out) | exact HB.out)⟩⟩
 case rest =>
  clear HC2
  try clear p2
  try clear c4
  try clear c4b0
  try clear c4b1
  try clear c6
  try clear c6b0
  try clear c6b1
  try clear hcz5_0
  try clear hcz5_1
  try clear hcz5_2
  try clear hcz5_3
  try clear hcz5_4
  try clear hcz5_5
  try clear hcz7_0
  try clear hcz7_1
  try clear hcz7_2
  try clear hcz7_3
  try clear hcz7_4
  try clear hcz7_5
  try clear hcz8_0
  try clear hcz8_1
  try clear hcz8_2
  try clear hcz8_3
  try clear hcz8_4
  try clear hcz8_5
  try clear hfz5_0
  try clear hfz5_1
  try clear hfz5_2
  try clear hfz5_3
  try clear hfz5_4
  try clear hfz5_5
  try clear hfz7_0
  try clear hfz7_1
  try clear hfz7_2
  try clear hfz7_3
  try clear hfz7_4
  try clear hfz7_5
  try clear hfz8_0
  try clear hfz8_1
  try clear hfz8_2
  try clear hfz8_3
  try clear hfz8_4
  try clear hfz8_5
  obtain ⟨kq, x19_1, rfl, HA, HJ1, BK212, HB⟩ := hcut
  cases kq with
  | zero => exact absurd HA.out (by simp [forebaylaw07_Few.j0])
  | succ kj1 =>
   have H := HA.out
   clear HA
   simp only [forebaylaw07_Few.j0] at H
   by_cases c9 : x19_1 = true
   ·subst c9
    have H1 : (some false) = some r := by rw [if_pos rfl] at H; exact H
    clear H
    have H := H1
    clear H1
    obtain rfl := Option.some.inj H
    go_wp2
    go_ret
    exact ⟨by first | rfl | (simp [errW_none, errW_some] <;> rfl) | (simp [*, errW_none, errW_some] <;> rfl), by repeat (first | (with_reducible first | exact HB.out | apply below_alloc | apply pw_below_drewN | apply below_drew1 | refine below_set ?_ GE212.out) | exact HB.out)⟩
   ·replace c9 := Bool.eq_false_iff.mpr c9
    subst c9
    have H1 : (forebaylaw07_Few.l0 kj1 0 a0_0 a0_1 l0_2 a0_3 l0_4 a0_5) = some r := by rw [if_neg (show ¬ (false = true) by decide)] at H; exact H
    clear H
    have H := H1
    clear H1
    have H' := Aside0.mk H
    clear H
    go_wp2
    go_loopg [3] kj1 (fun kq v3 w' => ∃ (x3_2 : Int), v3 = .int .i64 x3_2 ∧ Aside0 (forebaylaw07_Few.l0 kq x3_2 a0_0 a0_1 l0_2 a0_3 l0_4 a0_5 = some r) ∧ Aside0 (kq ≤ kj1) ∧ Aside0 (w'.heap[gb212]? = some (.cells #[.string a0_0, .int .i64 a0_1, (.slice A0_2 l0_2.length c0_2), .int .i64 a0_3, (.slice A0_4 l0_4.length c0_4), .int .i64 a0_5] 26 (0, 0))) ∧ Aside0 (Below w.heap.size w w'))
    case atStart => exact ⟨(0), (by first | rfl | (simp; done) | (simp [*]; done)), H', ⟨Nat.le_refl _⟩, ⟨by (with_reducible repeat (first | refine blk_drewN ?_ _ | refine blk_drew ?_ | refine blk_alloc ?_ _)); exact BK212.out⟩, ⟨by repeat (first | (with_reducible first | exact HB.out | apply below_alloc | apply pw_below_drewN | apply below_drew1 | refine below_set ?_ GE212.out) | exact HB.out)⟩⟩
    case round =>
     clear H'
     try clear p2
     try clear c4
     try clear c4b0
     try clear c4b1
     try clear c6
     try clear c6b0
     try clear c6b1
     try clear c9
     try clear hcz5_0
     try clear hcz5_1
     try clear hcz5_2
     try clear hcz5_3
     try clear hcz5_4
     try clear hcz5_5
     try clear hcz7_0
     try clear hcz7_1
     try clear hcz7_2
     try clear hcz7_3
     try clear hcz7_4
     try clear hcz7_5
     try clear hcz8_0
     try clear hcz8_1
     try clear hcz8_2
     try clear hcz8_3
     try clear hcz8_4
     try clear hcz8_5
     try clear hfz5_0
     try clear hfz5_1
     try clear hfz5_2
     try clear hfz5_3
     try clear hfz5_4
     try clear hfz5_5
     try clear hfz7_0
     try clear hfz7_1
     try clear hfz7_2
     try clear hfz7_3
     try clear hfz7_4
     try clear hfz7_5
     try clear hfz8_0
     try clear hfz8_1
     try clear hfz8_2
     try clear hfz8_3
     try clear hfz8_4
     try clear hfz8_5
     try clear p2
     obtain ⟨x3_2, rfl, HA, HK2, BK212, HB⟩ := hrel
     cases gk with
     | zero => exact absurd HA.out (by simp [forebaylaw07_Few.l0])
     | succ k2 =>
      have H := HA.out
      clear HA
      simp only [forebaylaw07_Few.l0] at H
      by_cases c10 : x3_2 < (l0_4.length : Int)
      ·rw [if_pos c10] at H
       have c10b0 : decide (x3_2 < (l0_4.length : Int)) = true := decide_eq_true c10
       clear c10
       by_cases c11 : 0 ≤ x3_2
       ·rw [if_pos c11] at H
        have c11b0 : decide (0 ≤ x3_2) = true := decide_eq_true c11
        clear c11
        by_cases c12 : (((rd_T81 l0_4 x3_2).f0).size : Int) > 150
        ·rw [if_pos c12] at H
         have c12b0 : decide (150 < (((rd_T81 l0_4 x3_2).f0).size : Int)) = true := decide_eq_true c12
         have c12b1 : decide (150 < ((rd_T81 l0_4 x3_2).f0).size) = true := decide_eq_true (by omega)
         clear c12
         obtain rfl := Option.some.inj H
         have hcz13_0 : wr.cell? ⟨gb212, 0, none⟩ = some (.string a0_0) := (blk_cell BK212.out 0).trans rfl
         have hcz13_1 : wr.cell? ⟨gb212, 1, none⟩ = some (.int .i64 a0_1) := (blk_cell BK212.out 1).trans rfl
         have hcz13_2 : wr.cell? ⟨gb212, 2, none⟩ = some (.slice A0_2 l0_2.length c0_2) := (blk_cell BK212.out 2).trans rfl
         have hcz13_3 : wr.cell? ⟨gb212, 3, none⟩ = some (.int .i64 a0_3) := (blk_cell BK212.out 3).trans rfl
         have hcz13_4 : wr.cell? ⟨gb212, 4, none⟩ = some (.slice A0_4 l0_4.length c0_4) := (blk_cell BK212.out 4).trans rfl
         have hcz13_5 : wr.cell? ⟨gb212, 5, none⟩ = some (.int .i64 a0_5) := (blk_cell BK212.out 5).trans rfl
         have hfz13_0 := blk_frozen BK212.out 0
         have hfz13_1 := blk_frozen BK212.out 1
         have hfz13_2 := blk_frozen BK212.out 2
         have hfz13_3 := blk_frozen BK212.out 3
         have hfz13_4 := blk_frozen BK212.out 4
         have hfz13_5 := blk_frozen BK212.out 5
         have p213 : 0 ≤ (x3_2 : Int) := of_decide_eq_true (by first | (with_reducible assumption) | assumption)
         have q213 : x3_2 < (l0_4.length : Int) := of_decide_eq_true (by first | (with_reducible assumption) | assumption)
         obtain ⟨ad213, e213, hx213_0, hx213_1⟩ := at_T81 HR0_4.out x3_2 p213 q213
         cases e213
         replace hx213_0 := (HB.out.cell (World.block_lt_of_cell? w _ hx213_0)).trans hx213_0
         replace hx213_1 := (HB.out.cell (World.block_lt_of_cell? w _ hx213_1)).trans hx213_1
         replace p213 := eq_true p213
         replace q213 := eq_true q213
         go_wp2
         go_ret
         exact ⟨by first | rfl | (simp [errW_none, errW_some] <;> rfl) | (simp [*, errW_none, errW_some] <;> rfl), by repeat (first | (with_reducible first | exact HB.out | apply below_alloc | apply pw_below_drewN | apply below_drew1 | refine below_set ?_ GE212.out) | exact HB.out)⟩
        ·rw [if_neg c12] at H
         have c12b0 : decide (150 < (((rd_T81 l0_4 x3_2).f0).size : Int)) = false := decide_eq_false c12
         have c12b1 : decide (150 < ((rd_T81 l0_4 x3_2).f0).size) = false := decide_eq_false (by omega)
         clear c12
         by_cases c14 : (((rd_T81 l0_4 x3_2).f1).size : Int) > 150
         ·rw [if_pos c14] at H
          have c14b0 : decide (150 < (((rd_T81 l0_4 x3_2).f1).size : Int)) = true := decide_eq_true c14
          have c14b1 : decide (150 < ((rd_T81 l0_4 x3_2).f1).size) = true := decide_eq_true (by omega)
          clear c14
          obtain rfl := Option.some.inj H
          have hcz15_0 : wr.cell? ⟨gb212, 0, none⟩ = some (.string a0_0) := (blk_cell BK212.out 0).trans rfl
          have hcz15_1 : wr.cell? ⟨gb212, 1, none⟩ = some (.int .i64 a0_1) := (blk_cell BK212.out 1).trans rfl
          have hcz15_2 : wr.cell? ⟨gb212, 2, none⟩ = some (.slice A0_2 l0_2.length c0_2) := (blk_cell BK212.out 2).trans rfl
          have hcz15_3 : wr.cell? ⟨gb212, 3, none⟩ = some (.int .i64 a0_3) := (blk_cell BK212.out 3).trans rfl
          have hcz15_4 : wr.cell? ⟨gb212, 4, none⟩ = some (.slice A0_4 l0_4.length c0_4) := (blk_cell BK212.out 4).trans rfl
          have hcz15_5 : wr.cell? ⟨gb212, 5, none⟩ = some (.int .i64 a0_5) := (blk_cell BK212.out 5).trans rfl
          have hfz15_0 := blk_frozen BK212.out 0
          have hfz15_1 := blk_frozen BK212.out 1
          have hfz15_2 := blk_frozen BK212.out 2
          have hfz15_3 := blk_frozen BK212.out 3
          have hfz15_4 := blk_frozen BK212.out 4
          have hfz15_5 := blk_frozen BK212.out 5
          have p213 : 0 ≤ (x3_2 : Int) := of_decide_eq_true (by first | (with_reducible assumption) | assumption)
          have q213 : x3_2 < (l0_4.length : Int) := of_decide_eq_true (by first | (with_reducible assumption) | assumption)
          obtain ⟨ad213, e213, hx213_0, hx213_1⟩ := at_T81 HR0_4.out x3_2 p213 q213
          cases e213
          replace hx213_0 := (HB.out.cell (World.block_lt_of_cell? w _ hx213_0)).trans hx213_0
          replace hx213_1 := (HB.out.cell (World.block_lt_of_cell? w _ hx213_1)).trans hx213_1
          replace p213 := eq_true p213
          replace q213 := eq_true q213
          have p214 : 0 ≤ (x3_2 : Int) := of_decide_eq_true (by first | (with_reducible assumption) | assumption)
          have q214 : x3_2 < (l0_4.length : Int) := of_decide_eq_true (by first | (with_reducible assumption) | assumption)
          obtain ⟨ad214, e214, hx214_0, hx214_1⟩ := at_T81 HR0_4.out x3_2 p214 q214
          obtain rfl : ad213 = ad214 := (by injection e214)
          replace hx214_0 := (HB.out.cell (World.block_lt_of_cell? w _ hx214_0)).trans hx214_0
          replace hx214_1 := (HB.out.cell (World.block_lt_of_cell? w _ hx214_1)).trans hx214_1
          replace p214 := eq_true p214
          replace q214 := eq_true q214
          go_wp2
          go_ret
          exact ⟨by first | rfl | (simp [errW_none, errW_some] <;> rfl) | (simp [*, errW_none, errW_some] <;> rfl), by repeat (first | (with_reducible first | exact HB.out | apply below_alloc | apply pw_below_drewN | apply below_drew1 | refine below_set ?_ GE212.out) | exact HB.out)⟩
         ·rw [if_neg c14] at H
          have c14b0 : decide (150 < (((rd_T81 l0_4 x3_2).f1).size : Int)) = false := decide_eq_false c14
          have c14b1 : decide (150 < ((rd_T81 l0_4 x3_2).f1).size) = false := decide_eq_false (by omega)
          clear c14
          have H' := Aside0.mk H
          clear H
          have hcz16_0 : wr.cell? ⟨gb212, 0, none⟩ = some (.string a0_0) := (blk_cell BK212.out 0).trans rfl
          have hcz16_1 : wr.cell? ⟨gb212, 1, none⟩ = some (.int .i64 a0_1) := (blk_cell BK212.out 1).trans rfl
          have hcz16_2 : wr.cell? ⟨gb212, 2, none⟩ = some (.slice A0_2 l0_2.length c0_2) := (blk_cell BK212.out 2).trans rfl
          have hcz16_3 : wr.cell? ⟨gb212, 3, none⟩ = some (.int .i64 a0_3) := (blk_cell BK212.out 3).trans rfl
          have hcz16_4 : wr.cell? ⟨gb212, 4, none⟩ = some (.slice A0_4 l0_4.length c0_4) := (blk_cell BK212.out 4).trans rfl
          have hcz16_5 : wr.cell? ⟨gb212, 5, none⟩ = some (.int .i64 a0_5) := (blk_cell BK212.out 5).trans rfl
          have hfz16_0 := blk_frozen BK212.out 0
          have hfz16_1 := blk_frozen BK212.out 1
          have hfz16_2 := blk_frozen BK212.out 2
          have hfz16_3 := blk_frozen BK212.out 3
          have hfz16_4 := blk_frozen BK212.out 4
          have hfz16_5 := blk_frozen BK212.out 5
          have p213 : 0 ≤ (x3_2 : Int) := of_decide_eq_true (by first | (with_reducible assumption) | assumption)
          have q213 : x3_2 < (l0_4.length : Int) := of_decide_eq_true (by first | (with_reducible assumption) | assumption)
          obtain ⟨ad213, e213, hx213_0, hx213_1⟩ := at_T81 HR0_4.out x3_2 p213 q213
          cases e213
          replace hx213_0 := (HB.out.cell (World.block_lt_of_cell? w _ hx213_0)).trans hx213_0
          replace hx213_1 := (HB.out.cell (World.block_lt_of_cell? w _ hx213_1)).trans hx213_1
          replace p213 := eq_true p213
          replace q213 := eq_true q213
          have p214 : 0 ≤ (x3_2 : Int) := of_decide_eq_true (by first | (with_reducible assumption) | assumption)
          have q214 : x3_2 < (l0_4.length : Int) := of_decide_eq_true (by first | (with_reducible assumption) | assumption)
          obtain ⟨ad214, e214, hx214_0, hx214_1⟩ := at_T81 HR0_4.out x3_2 p214 q214
          obtain rfl : ad213 = ad214 := (by injection e214)
          replace hx214_0 := (HB.out.cell (World.block_lt_of_cell? w _ hx214_0)).trans hx214_0
          replace hx214_1 := (HB.out.cell (World.block_lt_of_cell? w _ hx214_1)).trans hx214_1
          replace p214 := eq_true p214
          replace q214 := eq_true q214
          go_wp2
          go_roundg k2
          case measure => have := HJ1.out; have := HK2.out; omega
          case rel => exact ⟨(wrap64 (x3_2 + 1)), (by first | rfl | (simp; done) | (simp [*]; done)), H', ⟨by have := HJ1.out; have := HK2.out; omega⟩, ⟨by (with_reducible repeat (first | refine blk_drewN ?_ _ | refine blk_drew ?_ | refine blk_alloc ?_ _)); exact BK212.out⟩, ⟨by repeat (first | (with_reducible first | exact HB.out | apply below_alloc | apply pw_below_drewN | apply below_drew1 | refine below_set ?_ GE212.out) | exact HB.out)⟩⟩
       ·rw [if_neg c11] at H
        exact absurd H (by simp)
      ·rw [if_neg c10] at H
       have c10b0 : decide (x3_2 < (l0_4.length : Int)) = false := decide_eq_false c10
       clear c10
       obtain rfl := Option.some.inj H
       have hcz17_0 : wr.cell? ⟨gb212, 0, none⟩ = some (.string a0_0) := (blk_cell BK212.out 0).trans rfl
       have hcz17_1 : wr.cell? ⟨gb212, 1, none⟩ = some (.int .i64 a0_1) := (blk_cell BK212.out 1).trans rfl
       have hcz17_2 : wr.cell? ⟨gb212, 2, none⟩ = some (.slice A0_2 l0_2.length c0_2) := (blk_cell BK212.out 2).trans rfl
       have hcz17_3 : wr.cell? ⟨gb212, 3, none⟩ = some (.int .i64 a0_3) := (blk_cell BK212.out 3).trans rfl
       have hcz17_4 : wr.cell? ⟨gb212, 4, none⟩ = some (.slice A0_4 l0_4.length c0_4) := (blk_cell BK212.out 4).trans rfl
       have hcz17_5 : wr.cell? ⟨gb212, 5, none⟩ = some (.int .i64 a0_5) := (blk_cell BK212.out 5).trans rfl
       have hfz17_0 := blk_frozen BK212.out 0
       have hfz17_1 := blk_frozen BK212.out 1
       have hfz17_2 := blk_frozen BK212.out 2
       have hfz17_3 := blk_frozen BK212.out 3
       have hfz17_4 := blk_frozen BK212.out 4
       have hfz17_5 := blk_frozen BK212.out 5
       go_wp2
       go_ret
       exact ⟨by first | rfl | (simp [errW_none, errW_some] <;> rfl) | (simp [*, errW_none, errW_some] <;> rfl), by repeat (first | (with_reducible first | exact HB.out | apply below_alloc | apply pw_below_drewN | apply below_drew1 | refine below_set ?_ GE212.out) | exact HB.out)⟩
/-! ### forebaylaw16_same: function 16 -/
def forebaylaw16_same.f (l0 : List Int) (l1 : List Int) : Option (Bool) := some ((strOfNums l0).toList == (strOfNums l1).toList)
set_option maxHeartbeats 8000000 in
set_option maxRecDepth 100000 in
theorem forebaylaw16_same.calls (A0 : Option Addr) (c0 : Nat) (l0 : List Int) (A1 : Option Addr) (c1 : Nat) (l1 : List Int) (r : Bool) (w : World) (hr0 : Kd.C (Kd.int .u8) w A0 l0.length l0) (hc0 : l0.length ≤ c0) (hr1 : Kd.C (Kd.int .u8) w A1 l1.length l1) (hc1 : l1.length ≤ c1) (h : forebaylaw16_same.f l0 l1 = some r) :
  Calls Try.prog 16 #[.slice A0 l0.length c0, .slice A1 l1.length c1] w fun e w' => e = .returned (.bool r) ∧ Drawn0 w w' := by
 have HR0 := Aside0.mk hr0
 have HC0 := Aside0.mk hc0
 clear hr0 hc0
 have HR1 := Aside0.mk hr1
 have HC1 := Aside0.mk hc1
 clear hr1 hc1
 have H : (some ((strOfNums l0).toList == (strOfNums l1).toList)) = some r := h
 clear h
 obtain rfl := Option.some.inj H
 have hcv3 := Kd.C_string (P := Try.prog) (A := A0) (c := c0) Try.underlying34 Try.underlying5 Try.underlying9 HR0.out
 have hcv4 := Kd.C_string (P := Try.prog) (A := A1) (c := c1) Try.underlying34 Try.underlying5 Try.underlying9 HR1.out
 go_enter Try.func16, Try.ntmps16
 go_wp2
 go_ret
 exact ⟨by first | rfl | (simp; done) | (simp [*]; done), by repeat (first | exact Drawn0.refl _ | apply Drawn0.step)⟩
/-! ### forebaylaw16_texts: function 14 -/
def forebaylaw16_texts.l0 : Nat → List ByteArray → List ByteArray → Int → Option (Bool)
 | 0, _, _, _ => none
 | k + 1, x0, x1, x5 => if x5 < (x0.length : Int) then (if 0 ≤ x5 then (if x5 < (x1.length : Int) then (if (rdOf ByteArray.empty x0 x5).toList = (rdOf ByteArray.empty x1 x5).toList then (forebaylaw16_texts.l0 k x0 x1 (wrap64 (x5 + 1))) else (some false)) else (none)) else (none)) else (some true)
def forebaylaw16_texts.f (k : Nat) (l0 : List ByteArray) (l1 : List ByteArray) : Option (Bool) := if (l0.length : Int) = (l1.length : Int) then (forebaylaw16_texts.l0 k l0 l1 0) else (some false)
set_option maxHeartbeats 8000000 in
set_option maxRecDepth 100000 in
theorem forebaylaw16_texts.calls (k : Nat) (A0 : Option Addr) (c0 : Nat) (l0 : List ByteArray) (A1 : Option Addr) (c1 : Nat) (l1 : List ByteArray) (r : Bool) (w : World) (hr0 : Kd.C Kd.string w A0 l0.length l0) (hc0 : l0.length ≤ c0) (hr1 : Kd.C Kd.string w A1 l1.length l1) (hc1 : l1.length ≤ c1) (h : forebaylaw16_texts.f k l0 l1 = some r) :
  Calls Try.prog 14 #[.slice A0 l0.length c0, .slice A1 l1.length c1] w fun e w' => e = .returned (.bool r) ∧ Drawn0 w w' := by
 have HR0 := Aside0.mk hr0
 have HC0 := Aside0.mk hc0
 clear hr0 hc0
 have HR1 := Aside0.mk hr1
 have HC1 := Aside0.mk hc1
 clear hr1 hc1
 have H : (if (l0.length : Int) = (l1.length : Int) then (forebaylaw16_texts.l0 k l0 l1 0) else (some false)) = some r := h
 clear h
 by_cases c3 : (l0.length : Int) = (l1.length : Int)
 ·rw [if_pos c3] at H
  have c3b0 : ((l0.length : Int) == (l1.length : Int)) = true := beq_iff_eq.mpr c3
  have c3b1 : ((l0.length : Int) != (l1.length : Int)) = false := bne_eq_false_iff_eq.mpr c3
  have c3b2 : (l0.length == l1.length) = true := by first | simpa using c3 | (simp at c3 ⊢; omega)
  clear c3
  have H' := Aside0.mk H
  clear H
  go_enter Try.func14, Try.ntmps14
  go_wp2
  repeat (go_quiet (fail); try go_wp2)
  go_loopg [5] k (fun kq v5 w' => ∃ (x5_1 : Int), v5 = .int .i64 x5_1 ∧ Aside0 (forebaylaw16_texts.l0 kq l0 l1 x5_1 = some r) ∧ Aside0 (kq ≤ k) ∧ Drawn0 w w')
  case atStart => exact ⟨(0), (by first | rfl | (simp; done) | (simp [*]; done)), H', ⟨Nat.le_refl _⟩, by repeat (first | exact Drawn0.refl _ | apply Drawn0.step)⟩
  case round =>
   clear H'
   try clear c1
   try clear p2
   try clear c3
   try clear c3b0
   try clear c3b1
   try clear c3b2
   obtain ⟨x5_1, rfl, HA, HK1, ⟨m1, rfl⟩⟩ := hrel
   cases gk with
   | zero => exact absurd HA.out (by simp [forebaylaw16_texts.l0])
   | succ k1 =>
    have H := HA.out
    clear HA
    simp only [forebaylaw16_texts.l0] at H
    by_cases c4 : x5_1 < (l0.length : Int)
    ·rw [if_pos c4] at H
     have c4b0 : decide (x5_1 < (l0.length : Int)) = true := decide_eq_true c4
     clear c4
     by_cases c5 : 0 ≤ x5_1
     ·rw [if_pos c5] at H
      have c5b0 : decide (0 ≤ x5_1) = true := decide_eq_true c5
      clear c5
      by_cases c6 : x5_1 < (l1.length : Int)
      ·rw [if_pos c6] at H
       have c6b0 : decide (x5_1 < (l1.length : Int)) = true := decide_eq_true c6
       clear c6
       by_cases c7 : (rdOf ByteArray.empty l0 x5_1).toList = (rdOf ByteArray.empty l1 x5_1).toList
       ·rw [if_pos c7] at H
        have c7b0 : ((rdOf ByteArray.empty l0 x5_1).toList == (rdOf ByteArray.empty l1 x5_1).toList) = true := beq_iff_eq.mpr c7
        have c7b1 : ((rdOf ByteArray.empty l0 x5_1).toList != (rdOf ByteArray.empty l1 x5_1).toList) = false := bne_eq_false_iff_eq.mpr c7
        clear c7
        have H' := Aside0.mk H
        clear H
        have p215 : 0 ≤ (x5_1 : Int) := of_decide_eq_true (by first | (with_reducible assumption) | assumption)
        have q215 : x5_1 < (l0.length : Int) := of_decide_eq_true (by first | (with_reducible assumption) | assumption)
        obtain ⟨ad215, e215, hx215_0⟩ := Kd.at_string HR0.out x5_1 p215 q215
        cases e215
        replace p215 := eq_true p215
        replace q215 := eq_true q215
        have p216 : 0 ≤ (x5_1 : Int) := of_decide_eq_true (by first | (with_reducible assumption) | assumption)
        have q216 : x5_1 < (l1.length : Int) := of_decide_eq_true (by first | (with_reducible assumption) | assumption)
        obtain ⟨ad216, e216, hx216_0⟩ := Kd.at_string HR1.out x5_1 p216 q216
        cases e216
        replace p216 := eq_true p216
        replace q216 := eq_true q216
        go_wp2
        repeat (go_quiet (fail); try go_wp2)
        go_roundg k1
        case measure => have := HK1.out; omega
        case rel => exact ⟨(wrap64 (x5_1 + 1)), (by first | rfl | (simp; done) | (simp [*]; done)), H', ⟨by have := HK1.out; omega⟩, by repeat (first | exact Drawn0.refl _ | apply Drawn0.step)⟩
       ·rw [if_neg c7] at H
        have c7b0 : ((rdOf ByteArray.empty l0 x5_1).toList == (rdOf ByteArray.empty l1 x5_1).toList) = false := beq_eq_false_iff_ne.mpr c7
        have c7b1 : ((rdOf ByteArray.empty l0 x5_1).toList != (rdOf ByteArray.empty l1 x5_1).toList) = true := bne_iff_ne.mpr c7
        obtain rfl := Option.some.inj H
        have p215 : 0 ≤ (x5_1 : Int) := of_decide_eq_true (by first | (with_reducible assumption) | assumption)
        have q215 : x5_1 < (l0.length : Int) := of_decide_eq_true (by first | (with_reducible assumption) | assumption)
        obtain ⟨ad215, e215, hx215_0⟩ := Kd.at_string HR0.out x5_1 p215 q215
        cases e215
        replace p215 := eq_true p215
        replace q215 := eq_true q215
        have p216 : 0 ≤ (x5_1 : Int) := of_decide_eq_true (by first | (with_reducible assumption) | assumption)
        have q216 : x5_1 < (l1.length : Int) := of_decide_eq_true (by first | (with_reducible assumption) | assumption)
        obtain ⟨ad216, e216, hx216_0⟩ := Kd.at_string HR1.out x5_1 p216 q216
        cases e216
        replace p216 := eq_true p216
        replace q216 := eq_true q216
        go_wp2
        repeat (go_quiet (fail); try go_wp2)
        go_ret
        exact ⟨by first | rfl | (simp; done) | (simp [*]; done), by repeat (first | exact Drawn0.refl _ | apply Drawn0.step)⟩
      ·rw [if_neg c6] at H
       exact absurd H (by simp)
     ·rw [if_neg c5] at H
      exact absurd H (by simp)
    ·rw [if_neg c4] at H
     have c4b0 : decide (x5_1 < (l0.length : Int)) = false := decide_eq_false c4
     clear c4
     obtain rfl := Option.some.inj H
     go_wp2
     repeat (go_quiet (fail); try go_wp2)
     go_ret
     exact ⟨by first | rfl | (simp; done) | (simp [*]; done), by repeat (first | exact Drawn0.refl _ | apply Drawn0.step)⟩
 ·rw [if_neg c3] at H
  have c3b0 : ((l0.length : Int) == (l1.length : Int)) = false := beq_eq_false_iff_ne.mpr c3
  have c3b1 : ((l0.length : Int) != (l1.length : Int)) = true := bne_iff_ne.mpr c3
  have c3b2 : (l0.length == l1.length) = false := by first | simpa using c3 | (simp at c3 ⊢; omega)
  obtain rfl := Option.some.inj H
  go_enter Try.func14, Try.ntmps14
  go_wp2
  repeat (go_quiet (fail); try go_wp2)
  go_ret
  exact ⟨by first | rfl | (simp; done) | (simp [*]; done), by repeat (first | exact Drawn0.refl _ | apply Drawn0.step)⟩
end Go.Proofs.Ytclbmdblalgdjaa.PE
