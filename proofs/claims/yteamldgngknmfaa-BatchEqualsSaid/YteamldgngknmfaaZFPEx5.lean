-- Mended: a text that print.sh wrote for this seat, with one row changed.
import Derived.Test.YteamldgngknmfaaZFPEx0
import Derived.Test.YteamldgngknmfaaZFPEx4
namespace Go.Proofs.Yteamldgngknmfaa.PE
open Go.RowKit Go.Proofs.YteamldgngknmfaaW.PrintWords Go.Proofs.YteamldgngknmfaaW.PrintLast Go.Proofs.YteamldgngknmfaaW.PrintMore
attribute [local go_sem] max2_int min2_int max_two min_two max_three min_three max_four min_four   -- for this text's walks alone
set_option linter.unusedVariables false
set_option linter.unusedSimpArgs false
/-! ### forebayref03_Value: function 89 -/
def forebayref03_Value.l0 : Nat → ByteArray → Int → Int → Option (Int)
 | 0, _, _, _ => none
 | k + 1, x0, x3, x4 => if x4 < (x0.size : Int) then (if 0 ≤ x4 then (forebayref03_Value.l0 k x0 (IntKind.u64.wrap ((IntKind.u64.wrap (10 * x3)) + (((bt x0 x4) - 48) % 256))) (wrap64 (x4 + 1))) else (none)) else (some x3)
def forebayref03_Value.f (k : Nat) (a0 : ByteArray) : Option (Int) := forebayref03_Value.l0 k a0 0 0
set_option maxHeartbeats 8000000 in
set_option maxRecDepth 100000 in
theorem forebayref03_Value.calls (k : Nat) (a0 : ByteArray) (r : Int) (w : World) (h : forebayref03_Value.f k a0 = some r) :
  Calls Try.prog 89 #[.string a0] w fun e w' => e = .returned (.int .u64 r) ∧ Drawn0 w w' := by
 have H : (forebayref03_Value.l0 k a0 0 0) = some r := h
 clear h
 have H' := Aside0.mk H
 clear H
 go_enter Try.func89, Try.ntmps89
 go_wp2
 go_loopg [3, 4] k (fun kq v3 v4 w' => ∃ (x3_1 : Int) (x4_1 : Int), v3 = .int .u64 x3_1 ∧ v4 = .int .i64 x4_1 ∧ Aside0 (forebayref03_Value.l0 kq a0 x3_1 x4_1 = some r) ∧ Aside0 (kq ≤ k) ∧ Drawn0 w w')
 case atStart => exact ⟨(0), (0), (by first | rfl | (simp; done) | (simp [*]; done)), (by first | rfl | (simp; done) | (simp [*]; done)), H', ⟨Nat.le_refl _⟩, by repeat (first | exact Drawn0.refl _ | apply Drawn0.step)⟩
 case round =>
  clear H'
  obtain ⟨x3_1, x4_1, rfl, rfl, HA, HK1, ⟨m1, rfl⟩⟩ := hrel
  cases gk with
  | zero => exact absurd HA.out (by simp [forebayref03_Value.l0])
  | succ k1 =>
   have H := HA.out
   clear HA
   simp only [forebayref03_Value.l0] at H
   by_cases c2 : x4_1 < (a0.size : Int)
   ·rw [if_pos c2] at H
    have c2b0 : decide (x4_1 < (a0.size : Int)) = true := decide_eq_true c2
    clear c2
    by_cases c3 : 0 ≤ x4_1
    ·rw [if_pos c3] at H
     have c3b0 : decide (0 ≤ x4_1) = true := decide_eq_true c3
     clear c3
     have H' := Aside0.mk H
     clear H
     have p4 : 0 ≤ (x4_1 : Int) := of_decide_eq_true (by first | (with_reducible assumption) | assumption)
     have q4 : x4_1 < (a0.size : Int) := of_decide_eq_true (by first | (with_reducible assumption) | assumption)
     have hx4 := bt_at a0 x4_1
     replace p4 := eq_true p4
     replace q4 := eq_true q4
     go_wp2
     go_roundg k1
     case measure => have := HK1.out; omega
     case rel => exact ⟨(IntKind.u64.wrap ((IntKind.u64.wrap (10 * x3_1)) + (((bt a0 x4_1) - 48) % 256))), (wrap64 (x4_1 + 1)), (by first | rfl | (simp; done) | (simp [*]; done)), (by first | rfl | (simp; done) | (simp [*]; done)), H', ⟨by have := HK1.out; omega⟩, by repeat (first | exact Drawn0.refl _ | apply Drawn0.step)⟩
    ·rw [if_neg c3] at H
     exact absurd H (by simp)
   ·rw [if_neg c2] at H
    have c2b0 : decide (x4_1 < (a0.size : Int)) = false := decide_eq_false c2
    clear c2
    obtain rfl := Option.some.inj H
    go_wp2
    go_ret
    exact ⟨by first | rfl | (simp; done) | (simp [*]; done), by repeat (first | exact Drawn0.refl _ | apply Drawn0.step)⟩
/-! ### forebayref03_Make: function 70 -/
mutual
def forebayref03_Make.j1 : Nat → Bool → ByteArray → Int → Option (Bool × Int × Int × Bool)
 | 0, _, _, _ => none
 | k + 1, x0, x1, x2 => if x1.toList = ([] : List UInt8) then (some (false, 0, 0, true)) else (if x2 > 1000 then (forebayref03_Make.j2 k x0 x1 x2 true) else (forebayref03_Make.j2 k x0 x1 x2 (decide (x2 < (-1000000)))))
def forebayref03_Make.j2 : Nat → Bool → ByteArray → Int → Bool → Option (Bool × Int × Int × Bool)
 | 0, _, _, _, _ => none
 | k + 1, x0, x1, x2, x26 => if x26 = true then (some (false, 0, 0, false)) else (forebayref03_Make.l1 k x0 x1 x2)
def forebayref03_Make.j4 : Nat → Bool → ByteArray → Int → Option (Bool × Int × Int × Bool)
 | 0, _, _, _ => none
 | k + 1, x0, x1, x2 => forebayref03_Make.l2 k x0 x1 x2
def forebayref03_Make.l2 : Nat → Bool → ByteArray → Int → Option (Bool × Int × Int × Bool)
 | 0, _, _, _ => none
 | k + 1, x0, x1, x2 => if x2 > 18 then (if x1.size + 1 ≤ 9223372036854775807 then (forebayref03_Make.l2 k x0 (x1 ++ (⟨#[48]⟩ : ByteArray)) (wrap64 (x2 - 1))) else (none)) else (if x2 < (-18) then (some (false, 0, 0, false)) else ((forebayref03_Fits.f x1).bind fun t139 => (if t139 = true then ((forebayref03_Value.f k x1).bind fun t140 => (some (x0, t140, x2, true))) else (some (false, 0, 0, false)))))
def forebayref03_Make.l1 : Nat → Bool → ByteArray → Int → Option (Bool × Int × Int × Bool)
 | 0, _, _, _ => none
 | k + 1, x0, x1, x2 => if x2 < 18 then (if 0 ≤ (wrap64 ((x1.size : Int) - 1)) then (if (wrap64 ((x1.size : Int) - 1)) < (x1.size : Int) then (if (bt x1 (wrap64 ((x1.size : Int) - 1))) = 48 then (if (wrap64 ((x1.size : Int) - 1)) ≤ (x1.size : Int) then (forebayref03_Make.l1 k x0 (x1.extract 0 ((wrap64 ((x1.size : Int) - 1)) : Int).toNat) (wrap64 (x2 + 1))) else (none)) else (forebayref03_Make.j4 k x0 x1 x2)) else (none)) else (none)) else (forebayref03_Make.j4 k x0 x1 x2)
def forebayref03_Make.l0 : Nat → Bool → ByteArray → Int → Option (Bool × Int × Int × Bool)
 | 0, _, _, _ => none
 | k + 1, x0, x1, x2 => if (x1.size : Int) > 0 then (if 0 < (x1.size : Int) then (if (bt x1 0) = 48 then (if 1 ≤ (x1.size : Int) then (forebayref03_Make.l0 k x0 (x1.extract 1 x1.size) x2) else (none)) else (forebayref03_Make.j1 k x0 x1 x2)) else (none)) else (forebayref03_Make.j1 k x0 x1 x2)
end
def forebayref03_Make.f (k : Nat) (a0 : Bool) (a1 : ByteArray) (a2 : Int) : Option (Bool × Int × Int × Bool) := forebayref03_Make.l0 k a0 a1 a2
set_option maxHeartbeats 8000000 in
set_option maxRecDepth 100000 in
theorem forebayref03_Make.calls (k : Nat) (a0 : Bool) (a1 : ByteArray) (a2 : Int) (r1 : Bool) (r2 : Int) (r3 : Int) (r4 : Bool) (w : World) (h : forebayref03_Make.f k a0 a1 a2 = some (r1, r2, r3, r4)) :
  Calls Try.prog 70 #[.bool a0, .string a1, .int .i64 a2] w fun e w' => e = .returned (.tuple #[.agg #[.bool r1, .int .u64 r2, .int .i64 r3], .bool r4]) ∧ Below w.heap.size w w' := by
 have hu40 := Try.underlying40
 have HB := Aside0.mk (Below.refl w.heap.size w)
 have H : (forebayref03_Make.l0 k a0 a1 a2) = some (r1, r2, r3, r4) := h
 clear h
 have HC4 := Aside0.mk H
 clear H
 go_enter Try.func70, Try.ntmps70
 go_upto_block 0 with (first | ((with_reducible refine gate_dst (N := 6) rfl ?_); (try (refine gate_guard (by rfl) ?_; dsimp only)); refine box_event ?hg (N := 6) ?hd (cs := #[.bool false, .int .u64 0, .int .i64 0]) (t := 40) ?hr ?_; (case hd => rfl); (case hg => rfl); (case hr => first | (go_simp; done) | (go_simp; rfl)); intro gb138 hg w5 hbox hb; have n0_ := Aside0.mk (below_step (by repeat (first | (with_reducible first | exact HB.out | apply below_alloc | apply pw_below_drewN | apply below_drew1) | exact HB.out)) hb); have n1_ := Aside0.mk (hbox); have n2_ := Aside0.mk ((by rw [hg]; exact (below_size (by repeat (first | (with_reducible first | exact HB.out | apply below_alloc | apply pw_below_drewN | apply below_drew1) | exact HB.out))) : w.heap.size ≤ gb138)); have n3_ := Aside0.mk ((by rw [hg]; exact (below_size (by repeat (first | (with_reducible first | exact HB.out | apply below_alloc | apply pw_below_drewN | apply below_drew1) | exact HB.out))) : w.heap.size ≤ gb138)); clear HB; have HB := n0_; have BK138 := n1_; have GW138 := n2_; have GE138 := n3_; clear n0_ n1_ n2_ n3_; clear hb hbox hg))
 (try simp only [Act.put, List.setIfInBounds_toArray, List.set_cons_zero, List.set_cons_succ])
 go_cut [1] (fun v1 wc => ∃ (kq : Nat) (x1_3 : ByteArray), v1 = .string x1_3 ∧ Aside0 (forebayref03_Make.j1 kq a0 x1_3 a2 = some (r1, r2, r3, r4)) ∧ Aside0 (kq ≤ k) ∧ Aside0 (wc.heap[gb138]? = some (.cells #[.bool false, .int .u64 0, .int .i64 0] 40 (0, 0))) ∧ Aside0 (Below w.heap.size w wc))
 case first =>
  have H := HC4.out
  clear HC4
  have H' := Aside0.mk H
  clear H
  go_wp2
  go_loopg [1] k (fun kq v1 w' => ∃ (x1_1 : ByteArray), v1 = .string x1_1 ∧ Aside0 (forebayref03_Make.l0 kq a0 x1_1 a2 = some (r1, r2, r3, r4)) ∧ Aside0 (kq ≤ k) ∧ Aside0 (w'.heap[gb138]? = some (.cells #[.bool false, .int .u64 0, .int .i64 0] 40 (0, 0))) ∧ Aside0 (Below w.heap.size w w'))
  case atStart => exact ⟨(a1), (by first | rfl | (simp; done) | (simp [*]; done)), H', ⟨Nat.le_refl _⟩, ⟨by (with_reducible repeat (first | refine blk_drewN ?_ _ | refine blk_drew ?_ | refine blk_alloc ?_ _)); exact BK138.out⟩, ⟨by repeat (first | (with_reducible first | exact HB.out | apply below_alloc | apply pw_below_drewN | apply below_drew1 | refine below_set ?_ GE138.out) | exact HB.out)⟩⟩
  case round =>
   clear H'
   try clear p2
   obtain ⟨x1_1, rfl, HA, HK1, BK138, HB⟩ := hrel
   cases gk with
   | zero => exact absurd HA.out (by simp [forebayref03_Make.l0])
   | succ k1 =>
    have H := HA.out
    clear HA
    simp only [forebayref03_Make.l0] at H
    by_cases c6 : (x1_1.size : Int) > 0
    ·rw [if_pos c6] at H
     have c6b0 : decide (0 < (x1_1.size : Int)) = true := decide_eq_true c6
     have c6b1 : decide (0 < x1_1.size) = true := decide_eq_true (by omega)
     clear c6
     (first | rw [c6b0] | (simp only [i64_w, i32_w]; rw [c6b0]) | skip)
     by_cases c7 : 0 < (x1_1.size : Int)
     ·rw [if_pos c7] at H
      have c7b0 : decide (0 < (x1_1.size : Int)) = true := decide_eq_true c7
      have c7b1 : decide (0 < x1_1.size) = true := decide_eq_true (by omega)
      clear c7
      by_cases c9 : (bt x1_1 0) = 48
      ·rw [if_pos c9] at H
       have c9b0 : ((bt x1_1 0) == 48) = true := beq_iff_eq.mpr c9
       have c9b1 : ((bt x1_1 0) != 48) = false := bne_eq_false_iff_eq.mpr c9
       clear c9
       by_cases c10 : 1 ≤ (x1_1.size : Int)
       ·rw [if_pos c10] at H
        have c10b0 := eq_true c10
        have c10b1 : decide (1 ≤ (x1_1.size : Int)) = true := decide_eq_true c10
        clear c10
        have H' := Aside0.mk H
        clear H
        have p8 : 0 ≤ (0 : Int) := (by omega)
        have q8 : 0 < x1_1.size := (by have : (0 : Int) < (x1_1.size : Int) := of_decide_eq_true (by first | (with_reducible assumption) | assumption); omega)
        have hx8 : ∀ h : 0 < x1_1.size, ((x1_1[0]'h).toNat : Int) = bt x1_1 0 := bt_at x1_1 0
        clear p8
        have qi8 : (0 < (x1_1.size : Int)) = True := eq_true (of_decide_eq_true (by first | (with_reducible assumption) | assumption))
        replace q8 := eq_true q8
        go_wp2
        go_roundg k1
        case measure => have := HK1.out; omega
        case rel => exact ⟨(x1_1.extract 1 x1_1.size), (by first | rfl | (simp; done) | (simp [*]; done)), H', ⟨by have := HK1.out; omega⟩, ⟨by (with_reducible repeat (first | refine blk_drewN ?_ _ | refine blk_drew ?_ | refine blk_alloc ?_ _)); exact BK138.out⟩, ⟨by repeat (first | (with_reducible first | exact HB.out | apply below_alloc | apply pw_below_drewN | apply below_drew1 | refine below_set ?_ GE138.out) | exact HB.out)⟩⟩
       ·rw [if_neg c10] at H
        exact absurd H (by simp)
      ·rw [if_neg c9] at H
       have c9b0 : ((bt x1_1 0) == 48) = false := beq_eq_false_iff_ne.mpr c9
       have c9b1 : ((bt x1_1 0) != 48) = true := bne_iff_ne.mpr c9
       have H' := Aside0.mk H
       clear H
       have p8 : 0 ≤ (0 : Int) := (by omega)
       have q8 : 0 < x1_1.size := (by have : (0 : Int) < (x1_1.size : Int) := of_decide_eq_true (by first | (with_reducible assumption) | assumption); omega)
       have hx8 : ∀ h : 0 < x1_1.size, ((x1_1[0]'h).toNat : Int) = bt x1_1 0 := bt_at x1_1 0
       clear p8
       have qi8 : (0 < (x1_1.size : Int)) = True := eq_true (of_decide_eq_true (by first | (with_reducible assumption) | assumption))
       replace q8 := eq_true q8
       go_wp2
       go_meet
       case rel => exact ⟨_, (x1_1), (by first | rfl | (simp; done) | (simp [*]; done)), H', ⟨by have := HK1.out; first | omega | exact Nat.le_refl _⟩, ⟨by (with_reducible repeat (first | refine blk_drewN ?_ _ | refine blk_drew ?_ | refine blk_alloc ?_ _)); exact BK138.out⟩, ⟨by repeat (first | (with_reducible first | exact HB.out | apply below_alloc | apply pw_below_drewN | apply below_drew1 | refine below_set ?_ GE138.out) | exact HB.out)⟩⟩
     ·rw [if_neg c7] at H
      exact absurd H (by simp)
    ·rw [if_neg c6] at H
     have c6b0 : decide (0 < (x1_1.size : Int)) = false := decide_eq_false c6
     have c6b1 : decide (0 < x1_1.size) = false := decide_eq_false (by omega)
     clear c6
     (first | rw [c6b0] | (simp only [i64_w, i32_w]; rw [c6b0]) | skip)
     have H' := Aside0.mk H
     clear H
     go_wp2
     go_meet
     case rel => exact ⟨_, (x1_1), (by first | rfl | (simp; done) | (simp [*]; done)), H', ⟨by have := HK1.out; first | omega | exact Nat.le_refl _⟩, ⟨by (with_reducible repeat (first | refine blk_drewN ?_ _ | refine blk_drew ?_ | refine blk_alloc ?_ _)); exact BK138.out⟩, ⟨by repeat (first | (with_reducible first | exact HB.out | apply below_alloc | apply pw_below_drewN | apply below_drew1 | refine below_set ?_ GE138.out) | exact HB.out)⟩⟩
 case rest =>
  clear HC4
  try clear c1
  try clear p2
  try clear c6
  try clear c6b0
  try clear c6b1
  try clear c7
  try clear c7b0
  try clear c7b1
  try clear p8
  try clear q8
  try clear hx8
  try clear qi8
  try clear c9
  try clear c9b0
  try clear c9b1
  try clear c10
  try clear c10b0
  try clear c10b1
  try clear p2
  try clear p8
  try clear q8
  obtain ⟨kq, x1_3, rfl, HA, HJ3, BK138, HB⟩ := hcut
  cases kq with
  | zero => exact absurd HA.out (by simp [forebayref03_Make.j1])
  | succ kj3 =>
   have H := HA.out
   clear HA
   simp only [forebayref03_Make.j1] at H
   by_cases c11 : x1_3.toList = ([] : List UInt8)
   ·rw [if_pos c11] at H
    have c11b0 : (x1_3.toList == ([] : List UInt8)) = true := beq_iff_eq.mpr c11
    have c11b1 : (x1_3.toList != ([] : List UInt8)) = false := bne_eq_false_iff_eq.mpr c11
    clear c11
    simp only [Option.some.injEq, Prod.mk.injEq] at H
    obtain ⟨rfl, rfl, rfl, rfl⟩ := H
    have hcz12_0 : wc.cell? ⟨gb138, 0, none⟩ = some (.bool false) := (blk_cell BK138.out 0).trans rfl
    have hcz12_1 : wc.cell? ⟨gb138, 1, none⟩ = some (.int .u64 0) := (blk_cell BK138.out 1).trans rfl
    have hcz12_2 : wc.cell? ⟨gb138, 2, none⟩ = some (.int .i64 0) := (blk_cell BK138.out 2).trans rfl
    have hfz12_0 := blk_frozen BK138.out 0
    have hfz12_1 := blk_frozen BK138.out 1
    have hfz12_2 := blk_frozen BK138.out 2
    go_wp2
    refine bodyPost_ret (results_ct rfl _ _ gb138 40 #[.bool false, .int .u64 0, .int .i64 0] (0, 0) _ rfl (by (with_reducible repeat (first | refine blk_drewN ?_ _ | refine blk_drew ?_ | refine blk_alloc ?_ _)); refine blk_put (cs := #[.bool false, .int .u64 0, .int .i64 0]) ?_ 2 _ rfl; (with_reducible repeat (first | refine blk_drewN ?_ _ | refine blk_drew ?_ | refine blk_alloc ?_ _)); refine blk_put (cs := #[.bool false, .int .u64 0, .int .i64 0]) ?_ 1 _ rfl; (with_reducible repeat (first | refine blk_drewN ?_ _ | refine blk_drew ?_ | refine blk_alloc ?_ _)); refine blk_put (cs := #[.bool false, .int .u64 0, .int .i64 0]) ?_ 0 _ rfl; (with_reducible repeat (first | refine blk_drewN ?_ _ | refine blk_drew ?_ | refine blk_alloc ?_ _)); exact BK138.out) Try.underlying40 rfl (by kernel_rfl)) rfl ?_
    exact ⟨by first | rfl | (simp [errW_none, errW_some] <;> rfl) | (simp [*, errW_none, errW_some] <;> rfl), by repeat (first | (with_reducible first | exact HB.out | apply below_alloc | apply pw_below_drewN | apply below_drew1 | refine below_set ?_ GE138.out) | exact HB.out)⟩
   ·rw [if_neg c11] at H
    have c11b0 : (x1_3.toList == ([] : List UInt8)) = false := beq_eq_false_iff_ne.mpr c11
    have c11b1 : (x1_3.toList != ([] : List UInt8)) = true := bne_iff_ne.mpr c11
    have HC13 := Aside0.mk H
    clear H
    go_upto_region 5 with (fail)
    go_cut [26] (fun v26 wc => ∃ (kq : Nat) (x26_12 : Bool), v26 = .bool x26_12 ∧ Aside0 (forebayref03_Make.j2 kq a0 x1_3 a2 x26_12 = some (r1, r2, r3, r4)) ∧ Aside0 (kq ≤ kj3) ∧ Aside0 (wc.heap[gb138]? = some (.cells #[.bool false, .int .u64 0, .int .i64 0] 40 (0, 0))) ∧ Aside0 (Below w.heap.size w wc))
    case first =>
     have H := HC13.out
     clear HC13
     by_cases c14 : a2 > 1000
     ·rw [if_pos c14] at H
      have c14b0 : decide (1000 < a2) = true := decide_eq_true c14
      clear c14
      (first | rw [c14b0] | (simp only [i64_w, i32_w]; rw [c14b0]) | skip)
      have H' := Aside0.mk H
      clear H
      go_wp2
      go_meet
      case rel => exact ⟨_, (true), (by first | rfl | (simp; done) | (simp [*]; done)), H', ⟨by have := HJ3.out; first | omega | exact Nat.le_refl _⟩, ⟨by (with_reducible repeat (first | refine blk_drewN ?_ _ | refine blk_drew ?_ | refine blk_alloc ?_ _)); exact BK138.out⟩, ⟨by repeat (first | (with_reducible first | exact HB.out | apply below_alloc | apply pw_below_drewN | apply below_drew1 | refine below_set ?_ GE138.out) | exact HB.out)⟩⟩
     ·rw [if_neg c14] at H
      have c14b0 : decide (1000 < a2) = false := decide_eq_false c14
      clear c14
      (first | rw [c14b0] | (simp only [i64_w, i32_w]; rw [c14b0]) | skip)
      have H' := Aside0.mk H
      clear H
      go_wp2
      go_meet
      case rel => exact ⟨_, (decide (a2 < (-1000000))), (by first | rfl | (simp; done) | (simp [*]; done)), H', ⟨by have := HJ3.out; first | omega | exact Nat.le_refl _⟩, ⟨by (with_reducible repeat (first | refine blk_drewN ?_ _ | refine blk_drew ?_ | refine blk_alloc ?_ _)); exact BK138.out⟩, ⟨by repeat (first | (with_reducible first | exact HB.out | apply below_alloc | apply pw_below_drewN | apply below_drew1 | refine below_set ?_ GE138.out) | exact HB.out)⟩⟩
    case rest =>
     clear HC13
     try clear c1
     try clear p2
     try clear c6
     try clear c6b0
     try clear c6b1
     try clear c7
     try clear c7b0
     try clear c7b1
     try clear p8
     try clear q8
     try clear hx8
     try clear qi8
     try clear c9
     try clear c9b0
     try clear c9b1
     try clear c10
     try clear c10b0
     try clear c10b1
     try clear c11
     try clear c11b0
     try clear c11b1
     try clear c14
     try clear c14b0
     try clear hcz12_0
     try clear hcz12_1
     try clear hcz12_2
     try clear hfz12_0
     try clear hfz12_1
     try clear hfz12_2
     try clear p2
     try clear p8
     try clear q8
     obtain ⟨kq, x26_12, rfl, HA, HJ12, BK138, HB⟩ := hcut
     cases kq with
     | zero => exact absurd HA.out (by simp [forebayref03_Make.j2])
     | succ kj12 =>
      have H := HA.out
      clear HA
      simp only [forebayref03_Make.j2] at H
      by_cases c15 : x26_12 = true
      ·subst c15
       have H1 : (some (false, 0, 0, false)) = some (r1, r2, r3, r4) := by rw [if_pos rfl] at H; exact H
       clear H
       have H := H1
       clear H1
       simp only [Option.some.injEq, Prod.mk.injEq] at H
       obtain ⟨rfl, rfl, rfl, rfl⟩ := H
       have hcz16_0 : wc.cell? ⟨gb138, 0, none⟩ = some (.bool false) := (blk_cell BK138.out 0).trans rfl
       have hcz16_1 : wc.cell? ⟨gb138, 1, none⟩ = some (.int .u64 0) := (blk_cell BK138.out 1).trans rfl
       have hcz16_2 : wc.cell? ⟨gb138, 2, none⟩ = some (.int .i64 0) := (blk_cell BK138.out 2).trans rfl
       have hfz16_0 := blk_frozen BK138.out 0
       have hfz16_1 := blk_frozen BK138.out 1
       have hfz16_2 := blk_frozen BK138.out 2
       go_wp2
       refine bodyPost_ret (results_ct rfl _ _ gb138 40 #[.bool false, .int .u64 0, .int .i64 0] (0, 0) _ rfl (by (with_reducible repeat (first | refine blk_drewN ?_ _ | refine blk_drew ?_ | refine blk_alloc ?_ _)); refine blk_put (cs := #[.bool false, .int .u64 0, .int .i64 0]) ?_ 2 _ rfl; (with_reducible repeat (first | refine blk_drewN ?_ _ | refine blk_drew ?_ | refine blk_alloc ?_ _)); refine blk_put (cs := #[.bool false, .int .u64 0, .int .i64 0]) ?_ 1 _ rfl; (with_reducible repeat (first | refine blk_drewN ?_ _ | refine blk_drew ?_ | refine blk_alloc ?_ _)); refine blk_put (cs := #[.bool false, .int .u64 0, .int .i64 0]) ?_ 0 _ rfl; (with_reducible repeat (first | refine blk_drewN ?_ _ | refine blk_drew ?_ | refine blk_alloc ?_ _)); exact BK138.out) Try.underlying40 rfl (by kernel_rfl)) rfl ?_
       exact ⟨by first | rfl | (simp [errW_none, errW_some] <;> rfl) | (simp [*, errW_none, errW_some] <;> rfl), by repeat (first | (with_reducible first | exact HB.out | apply below_alloc | apply pw_below_drewN | apply below_drew1 | refine below_set ?_ GE138.out) | exact HB.out)⟩
      ·replace c15 := Bool.eq_false_iff.mpr c15
       subst c15
       have H1 : (forebayref03_Make.l1 kj12 a0 x1_3 a2) = some (r1, r2, r3, r4) := by rw [if_neg (show ¬ (false = true) by decide)] at H; exact H
       clear H
       have H := H1
       clear H1
       have HC17 := Aside0.mk H
       clear H
       go_upto_block 2 with (fail)
       go_cut [1, 2] (fun v1 v2 wc => ∃ (kq : Nat) (x1_16 : ByteArray) (x2_16 : Int), v1 = .string x1_16 ∧ v2 = .int .i64 x2_16 ∧ Aside0 (forebayref03_Make.j4 kq a0 x1_16 x2_16 = some (r1, r2, r3, r4)) ∧ Aside0 (kq ≤ kj12) ∧ Aside0 (wc.heap[gb138]? = some (.cells #[.bool false, .int .u64 0, .int .i64 0] 40 (0, 0))) ∧ Aside0 (Below w.heap.size w wc))
       case first =>
        have H := HC17.out
        clear HC17
        have H' := Aside0.mk H
        clear H
        go_wp2
        go_loopg [1, 2] kj12 (fun kq v1 v2 w' => ∃ (x1_3 : ByteArray) (x2_3 : Int), v1 = .string x1_3 ∧ v2 = .int .i64 x2_3 ∧ Aside0 (forebayref03_Make.l1 kq a0 x1_3 x2_3 = some (r1, r2, r3, r4)) ∧ Aside0 (kq ≤ kj12) ∧ Aside0 (w'.heap[gb138]? = some (.cells #[.bool false, .int .u64 0, .int .i64 0] 40 (0, 0))) ∧ Aside0 (Below w.heap.size w w'))
        case atStart => exact ⟨(x1_3), (a2), (by first | rfl | (simp; done) | (simp [*]; done)), (by first | rfl | (simp; done) | (simp [*]; done)), H', ⟨Nat.le_refl _⟩, ⟨by (with_reducible repeat (first | refine blk_drewN ?_ _ | refine blk_drew ?_ | refine blk_alloc ?_ _)); exact BK138.out⟩, ⟨by repeat (first | (with_reducible first | exact HB.out | apply below_alloc | apply pw_below_drewN | apply below_drew1 | refine below_set ?_ GE138.out) | exact HB.out)⟩⟩
        case round =>
         clear H'
         try clear c1
         try clear p2
         try clear c6
         try clear c6b0
         try clear c6b1
         try clear c7
         try clear c7b0
         try clear c7b1
         try clear p8
         try clear q8
         try clear hx8
         try clear qi8
         try clear c9
         try clear c9b0
         try clear c9b1
         try clear c10
         try clear c10b0
         try clear c10b1
         try clear c11
         try clear c11b0
         try clear c11b1
         try clear c14
         try clear c14b0
         try clear c15
         try clear hcz12_0
         try clear hcz12_1
         try clear hcz12_2
         try clear hcz16_0
         try clear hcz16_1
         try clear hcz16_2
         try clear hfz12_0
         try clear hfz12_1
         try clear hfz12_2
         try clear hfz16_0
         try clear hfz16_1
         try clear hfz16_2
         try clear p2
         try clear p8
         try clear q8
         obtain ⟨x1_3, x2_3, rfl, rfl, HA, HK3, BK138, HB⟩ := hrel
         cases gk with
         | zero => exact absurd HA.out (by simp [forebayref03_Make.l1])
         | succ k3 =>
          have H := HA.out
          clear HA
          simp only [forebayref03_Make.l1] at H
          by_cases c18 : x2_3 < 18
          ·rw [if_pos c18] at H
           have c18b0 : decide (x2_3 < 18) = true := decide_eq_true c18
           clear c18
           (first | rw [c18b0] | (simp only [i64_w, i32_w]; rw [c18b0]) | skip)
           obtain ⟨ji19, hji19⟩ : ∃ j_ : Int, (wrap64 ((x1_3.size : Int) - 1)) = j_ := ⟨_, rfl⟩
           replace H : (if 0 ≤ (ji19) then (if (ji19) < (x1_3.size : Int) then (if (bt x1_3 (ji19)) = 48 then (if (ji19) ≤ (x1_3.size : Int) then (forebayref03_Make.l1 k3 a0 (x1_3.extract 0 ((ji19) : Int).toNat) (wrap64 (x2_3 + 1))) else (none)) else (forebayref03_Make.j4 k3 a0 x1_3 x2_3)) else (none)) else (none)) = some (r1, r2, r3, r4) := by first | (rw [hji19] at H; exact H) | (simp only [hji19] at H ⊢; exact H)
           have hji19w : (IntKind.i64.wrap ((x1_3.size : Int) - 1)) = ji19 := (i64_w _).trans hji19
           by_cases c20 : 0 ≤ (ji19)
           ·rw [if_pos c20] at H
            have c20b0 : decide (0 ≤ (ji19)) = true := decide_eq_true c20
            clear c20
            by_cases c21 : (ji19) < (x1_3.size : Int)
            ·rw [if_pos c21] at H
             have c21b0 : decide ((ji19) < (x1_3.size : Int)) = true := decide_eq_true c21
             clear c21
             by_cases c23 : (bt x1_3 (ji19)) = 48
             ·rw [if_pos c23] at H
              have c23b0 : ((bt x1_3 (ji19)) == 48) = true := beq_iff_eq.mpr c23
              have c23b1 : ((bt x1_3 (ji19)) != 48) = false := bne_eq_false_iff_eq.mpr c23
              clear c23
              have c24b0 := eq_true (of_decide_eq_true (by first | (with_reducible assumption) | assumption) : 0 ≤ (ji19))
              by_cases c25 : (ji19) ≤ (x1_3.size : Int)
              ·rw [if_pos c25] at H
               have c25b0 := eq_true c25
               have c25b1 : decide ((ji19) ≤ (x1_3.size : Int)) = true := decide_eq_true c25
               clear c25
               have H' := Aside0.mk H
               clear H
               have p22 : 0 ≤ ((ji19) : Int) := of_decide_eq_true (by first | (with_reducible assumption) | assumption)
               have q22 : (ji19) < (x1_3.size : Int) := of_decide_eq_true (by first | (with_reducible assumption) | assumption)
               have hx22 := bt_at x1_3 (ji19)
               replace p22 := eq_true p22
               replace q22 := eq_true q22
               go_wp2
               go_roundg k3
               case measure => have := HJ3.out; have := HJ12.out; have := HK3.out; omega
               case rel => exact ⟨(x1_3.extract 0 ((ji19) : Int).toNat), (wrap64 (x2_3 + 1)), (by first | rfl | (simp; done) | (simp only [← hji19] <;> (first | rfl | simp)) | (simp [*]; done)), (by first | rfl | (simp; done) | (simp [*]; done)), H', ⟨by have := HJ3.out; have := HJ12.out; have := HK3.out; omega⟩, ⟨by (with_reducible repeat (first | refine blk_drewN ?_ _ | refine blk_drew ?_ | refine blk_alloc ?_ _)); exact BK138.out⟩, ⟨by repeat (first | (with_reducible first | exact HB.out | apply below_alloc | apply pw_below_drewN | apply below_drew1 | refine below_set ?_ GE138.out) | exact HB.out)⟩⟩
              ·rw [if_neg c25] at H
               exact absurd H (by simp)
             ·rw [if_neg c23] at H
              have c23b0 : ((bt x1_3 (ji19)) == 48) = false := beq_eq_false_iff_ne.mpr c23
              have c23b1 : ((bt x1_3 (ji19)) != 48) = true := bne_iff_ne.mpr c23
              have H' := Aside0.mk H
              clear H
              have p22 : 0 ≤ ((ji19) : Int) := of_decide_eq_true (by first | (with_reducible assumption) | assumption)
              have q22 : (ji19) < (x1_3.size : Int) := of_decide_eq_true (by first | (with_reducible assumption) | assumption)
              have hx22 := bt_at x1_3 (ji19)
              replace p22 := eq_true p22
              replace q22 := eq_true q22
              go_wp2
              go_meet
              case rel => exact ⟨_, (x1_3), (x2_3), (by first | rfl | (simp; done) | (simp [*]; done)), (by first | rfl | (simp; done) | (simp [*]; done)), H', ⟨by have := HJ3.out; have := HJ12.out; have := HK3.out; first | omega | exact Nat.le_refl _⟩, ⟨by (with_reducible repeat (first | refine blk_drewN ?_ _ | refine blk_drew ?_ | refine blk_alloc ?_ _)); exact BK138.out⟩, ⟨by repeat (first | (with_reducible first | exact HB.out | apply below_alloc | apply pw_below_drewN | apply below_drew1 | refine below_set ?_ GE138.out) | exact HB.out)⟩⟩
            ·rw [if_neg c21] at H
             exact absurd H (by simp)
           ·rw [if_neg c20] at H
            exact absurd H (by simp)
          ·rw [if_neg c18] at H
           have c18b0 : decide (x2_3 < 18) = false := decide_eq_false c18
           clear c18
           (first | rw [c18b0] | (simp only [i64_w, i32_w]; rw [c18b0]) | skip)
           have H' := Aside0.mk H
           clear H
           go_wp2
           go_meet
           case rel => exact ⟨_, (x1_3), (x2_3), (by first | rfl | (simp; done) | (simp [*]; done)), (by first | rfl | (simp; done) | (simp [*]; done)), H', ⟨by have := HJ3.out; have := HJ12.out; have := HK3.out; first | omega | exact Nat.le_refl _⟩, ⟨by (with_reducible repeat (first | refine blk_drewN ?_ _ | refine blk_drew ?_ | refine blk_alloc ?_ _)); exact BK138.out⟩, ⟨by repeat (first | (with_reducible first | exact HB.out | apply below_alloc | apply pw_below_drewN | apply below_drew1 | refine below_set ?_ GE138.out) | exact HB.out)⟩⟩
       case rest =>
        clear HC17
        try clear c1
        try clear c2
        try clear p2
        try clear q2
        try clear hx2
        try clear c6
        try clear c6b0
        try clear c6b1
        try clear p6
        try clear c7
        try clear c7b0
        try clear c7b1
        try clear p8
        try clear q8
        try clear hx8
        try clear qi8
        try clear c9
        try clear c9b0
        try clear c9b1
        try clear c10
        try clear c10b0
        try clear c10b1
        try clear c11
        try clear c11b0
        try clear c11b1
        try clear c14
        try clear c14b0
        try clear c15
        try clear c18
        try clear c18b0
        try clear c20
        try clear c20b0
        try clear c21
        try clear c21b0
        try clear p22
        try clear q22
        try clear hx22
        try clear c23
        try clear c23b0
        try clear c23b1
        try clear c24
        try clear c24b0
        try clear c25
        try clear c25b0
        try clear c25b1
        try clear hcz12_0
        try clear hcz12_1
        try clear hcz12_2
        try clear hcz16_0
        try clear hcz16_1
        try clear hcz16_2
        try clear hfz12_0
        try clear hfz12_1
        try clear hfz12_2
        try clear hfz16_0
        try clear hfz16_1
        try clear hfz16_2
        try clear p2
        try clear p22
        try clear p8
        try clear q22
        try clear q8
        obtain ⟨kq, x1_16, x2_16, rfl, rfl, HA, HJ16, BK138, HB⟩ := hcut
        cases kq with
        | zero => exact absurd HA.out (by simp [forebayref03_Make.j4])
        | succ kj16 =>
         have H := HA.out
         clear HA
         simp only [forebayref03_Make.j4] at H
         have H' := Aside0.mk H
         clear H
         go_wp2
         go_loopg [1, 2] kj16 (fun kq v1 v2 w' => ∃ (x1_4 : ByteArray) (x2_4 : Int), v1 = .string x1_4 ∧ v2 = .int .i64 x2_4 ∧ Aside0 (forebayref03_Make.l2 kq a0 x1_4 x2_4 = some (r1, r2, r3, r4)) ∧ Aside0 (kq ≤ kj16) ∧ Aside0 (w'.heap[gb138]? = some (.cells #[.bool false, .int .u64 0, .int .i64 0] 40 (0, 0))) ∧ Aside0 (Below w.heap.size w w'))
         case atStart => exact ⟨(x1_16), (x2_16), (by first | rfl | (simp; done) | (simp [*]; done)), (by first | rfl | (simp; done) | (simp [*]; done)), H', ⟨Nat.le_refl _⟩, ⟨by (with_reducible repeat (first | refine blk_drewN ?_ _ | refine blk_drew ?_ | refine blk_alloc ?_ _)); exact BK138.out⟩, ⟨by repeat (first | (with_reducible first | exact HB.out | apply below_alloc | apply pw_below_drewN | apply below_drew1 | refine below_set ?_ GE138.out) | exact HB.out)⟩⟩
         case round =>
          clear H'
          try clear c1
          try clear c2
          try clear p2
          try clear q2
          try clear hx2
          try clear c6
          try clear c6b0
          try clear c6b1
          try clear p6
          try clear c7
          try clear c7b0
          try clear c7b1
          try clear p8
          try clear q8
          try clear hx8
          try clear qi8
          try clear c9
          try clear c9b0
          try clear c9b1
          try clear c10
          try clear c10b0
          try clear c10b1
          try clear c11
          try clear c11b0
          try clear c11b1
          try clear c14
          try clear c14b0
          try clear c15
          try clear c18
          try clear c18b0
          try clear c20
          try clear c20b0
          try clear c21
          try clear c21b0
          try clear p22
          try clear q22
          try clear hx22
          try clear c23
          try clear c23b0
          try clear c23b1
          try clear c24
          try clear c24b0
          try clear c25
          try clear c25b0
          try clear c25b1
          try clear hcz12_0
          try clear hcz12_1
          try clear hcz12_2
          try clear hcz16_0
          try clear hcz16_1
          try clear hcz16_2
          try clear hfz12_0
          try clear hfz12_1
          try clear hfz12_2
          try clear hfz16_0
          try clear hfz16_1
          try clear hfz16_2
          try clear p2
          try clear p22
          try clear p6
          try clear p8
          try clear q2
          try clear q22
          try clear q8
          obtain ⟨x1_4, x2_4, rfl, rfl, HA, HK4, BK138, HB⟩ := hrel
          cases gk with
          | zero => exact absurd HA.out (by simp [forebayref03_Make.l2])
          | succ k4 =>
           have H := HA.out
           clear HA
           simp only [forebayref03_Make.l2] at H
           by_cases c26 : x2_4 > 18
           ·rw [if_pos c26] at H
            have c26b0 : decide (18 < x2_4) = true := decide_eq_true c26
            clear c26
            by_cases c27 : x1_4.size + 1 ≤ 9223372036854775807
            ·rw [if_pos c27] at H
             have c27b0 := eq_true c27
             have c27b1 : decide (x1_4.size + 1 ≤ 9223372036854775807) = true := decide_eq_true c27
             try have c27b2 : (9223372036854775807 < x1_4.size + 1) = False := eq_false (Nat.not_lt.2 c27)
             have H' := Aside0.mk H
             clear H
             go_wp2
             go_roundg k4
             case measure => have := HJ3.out; have := HJ12.out; have := HJ16.out; have := HK4.out; omega
             case rel => exact ⟨(x1_4 ++ (⟨#[48]⟩ : ByteArray)), (wrap64 (x2_4 - 1)), (by first | rfl | (simp; done) | (simp [*]; done)), (by first | rfl | (simp; done) | (simp [*]; done)), H', ⟨by have := HJ3.out; have := HJ12.out; have := HJ16.out; have := HK4.out; omega⟩, ⟨by (with_reducible repeat (first | refine blk_drewN ?_ _ | refine blk_drew ?_ | refine blk_alloc ?_ _)); exact BK138.out⟩, ⟨by repeat (first | (with_reducible first | exact HB.out | apply below_alloc | apply pw_below_drewN | apply below_drew1 | refine below_set ?_ GE138.out) | exact HB.out)⟩⟩
            ·rw [if_neg c27] at H
             exact absurd H (by simp)
           ·rw [if_neg c26] at H
            have c26b0 : decide (18 < x2_4) = false := decide_eq_false c26
            clear c26
            by_cases c28 : x2_4 < (-18)
            ·rw [if_pos c28] at H
             have c28b0 : decide (x2_4 < (-18)) = true := decide_eq_true c28
             clear c28
             simp only [Option.some.injEq, Prod.mk.injEq] at H
             obtain ⟨rfl, rfl, rfl, rfl⟩ := H
             have hcz29_0 : wr.cell? ⟨gb138, 0, none⟩ = some (.bool false) := (blk_cell BK138.out 0).trans rfl
             have hcz29_1 : wr.cell? ⟨gb138, 1, none⟩ = some (.int .u64 0) := (blk_cell BK138.out 1).trans rfl
             have hcz29_2 : wr.cell? ⟨gb138, 2, none⟩ = some (.int .i64 0) := (blk_cell BK138.out 2).trans rfl
             have hfz29_0 := blk_frozen BK138.out 0
             have hfz29_1 := blk_frozen BK138.out 1
             have hfz29_2 := blk_frozen BK138.out 2
             go_wp2
             refine bodyPost_ret (results_ct rfl _ _ gb138 40 #[.bool false, .int .u64 0, .int .i64 0] (0, 0) _ rfl (by (with_reducible repeat (first | refine blk_drewN ?_ _ | refine blk_drew ?_ | refine blk_alloc ?_ _)); refine blk_put (cs := #[.bool false, .int .u64 0, .int .i64 0]) ?_ 2 _ rfl; (with_reducible repeat (first | refine blk_drewN ?_ _ | refine blk_drew ?_ | refine blk_alloc ?_ _)); refine blk_put (cs := #[.bool false, .int .u64 0, .int .i64 0]) ?_ 1 _ rfl; (with_reducible repeat (first | refine blk_drewN ?_ _ | refine blk_drew ?_ | refine blk_alloc ?_ _)); refine blk_put (cs := #[.bool false, .int .u64 0, .int .i64 0]) ?_ 0 _ rfl; (with_reducible repeat (first | refine blk_drewN ?_ _ | refine blk_drew ?_ | refine blk_alloc ?_ _)); exact BK138.out) Try.underlying40 rfl (by kernel_rfl)) rfl ?_
             exact ⟨by first | rfl | (simp [errW_none, errW_some] <;> rfl) | (simp [*, errW_none, errW_some] <;> rfl), by repeat (first | (with_reducible first | exact HB.out | apply below_alloc | apply pw_below_drewN | apply below_drew1 | refine below_set ?_ GE138.out) | exact HB.out)⟩
            ·rw [if_neg c28] at H
             have c28b0 : decide (x2_4 < (-18)) = false := decide_eq_false c28
             clear c28
             replace H := Option.bind_eq_some_iff.mp H
             obtain ⟨t139, A300, H⟩ := H
             replace H : (if t139 = true then ((forebayref03_Value.f k4 x1_4).bind fun t140 => (some (a0, t140, x2_4, true))) else (some (false, 0, 0, false))) = some (r1, r2, r3, r4) := H
             have A30 := Aside0.mk A300
             clear A300
             by_cases c31 : t139 = true
             ·subst c31
              have H1 : ((forebayref03_Value.f k4 x1_4).bind fun t140 => (some (a0, t140, x2_4, true))) = some (r1, r2, r3, r4) := by rw [if_pos rfl] at H; exact H
              clear H
              have H := H1
              clear H1
              replace H := Option.bind_eq_some_iff.mp H
              obtain ⟨t140, A320, H⟩ := H
              replace H : (some (a0, t140, x2_4, true)) = some (r1, r2, r3, r4) := H
              have A32 := Aside0.mk A320
              clear A320
              simp only [Option.some.injEq, Prod.mk.injEq] at H
              obtain ⟨rfl, rfl, rfl, rfl⟩ := H
              go_wp2_with (first | (go_at_call 88; (with_reducible refine (forebayref03_Fits.calls x1_4 true _ A30.out).mono ?_); rintro e w' ⟨rfl, ⟨nd, rfl⟩⟩; (try (rw [drewN_self wr]; generalize hq_ : World.drewN wr _ = wr; have n0_ : Aside0 (wr.heap[gb138]? = some (.cells #[.bool false, .int .u64 0, .int .i64 0] 40 (0, 0))) := ⟨by rw [← hq_]; exact (by (with_reducible repeat (first | refine blk_drewN ?_ _ | refine blk_drew ?_ | refine blk_alloc ?_ _)); exact BK138.out)⟩; have n1_ : Aside0 (Below w.heap.size w wr) := ⟨by rw [← hq_]; exact (by repeat (first | (with_reducible first | exact HB.out | apply below_alloc | apply pw_below_drewN | apply below_drew1 | refine below_set ?_ GE138.out) | exact HB.out))⟩; clear BK138 HB hq_; have BK138 := n0_; have HB := n1_; clear n0_ n1_))) | ((with_reducible refine gate_callee (f := 89) rfl ?_); refine goesL_ (some 61) rfl rfl Try.func89 (by kernel_rfl) rfl #[.string x1_4] rfl (by (try simp only [List.map_toArray, List.map_cons, List.map_nil]); first | done | rfl | (simp only [List.length_drop, List.length_take]; rfl)) ?_; (with_reducible refine (forebayref03_Value.calls k4 x1_4 t140 _ A32.out).mono ?_); rintro e w' ⟨rfl, ⟨nd, rfl⟩⟩; refine ⟨_, rfl, ?_⟩; (try (rw [drewN_self wr]; generalize hq_ : World.drewN wr _ = wr; have n0_ : Aside0 (wr.heap[gb138]? = some (.cells #[.bool false, .int .u64 0, .int .i64 0] 40 (0, 0))) := ⟨by rw [← hq_]; exact (by (with_reducible repeat (first | refine blk_drewN ?_ _ | refine blk_drew ?_ | refine blk_alloc ?_ _)); exact BK138.out)⟩; have n1_ : Aside0 (Below w.heap.size w wr) := ⟨by rw [← hq_]; exact (by repeat (first | (with_reducible first | exact HB.out | apply below_alloc | apply pw_below_drewN | apply below_drew1 | refine below_set ?_ GE138.out) | exact HB.out))⟩; clear BK138 HB hq_; have BK138 := n0_; have HB := n1_; clear n0_ n1_)); have hcz33_0 : wr.cell? ⟨gb138, 0, none⟩ = some (.bool false) := (blk_cell BK138.out 0).trans rfl; have hcz33_1 : wr.cell? ⟨gb138, 1, none⟩ = some (.int .u64 0) := (blk_cell BK138.out 1).trans rfl; have hcz33_2 : wr.cell? ⟨gb138, 2, none⟩ = some (.int .i64 0) := (blk_cell BK138.out 2).trans rfl; have hfz33_0 := blk_frozen BK138.out 0; have hfz33_1 := blk_frozen BK138.out 1; have hfz33_2 := blk_frozen BK138.out 2))
              refine bodyPost_ret (results_ct rfl _ _ gb138 40 #[.bool a0, .int .u64 t140, .int .i64 x2_4] (0, 0) _ rfl (by (with_reducible repeat (first | refine blk_drewN ?_ _ | refine blk_drew ?_ | refine blk_alloc ?_ _)); refine blk_put (cs := #[.bool a0, .int .u64 t140, .int .i64 0]) ?_ 2 _ rfl; (with_reducible repeat (first | refine blk_drewN ?_ _ | refine blk_drew ?_ | refine blk_alloc ?_ _)); refine blk_put (cs := #[.bool a0, .int .u64 0, .int .i64 0]) ?_ 1 _ rfl; (with_reducible repeat (first | refine blk_drewN ?_ _ | refine blk_drew ?_ | refine blk_alloc ?_ _)); refine blk_put (cs := #[.bool false, .int .u64 0, .int .i64 0]) ?_ 0 _ rfl; (with_reducible repeat (first | refine blk_drewN ?_ _ | refine blk_drew ?_ | refine blk_alloc ?_ _)); exact BK138.out) Try.underlying40 rfl (by kernel_rfl)) rfl ?_
              exact ⟨by first | rfl | (simp [errW_none, errW_some] <;> rfl) | (simp [*, errW_none, errW_some] <;> rfl), by repeat (first | (with_reducible first | exact HB.out | apply below_alloc | apply pw_below_drewN | apply below_drew1 | refine below_set ?_ GE138.out) | exact HB.out)⟩
             ·replace c31 := Bool.eq_false_iff.mpr c31
              subst c31
              have H1 : (some (false, 0, 0, false)) = some (r1, r2, r3, r4) := by rw [if_neg (show ¬ (false = true) by decide)] at H; exact H
              clear H
              have H := H1
              clear H1
              simp only [Option.some.injEq, Prod.mk.injEq] at H
              obtain ⟨rfl, rfl, rfl, rfl⟩ := H
              go_wp2_with (first | (go_at_call 88; (with_reducible refine (forebayref03_Fits.calls x1_4 false _ A30.out).mono ?_); rintro e w' ⟨rfl, ⟨nd, rfl⟩⟩; (try (rw [drewN_self wr]; generalize hq_ : World.drewN wr _ = wr; have n0_ : Aside0 (wr.heap[gb138]? = some (.cells #[.bool false, .int .u64 0, .int .i64 0] 40 (0, 0))) := ⟨by rw [← hq_]; exact (by (with_reducible repeat (first | refine blk_drewN ?_ _ | refine blk_drew ?_ | refine blk_alloc ?_ _)); exact BK138.out)⟩; have n1_ : Aside0 (Below w.heap.size w wr) := ⟨by rw [← hq_]; exact (by repeat (first | (with_reducible first | exact HB.out | apply below_alloc | apply pw_below_drewN | apply below_drew1 | refine below_set ?_ GE138.out) | exact HB.out))⟩; clear BK138 HB hq_; have BK138 := n0_; have HB := n1_; clear n0_ n1_)); have hcz34_0 : wr.cell? ⟨gb138, 0, none⟩ = some (.bool false) := (blk_cell BK138.out 0).trans rfl; have hcz34_1 : wr.cell? ⟨gb138, 1, none⟩ = some (.int .u64 0) := (blk_cell BK138.out 1).trans rfl; have hcz34_2 : wr.cell? ⟨gb138, 2, none⟩ = some (.int .i64 0) := (blk_cell BK138.out 2).trans rfl; have hfz34_0 := blk_frozen BK138.out 0; have hfz34_1 := blk_frozen BK138.out 1; have hfz34_2 := blk_frozen BK138.out 2))
              refine bodyPost_ret (results_ct rfl _ _ gb138 40 #[.bool false, .int .u64 0, .int .i64 0] (0, 0) _ rfl (by (with_reducible repeat (first | refine blk_drewN ?_ _ | refine blk_drew ?_ | refine blk_alloc ?_ _)); refine blk_put (cs := #[.bool false, .int .u64 0, .int .i64 0]) ?_ 2 _ rfl; (with_reducible repeat (first | refine blk_drewN ?_ _ | refine blk_drew ?_ | refine blk_alloc ?_ _)); refine blk_put (cs := #[.bool false, .int .u64 0, .int .i64 0]) ?_ 1 _ rfl; (with_reducible repeat (first | refine blk_drewN ?_ _ | refine blk_drew ?_ | refine blk_alloc ?_ _)); refine blk_put (cs := #[.bool false, .int .u64 0, .int .i64 0]) ?_ 0 _ rfl; (with_reducible repeat (first | refine blk_drewN ?_ _ | refine blk_drew ?_ | refine blk_alloc ?_ _)); exact BK138.out) Try.underlying40 rfl (by kernel_rfl)) rfl ?_
              exact ⟨by first | rfl | (simp [errW_none, errW_some] <;> rfl) | (simp [*, errW_none, errW_some] <;> rfl), by repeat (first | (with_reducible first | exact HB.out | apply below_alloc | apply pw_below_drewN | apply below_drew1 | refine below_set ?_ GE138.out) | exact HB.out)⟩
/-! ### forebayref03_Digits: function 71 -/
def forebayref03_Digits.f : Nat → Int → Option (ByteArray)
 | 0, _ => none
 | k + 1, a0 => if a0 < 10 then (if 0 ≤ a0 then (if a0 ≤ (IntKind.u64.wrap (a0 + 1)) then (if (IntKind.u64.wrap (a0 + 1)) ≤ 10 then (some ((⟨#[48, 49, 50, 51, 52, 53, 54, 55, 56, 57]⟩ : ByteArray).extract (a0 : Int).toNat ((IntKind.u64.wrap (a0 + 1)) : Int).toNat)) else (none)) else (none)) else (none)) else ((forebayref03_Digits.f k (IntKind.u64.wrap (Int.tdiv a0 10))).bind fun t141 => (if 0 ≤ (Int.tmod a0 10) then (if (Int.tmod a0 10) ≤ (IntKind.u64.wrap ((Int.tmod a0 10) + 1)) then (if (IntKind.u64.wrap ((Int.tmod a0 10) + 1)) ≤ 10 then (if t141.size + ((⟨#[48, 49, 50, 51, 52, 53, 54, 55, 56, 57]⟩ : ByteArray).extract ((Int.tmod a0 10) : Int).toNat ((IntKind.u64.wrap ((Int.tmod a0 10) + 1)) : Int).toNat).size ≤ 9223372036854775807 then (some (t141 ++ ((⟨#[48, 49, 50, 51, 52, 53, 54, 55, 56, 57]⟩ : ByteArray).extract ((Int.tmod a0 10) : Int).toNat ((IntKind.u64.wrap ((Int.tmod a0 10) + 1)) : Int).toNat))) else (none)) else (none)) else (none)) else (none)))
def forebayref03_Digits.T3 : Bool × List (List Nat × List Nat) := (true, [([], []), ([0], [0]), ([1], [1]), ([], []), ([3], [3]), ([], []), ([5], [5]), ([6], [6]), ([4, 7], [4, 7]), ([2, 8], [2, 8]), ([9, 2, 0, 1, 2, 3, 4, 5, 6, 7, 8, 9], [9])])
def forebayref03_Digits.B3 : List Nat := [0, 1, 3, 0, 8, 0, 32, 96, 248, 511, 1023]
theorem forebayref03_Digits.tab3 : rtab .any (opsOf Try.f71 3) = forebayref03_Digits.T3 := by kernel_rfl
theorem forebayref03_Digits.bits3 : waitsOk forebayref03_Digits.T3.2 forebayref03_Digits.B3 = true := by kernel_rfl
set_option maxHeartbeats 8000000 in
set_option maxRecDepth 100000 in
theorem forebayref03_Digits.calls (k : Nat) : ∀ (a0 : Int) (r : ByteArray) (w : World) (h : forebayref03_Digits.f k a0 = some r),
  Calls Try.prog 71 #[.int .u64 a0] w fun e w' => e = .returned (.string r) ∧ Below w.heap.size w w' := by
 induction k using Nat.strongRecOn with
 | _ k ih =>
 intro a0 r w h
 cases k with
 | zero => exact absurd h (by simp [forebayref03_Digits.f])
 | succ k =>
 simp only [forebayref03_Digits.f] at h
 have HB := Aside0.mk (Below.refl w.heap.size w)
 have H : (if a0 < 10 then (if 0 ≤ a0 then (if a0 ≤ (IntKind.u64.wrap (a0 + 1)) then (if (IntKind.u64.wrap (a0 + 1)) ≤ 10 then (some ((⟨#[48, 49, 50, 51, 52, 53, 54, 55, 56, 57]⟩ : ByteArray).extract (a0 : Int).toNat ((IntKind.u64.wrap (a0 + 1)) : Int).toNat)) else (none)) else (none)) else (none)) else ((forebayref03_Digits.f k (IntKind.u64.wrap (Int.tdiv a0 10))).bind fun t141 => (if 0 ≤ (Int.tmod a0 10) then (if (Int.tmod a0 10) ≤ (IntKind.u64.wrap ((Int.tmod a0 10) + 1)) then (if (IntKind.u64.wrap ((Int.tmod a0 10) + 1)) ≤ 10 then (if t141.size + ((⟨#[48, 49, 50, 51, 52, 53, 54, 55, 56, 57]⟩ : ByteArray).extract ((Int.tmod a0 10) : Int).toNat ((IntKind.u64.wrap ((Int.tmod a0 10) + 1)) : Int).toNat).size ≤ 9223372036854775807 then (some (t141 ++ ((⟨#[48, 49, 50, 51, 52, 53, 54, 55, 56, 57]⟩ : ByteArray).extract ((Int.tmod a0 10) : Int).toNat ((IntKind.u64.wrap ((Int.tmod a0 10) + 1)) : Int).toNat))) else (none)) else (none)) else (none)) else (none)))) = some r := h
 clear h
 by_cases c2 : a0 < 10
 ·rw [if_pos c2] at H
  have c2b0 : decide (a0 < 10) = true := decide_eq_true c2
  clear c2
  by_cases c3 : 0 ≤ a0
  ·rw [if_pos c3] at H
   have c3b0 := eq_true c3
   have c3b1 : decide (0 ≤ a0) = true := decide_eq_true c3
   clear c3
   by_cases c4 : a0 ≤ (IntKind.u64.wrap (a0 + 1))
   ·rw [if_pos c4] at H
    have c4b0 := eq_true c4
    have c4b1 : decide (a0 ≤ (IntKind.u64.wrap (a0 + 1))) = true := decide_eq_true c4
    by_cases c5 : (IntKind.u64.wrap (a0 + 1)) ≤ 10
    ·rw [if_pos c5] at H
     have c5b0 := eq_true c5
     have c5b1 : decide ((IntKind.u64.wrap (a0 + 1)) ≤ 10) = true := decide_eq_true c5
     obtain rfl := Option.some.inj H
     go_enter Try.func71, Try.ntmps71
     go_wp2
     go_ret
     exact ⟨by first | rfl | (simp [errW_none, errW_some] <;> rfl) | (simp [*, errW_none, errW_some] <;> rfl), by repeat (first | (with_reducible first | exact HB.out | apply below_alloc | apply pw_below_drewN | apply below_drew1) | exact HB.out)⟩
    ·rw [if_neg c5] at H
     exact absurd H (by simp)
   ·rw [if_neg c4] at H
    exact absurd H (by simp)
  ·rw [if_neg c3] at H
   exact absurd H (by simp)
 ·rw [if_neg c2] at H
  have c2b0 : decide (a0 < 10) = false := decide_eq_false c2
  clear c2
  replace H := Option.bind_eq_some_iff.mp H
  obtain ⟨t141, A60, H⟩ := H
  replace H : (if 0 ≤ (Int.tmod a0 10) then (if (Int.tmod a0 10) ≤ (IntKind.u64.wrap ((Int.tmod a0 10) + 1)) then (if (IntKind.u64.wrap ((Int.tmod a0 10) + 1)) ≤ 10 then (if t141.size + ((⟨#[48, 49, 50, 51, 52, 53, 54, 55, 56, 57]⟩ : ByteArray).extract ((Int.tmod a0 10) : Int).toNat ((IntKind.u64.wrap ((Int.tmod a0 10) + 1)) : Int).toNat).size ≤ 9223372036854775807 then (some (t141 ++ ((⟨#[48, 49, 50, 51, 52, 53, 54, 55, 56, 57]⟩ : ByteArray).extract ((Int.tmod a0 10) : Int).toNat ((IntKind.u64.wrap ((Int.tmod a0 10) + 1)) : Int).toNat))) else (none)) else (none)) else (none)) else (none)) = some r := H
  have A6 := Aside0.mk A60
  clear A60
  obtain ⟨ji7, hji7⟩ : ∃ j_ : Int, (Int.tmod a0 10) = j_ := ⟨_, rfl⟩
  replace H : (if 0 ≤ (ji7) then (if (ji7) ≤ (IntKind.u64.wrap ((ji7) + 1)) then (if (IntKind.u64.wrap ((ji7) + 1)) ≤ 10 then (if t141.size + ((⟨#[48, 49, 50, 51, 52, 53, 54, 55, 56, 57]⟩ : ByteArray).extract ((ji7) : Int).toNat ((IntKind.u64.wrap ((ji7) + 1)) : Int).toNat).size ≤ 9223372036854775807 then (some (t141 ++ ((⟨#[48, 49, 50, 51, 52, 53, 54, 55, 56, 57]⟩ : ByteArray).extract ((ji7) : Int).toNat ((IntKind.u64.wrap ((ji7) + 1)) : Int).toNat))) else (none)) else (none)) else (none)) else (none)) = some r := by first | (rw [hji7] at H; exact H) | (simp only [hji7] at H ⊢; exact H)
  (try rw [hji7] at A6)
  by_cases c8 : 0 ≤ (ji7)
  ·rw [if_pos c8] at H
   have c8b0 := eq_true c8
   have c8b1 : decide (0 ≤ (ji7)) = true := decide_eq_true c8
   clear c8
   by_cases c9 : (ji7) ≤ (IntKind.u64.wrap ((ji7) + 1))
   ·rw [if_pos c9] at H
    have c9b0 := eq_true c9
    have c9b1 : decide ((ji7) ≤ (IntKind.u64.wrap ((ji7) + 1))) = true := decide_eq_true c9
    by_cases c10 : (IntKind.u64.wrap ((ji7) + 1)) ≤ 10
    ·rw [if_pos c10] at H
     have c10b0 := eq_true c10
     have c10b1 : decide ((IntKind.u64.wrap ((ji7) + 1)) ≤ 10) = true := decide_eq_true c10
     by_cases c11 : t141.size + ((⟨#[48, 49, 50, 51, 52, 53, 54, 55, 56, 57]⟩ : ByteArray).extract ((ji7) : Int).toNat ((IntKind.u64.wrap ((ji7) + 1)) : Int).toNat).size ≤ 9223372036854775807
     ·rw [if_pos c11] at H
      have c11b0 := eq_true c11
      have c11b1 : decide (t141.size + ((⟨#[48, 49, 50, 51, 52, 53, 54, 55, 56, 57]⟩ : ByteArray).extract ((ji7) : Int).toNat ((IntKind.u64.wrap ((ji7) + 1)) : Int).toNat).size ≤ 9223372036854775807) = true := decide_eq_true c11
      try have c11b2 : (9223372036854775807 < t141.size + ((⟨#[48, 49, 50, 51, 52, 53, 54, 55, 56, 57]⟩ : ByteArray).extract ((ji7) : Int).toNat ((IntKind.u64.wrap ((ji7) + 1)) : Int).toNat).size) = False := eq_false (Nat.not_lt.2 c11)
      obtain rfl := Option.some.inj H
      go_enter Try.func71, Try.ntmps71
      try go_wp2
      have n0_ := Aside0.mk (below_drew1 HB.out)
      clear HB
      have HB := n0_
      clear n0_
      refine start_ (n := 11) (S := fun w' => True) (ds := []) #[false, false, false, false, false, false, false, false, false, false, false] (by kernel_rfl) rfl rfl trivial (fun hHeld => ?_); refine with_tabW forebayref03_Digits.tab3 forebayref03_Digits.bits3 (fun HT_ HW_ => ?_)
      generalize w.drew = w12 at HB hHeld ⊢
      refine pure_ (i := 0) (N := some 9) (v := ?_) (a' := ?_) #[true, false, false, false, false, false, false, false, false, false, false] rfl rfl (any_of HT_.out (by kernel_rfl)) (fun _ _ _ h => h) (Or.inl ⟨by rfl, ?_⟩) ?_ ?_
      rotate_left
      ·intro w'
       go_simp
       with_reducible rfl
      rotate_left
      ·simp only [Act.put, List.setIfInBounds_toArray, List.set_cons_zero, List.set_cons_succ, i64_w, i32_w]
       rfl
      refine pure_ (i := 1) (N := some 10) (v := ?_) (a' := ?_) #[true, true, false, false, false, false, false, false, false, false, false] rfl rfl (any_of HT_.out (by kernel_rfl)) (fun _ _ _ h => h) (Or.inl ⟨by rfl, ?_⟩) ?_ ?_
      rotate_left
      ·intro w'
       go_simp
       with_reducible rfl
      rotate_left
      ·simp only [Act.put, List.setIfInBounds_toArray, List.set_cons_zero, List.set_cons_succ, i64_w, i32_w]
       rfl
      refine pure_ (i := 3) (N := some 12) (v := ?_) (a' := ?_) #[true, true, false, true, false, false, false, false, false, false, false] rfl rfl (any_of HT_.out (by kernel_rfl)) (fun _ _ _ h => h) (Or.inl ⟨by rfl, ?_⟩) ?_ ?_
      rotate_left
      ·intro w'
       go_simp
       with_reducible rfl
      rotate_left
      ·simp only [Act.put, List.setIfInBounds_toArray, List.set_cons_zero, List.set_cons_succ, i64_w, i32_w]
       rfl
      refine pure_ (i := 4) (N := some 13) (v := ?_) (a' := ?_) #[true, true, false, true, true, false, false, false, false, false, false] rfl rfl (any_of HT_.out (by kernel_rfl)) (fun _ _ _ h => h) (Or.inl ⟨by rfl, ?_⟩) ?_ ?_
      rotate_left
      ·intro w'
       go_simp
       with_reducible rfl
      rotate_left
      ·simp only [Act.put, List.setIfInBounds_toArray, List.set_cons_zero, List.set_cons_succ, i64_w, i32_w]
       rfl
      refine pure_ (i := 5) (N := some 14) (v := ?_) (a' := ?_) #[true, true, false, true, true, true, false, false, false, false, false] rfl rfl (any_of HT_.out (by kernel_rfl)) (fun _ _ _ h => h) (Or.inl ⟨by rfl, ?_⟩) ?_ ?_
      rotate_left
      ·intro w'
       go_simp
       with_reducible rfl
      rotate_left
      ·simp only [Act.put, List.setIfInBounds_toArray, List.set_cons_zero, List.set_cons_succ, i64_w, i32_w]
       rfl
      refine pure_ (i := 6) (N := some 15) (v := ?_) (a' := ?_) #[true, true, false, true, true, true, true, false, false, false, false] rfl rfl (any_of HT_.out (by kernel_rfl)) (fun _ _ _ h => h) (Or.inl ⟨by rfl, ?_⟩) ?_ ?_
      rotate_left
      ·intro w'
       go_simp
       with_reducible rfl
      rotate_left
      ·simp only [Act.put, List.setIfInBounds_toArray, List.set_cons_zero, List.set_cons_succ, i64_w, i32_w]
       rfl
      refine pure_ (i := 7) (N := some 16) (v := ?_) (a' := ?_) #[true, true, false, true, true, true, true, true, false, false, false] rfl rfl (any_of HT_.out (by kernel_rfl)) (fun _ _ _ h => h) (Or.inl ⟨by rfl, ?_⟩) ?_ ?_
      rotate_left
      ·intro w'
       go_simp
       with_reducible rfl
      rotate_left
      ·simp only [Act.put, List.setIfInBounds_toArray, List.set_cons_zero, List.set_cons_succ, i64_w, i32_w]
       rfl
      refine pure_ (i := 8) (N := some 17) (v := ?_) (a' := ?_) #[true, true, false, true, true, true, true, true, true, false, false] rfl rfl (any_of HT_.out (by kernel_rfl)) (fun _ _ _ h => h) (Or.inl ⟨by rfl, ?_⟩) ?_ ?_
      rotate_left
      ·intro w'
       go_simp
       with_reducible rfl
      rotate_left
      ·simp only [Act.put, List.setIfInBounds_toArray, List.set_cons_zero, List.set_cons_succ, i64_w, i32_w]
       rfl
      refine one_ (i := 2) (N := some 11) #[true, true, true, true, true, true, true, true, true, false, false] rfl rfl (one_of HT_.out (by kernel_rfl)) (by decide) (fun K hK => ?_)
      refine goes_ Try.func71 (by kernel_rfl) rfl #[.int .u64 (IntKind.u64.wrap (Int.tdiv a0 10))] (by rfl) rfl rfl (by (try simp only [List.map_toArray, List.map_cons, List.map_nil]); first | done | rfl | (simp only [List.length_drop, List.length_take]; rfl)) ?_
      with_reducible refine (ih k (by omega) (IntKind.u64.wrap (Int.tdiv a0 10)) t141 _ A6.out).mono ?_
      rintro e w13 ⟨rfl, hb⟩
      refine ⟨_, rfl, ?_⟩
      have n0_ := Aside0.mk (below_step (by repeat (first | (with_reducible first | exact HB.out | apply below_alloc | apply pw_below_drewN | apply below_drew1) | exact HB.out)) hb)
      clear HB
      have HB := n0_
      clear n0_
      (try clear hb)
      (try clear hb2)
      (try clear hk)
      (try clear hi)
      refine hK.out _ _ trivial (fun hHeld => ?_)
      clear hK K
      refine norm_ (a' := ?_) ?_ ?_
      rotate_left
      ·show Act.put _ (some 11) _ = _
       simp only [Act.put, List.setIfInBounds_toArray, List.set_cons_zero, List.set_cons_succ, i64_w, i32_w]
       rfl
      refine pure_ (i := 9) (N := some 18) (v := ?_) (a' := ?_) #[true, true, true, true, true, true, true, true, true, true, false] rfl rfl (any_of HT_.out (by kernel_rfl)) (fun _ _ _ h => h) (Or.inl ⟨by rfl, ?_⟩) ?_ ?_
      rotate_left
      ·intro w'
       go_simp
       first | (with_reducible rfl) | (have hc := c11; simp only [ByteArray.size_extract] at hc; rw [show (⟨#[48, 49, 50, 51, 52, 53, 54, 55, 56, 57]⟩ : ByteArray).size = 10 from rfl, Nat.min_eq_left (Int.toNat_le.2 (of_eq_true c10b0))] at hc; exact if_neg (Nat.not_lt.2 hc))
      rotate_left
      ·simp only [Act.put, List.setIfInBounds_toArray, List.set_cons_zero, List.set_cons_succ, i64_w, i32_w]
       rfl
      refine pure_ (i := 10) (N := some 2) (v := ?_) (a' := ?_) #[true, true, true, true, true, true, true, true, true, true, true] rfl rfl (any_of HT_.out (by kernel_rfl)) (fun _ _ _ h => h) (Or.inl ⟨by rfl, ?_⟩) ?_ ?_
      rotate_left
      ·intro w'
       go_simp
       with_reducible rfl
      rotate_left
      ·simp only [Act.put, List.setIfInBounds_toArray, List.set_cons_zero, List.set_cons_succ, i64_w, i32_w]
       rfl
      refine done_ (done_of HT_.out (by kernel_rfl)) ?_
      try go_wp2
      go_ret
      exact ⟨by first | rfl | (simp [errW_none, errW_some] <;> rfl) | (simp only [← hji7]; first | rfl | (simp [errW_none, errW_some] <;> rfl)) | (simp [*, errW_none, errW_some] <;> rfl), by repeat (first | (with_reducible first | exact HB.out | apply below_alloc | apply pw_below_drewN | apply below_drew1) | exact HB.out)⟩
     ·rw [if_neg c11] at H
      exact absurd H (by simp)
    ·rw [if_neg c10] at H
     exact absurd H (by simp)
   ·rw [if_neg c9] at H
    exact absurd H (by simp)
  ·rw [if_neg c8] at H
   exact absurd H (by simp)
end Go.Proofs.Yteamldgngknmfaa.PE
