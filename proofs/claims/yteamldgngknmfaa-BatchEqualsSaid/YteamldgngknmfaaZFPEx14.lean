-- Printed by the kit's print.py over contracts of this session's own.
import Derived.Test.YteamldgngknmfaaZFInjN
import Derived.Test.YteamldgngknmfaaZFPEx0
import Derived.Test.YteamldgngknmfaaZFPEx4
import Derived.Test.YteamldgngknmfaaZFPEx8
import Derived.Test.YteamldgngknmfaaZFPEx10
namespace Go.Proofs.Yteamldgngknmfaa.PE
open Go.RowKit Go.Proofs.YteamldgngknmfaaW.PrintWords Go.Proofs.YteamldgngknmfaaW.PrintLast Go.Proofs.YteamldgngknmfaaW.PrintMore
attribute [local go_sem] max2_int min2_int max_two min_two max_three min_three max_four min_four   -- for this text's walks alone
set_option linter.unusedVariables false
set_option linter.unusedSimpArgs false
/-! ### forebaylaw08_Few: function 28 -/
mutual
def forebaylaw08_Few.l0 : Nat → List (S25) → Int → Option (Bool)
 | 0, _, _ => none
 | k + 1, x0, x3 => if x3 < (x0.length : Int) then (forebaylaw08_Few.j1 k x0 x3 (decide (x3 < 13))) else (forebaylaw08_Few.j1 k x0 x3 false)
def forebaylaw08_Few.j1 : Nat → List (S25) → Int → Bool → Option (Bool)
 | 0, _, _, _ => none
 | k + 1, x0, x3, x11 => if x11 = true then (if 0 ≤ x3 then (if x3 < (x0.length : Int) then ((forebaylaw07_Few.f k ((rd_T25 x0 x3).f0) ((rd_T25 x0 x3).f1) ((rd_T25 x0 x3).f2) ((rd_T25 x0 x3).f3) ((rd_T25 x0 x3).f4) ((rd_T25 x0 x3).f5)).bind fun t469 => (if t469 = true then (forebaylaw08_Few.l0 k x0 (wrap64 (x3 + 1))) else (some false))) else (none)) else (none)) else (some (decide ((x0.length : Int) ≤ 12)))
end
def forebaylaw08_Few.f (k : Nat) (l0 : List (S25)) : Option (Bool) := forebaylaw08_Few.l0 k l0 0
set_option maxHeartbeats 8000000 in
set_option maxRecDepth 100000 in
theorem forebaylaw08_Few.calls (k : Nat) (A0 : Option Addr) (c0 : Nat) (l0 : List (S25)) (r : Bool) (w : World) (hr0 : Kd.C k25 w A0 l0.length l0) (hc0 : l0.length ≤ c0) (h : forebaylaw08_Few.f k l0 = some r) :
  Calls Try.prog 28 #[.slice A0 l0.length c0] w fun e w' => e = .returned (.bool r) ∧ Below w.heap.size w w' := by
 have hu25 := Try.underlying25
 have HR0 := Aside0.mk hr0
 have HC0 := Aside0.mk hc0
 clear hr0 hc0
 have HB := Aside0.mk (Below.refl w.heap.size w)
 have H : (forebaylaw08_Few.l0 k l0 0) = some r := h
 clear h
 have H' := Aside0.mk H
 clear H
 go_enter Try.func28, Try.ntmps28
 go_wp2
 go_loopg [3] k (fun kq v3 w' => ∃ (x3_1 : Int), v3 = .int .i64 x3_1 ∧ Aside0 (forebaylaw08_Few.l0 kq l0 x3_1 = some r) ∧ Aside0 (kq ≤ k) ∧ Aside0 (Below w.heap.size w w'))
 case atStart => exact ⟨(0), (by first | rfl | (simp; done) | (simp [*]; done)), H', ⟨Nat.le_refl _⟩, ⟨by repeat (first | (with_reducible first | exact HB.out | apply below_alloc | apply pw_below_drewN | apply below_drew1) | exact HB.out)⟩⟩
 case round =>
  clear H'
  obtain ⟨x3_1, rfl, HA, HK1, HB⟩ := hrel
  cases gk with
  | zero => exact absurd HA.out (by simp [forebaylaw08_Few.l0])
  | succ k1 =>
   have H := HA.out
   clear HA
   simp only [forebaylaw08_Few.l0] at H
   have HC2 := Aside0.mk H
   clear H
   go_upto_region 2 with (fail)
   go_cut [11] (fun v11 wc => ∃ (kq : Nat) (x11_1 : Bool), v11 = .bool x11_1 ∧ Aside0 (forebaylaw08_Few.j1 kq l0 x3_1 x11_1 = some r) ∧ Aside0 (kq ≤ k1) ∧ Aside0 (Below w.heap.size w wc))
   case first =>
    have H := HC2.out
    clear HC2
    by_cases c3 : x3_1 < (l0.length : Int)
    ·rw [if_pos c3] at H
     have c3b0 : decide (x3_1 < (l0.length : Int)) = true := decide_eq_true c3
     clear c3
     (first | rw [c3b0] | (simp only [i64_w, i32_w]; rw [c3b0]) | skip)
     have H' := Aside0.mk H
     clear H
     go_wp2
     go_meet
     case rel => exact ⟨_, (decide (x3_1 < 13)), (by first | rfl | (simp; done) | (simp [*]; done)), H', ⟨by have := HK1.out; first | omega | exact Nat.le_refl _⟩, ⟨by repeat (first | (with_reducible first | exact HB.out | apply below_alloc | apply pw_below_drewN | apply below_drew1) | exact HB.out)⟩⟩
    ·rw [if_neg c3] at H
     have c3b0 : decide (x3_1 < (l0.length : Int)) = false := decide_eq_false c3
     clear c3
     (first | rw [c3b0] | (simp only [i64_w, i32_w]; rw [c3b0]) | skip)
     have H' := Aside0.mk H
     clear H
     go_wp2
     go_meet
     case rel => exact ⟨_, (false), (by first | rfl | (simp; done) | (simp [*]; done)), H', ⟨by have := HK1.out; first | omega | exact Nat.le_refl _⟩, ⟨by repeat (first | (with_reducible first | exact HB.out | apply below_alloc | apply pw_below_drewN | apply below_drew1) | exact HB.out)⟩⟩
   case rest =>
    clear HC2
    try clear c2
    try clear p2
    try clear c3
    try clear c3b0
    obtain ⟨kq, x11_1, rfl, HA, HJ1, HB⟩ := hcut
    cases kq with
    | zero => exact absurd HA.out (by simp [forebaylaw08_Few.j1])
    | succ kj1 =>
     have H := HA.out
     clear HA
     simp only [forebaylaw08_Few.j1] at H
     by_cases c4 : x11_1 = true
     ·subst c4
      have H1 : (if 0 ≤ x3_1 then (if x3_1 < (l0.length : Int) then ((forebaylaw07_Few.f kj1 ((rd_T25 l0 x3_1).f0) ((rd_T25 l0 x3_1).f1) ((rd_T25 l0 x3_1).f2) ((rd_T25 l0 x3_1).f3) ((rd_T25 l0 x3_1).f4) ((rd_T25 l0 x3_1).f5)).bind fun t469 => (if t469 = true then (forebaylaw08_Few.l0 kj1 l0 (wrap64 (x3_1 + 1))) else (some false))) else (none)) else (none)) = some r := by rw [if_pos rfl] at H; exact H
      clear H
      have H := H1
      clear H1
      by_cases c5 : 0 ≤ x3_1
      ·rw [if_pos c5] at H
       have c5b0 : decide (0 ≤ x3_1) = true := decide_eq_true c5
       clear c5
       by_cases c6 : x3_1 < (l0.length : Int)
       ·rw [if_pos c6] at H
        have c6b0 : decide (x3_1 < (l0.length : Int)) = true := decide_eq_true c6
        clear c6
        replace H := Option.bind_eq_some_iff.mp H
        obtain ⟨t469, A70, H⟩ := H
        replace H : (if t469 = true then (forebaylaw08_Few.l0 kj1 l0 (wrap64 (x3_1 + 1))) else (some false)) = some r := H
        have A7 := Aside0.mk A70
        clear A70
        by_cases c8 : t469 = true
        ·subst c8
         have H1 : (forebaylaw08_Few.l0 kj1 l0 (wrap64 (x3_1 + 1))) = some r := by rw [if_pos rfl] at H; exact H
         clear H
         have H := H1
         clear H1
         have H' := Aside0.mk H
         clear H
         have p468 : 0 ≤ (x3_1 : Int) := of_decide_eq_true (by first | (with_reducible assumption) | assumption)
         have q468 : x3_1 < (l0.length : Int) := of_decide_eq_true (by first | (with_reducible assumption) | assumption)
         obtain ⟨ad468, A468_2, c468_2, A468_4, c468_4, e468, hx468_0, hx468_1, hx468_2, hx468_3, hx468_4, hx468_5, hl468_2, hi468_2, hl468_4, hi468_4⟩ := at_T25 HR0.out x3_1 p468 q468
         cases e468
         replace hx468_0 := (HB.out.cell (World.block_lt_of_cell? w _ hx468_0)).trans hx468_0
         replace hx468_1 := (HB.out.cell (World.block_lt_of_cell? w _ hx468_1)).trans hx468_1
         replace hx468_2 := (HB.out.cell (World.block_lt_of_cell? w _ hx468_2)).trans hx468_2
         replace hx468_3 := (HB.out.cell (World.block_lt_of_cell? w _ hx468_3)).trans hx468_3
         replace hx468_4 := (HB.out.cell (World.block_lt_of_cell? w _ hx468_4)).trans hx468_4
         replace hx468_5 := (HB.out.cell (World.block_lt_of_cell? w _ hx468_5)).trans hx468_5
         have HR468_2 := Aside0.mk hi468_2
         have HC468_2 := Aside0.mk hl468_2
         clear hi468_2 hl468_2
         have HR468_4 := Aside0.mk hi468_4
         have HC468_4 := Aside0.mk hl468_4
         clear hi468_4 hl468_4
         replace p468 := eq_true p468
         replace q468 := eq_true q468
         go_wp2_with (first | ((with_reducible refine gate_callee (f := 14) rfl ?_); refine goesL_ (some 18) rfl rfl Try.func14 (by kernel_rfl) rfl #[.agg #[.string ((rd_T25 l0 x3_1).f0), .int .i64 ((rd_T25 l0 x3_1).f1), .slice A468_2 ((rd_T25 l0 x3_1).f2).length c468_2, .int .i64 ((rd_T25 l0 x3_1).f3), .slice A468_4 ((rd_T25 l0 x3_1).f4).length c468_4, .int .i64 ((rd_T25 l0 x3_1).f5)]] rfl (by (try simp only [List.map_toArray, List.map_cons, List.map_nil]); first | done | rfl | (simp only [List.length_drop, List.length_take]; rfl)) ?_; (with_reducible refine (forebaylaw07_Few.calls kj1 ((rd_T25 l0 x3_1).f0) ((rd_T25 l0 x3_1).f1) _ _ ((rd_T25 l0 x3_1).f2) ((rd_T25 l0 x3_1).f3) _ _ ((rd_T25 l0 x3_1).f4) ((rd_T25 l0 x3_1).f5) true _ ?side1 ?side2 ?side3 ?side4 A7.out).mono ?_); (case side1 => repeat (first | exact (Kd.C_below HR468_2.out HB.out) | (with_reducible refine Kd.C_alloc ?_ _) | (with_reducible refine Kd.C_drewN ?_ _) | (with_reducible refine Kd.C_drew ?_))); (case side2 => exact HC468_2.out); (case side3 => repeat (first | exact (Kd.C_below HR468_4.out HB.out) | (with_reducible refine Kd.C_alloc ?_ _) | (with_reducible refine Kd.C_drewN ?_ _) | (with_reducible refine Kd.C_drew ?_))); (case side4 => exact HC468_4.out); rintro e w9 ⟨rfl, hb⟩; refine ⟨_, rfl, ?_⟩; have n0_ := Aside0.mk (below_step (by repeat (first | (with_reducible first | exact HB.out | apply below_alloc | apply pw_below_drewN | apply below_drew1) | exact HB.out)) hb); clear HB; have HB := n0_; clear n0_; (try clear hb); (try clear hb2); (try clear hk); (try clear hi)))
         go_roundg kj1
         case measure => have := HK1.out; have := HJ1.out; omega
         case rel => exact ⟨(wrap64 (x3_1 + 1)), (by first | rfl | (simp; done) | (simp [*]; done)), H', ⟨by have := HK1.out; have := HJ1.out; omega⟩, ⟨by repeat (first | (with_reducible first | exact HB.out | apply below_alloc | apply pw_below_drewN | apply below_drew1) | exact HB.out)⟩⟩
        ·replace c8 := Bool.eq_false_iff.mpr c8
         subst c8
         have H1 : (some false) = some r := by rw [if_neg (show ¬ (false = true) by decide)] at H; exact H
         clear H
         have H := H1
         clear H1
         obtain rfl := Option.some.inj H
         have p468 : 0 ≤ (x3_1 : Int) := of_decide_eq_true (by first | (with_reducible assumption) | assumption)
         have q468 : x3_1 < (l0.length : Int) := of_decide_eq_true (by first | (with_reducible assumption) | assumption)
         obtain ⟨ad468, A468_2, c468_2, A468_4, c468_4, e468, hx468_0, hx468_1, hx468_2, hx468_3, hx468_4, hx468_5, hl468_2, hi468_2, hl468_4, hi468_4⟩ := at_T25 HR0.out x3_1 p468 q468
         cases e468
         replace hx468_0 := (HB.out.cell (World.block_lt_of_cell? w _ hx468_0)).trans hx468_0
         replace hx468_1 := (HB.out.cell (World.block_lt_of_cell? w _ hx468_1)).trans hx468_1
         replace hx468_2 := (HB.out.cell (World.block_lt_of_cell? w _ hx468_2)).trans hx468_2
         replace hx468_3 := (HB.out.cell (World.block_lt_of_cell? w _ hx468_3)).trans hx468_3
         replace hx468_4 := (HB.out.cell (World.block_lt_of_cell? w _ hx468_4)).trans hx468_4
         replace hx468_5 := (HB.out.cell (World.block_lt_of_cell? w _ hx468_5)).trans hx468_5
         have HR468_2 := Aside0.mk hi468_2
         have HC468_2 := Aside0.mk hl468_2
         clear hi468_2 hl468_2
         have HR468_4 := Aside0.mk hi468_4
         have HC468_4 := Aside0.mk hl468_4
         clear hi468_4 hl468_4
         replace p468 := eq_true p468
         replace q468 := eq_true q468
         go_wp2_with (first | ((with_reducible refine gate_callee (f := 14) rfl ?_); refine goesL_ (some 18) rfl rfl Try.func14 (by kernel_rfl) rfl #[.agg #[.string ((rd_T25 l0 x3_1).f0), .int .i64 ((rd_T25 l0 x3_1).f1), .slice A468_2 ((rd_T25 l0 x3_1).f2).length c468_2, .int .i64 ((rd_T25 l0 x3_1).f3), .slice A468_4 ((rd_T25 l0 x3_1).f4).length c468_4, .int .i64 ((rd_T25 l0 x3_1).f5)]] rfl (by (try simp only [List.map_toArray, List.map_cons, List.map_nil]); first | done | rfl | (simp only [List.length_drop, List.length_take]; rfl)) ?_; (with_reducible refine (forebaylaw07_Few.calls kj1 ((rd_T25 l0 x3_1).f0) ((rd_T25 l0 x3_1).f1) _ _ ((rd_T25 l0 x3_1).f2) ((rd_T25 l0 x3_1).f3) _ _ ((rd_T25 l0 x3_1).f4) ((rd_T25 l0 x3_1).f5) false _ ?side1 ?side2 ?side3 ?side4 A7.out).mono ?_); (case side1 => repeat (first | exact (Kd.C_below HR468_2.out HB.out) | (with_reducible refine Kd.C_alloc ?_ _) | (with_reducible refine Kd.C_drewN ?_ _) | (with_reducible refine Kd.C_drew ?_))); (case side2 => exact HC468_2.out); (case side3 => repeat (first | exact (Kd.C_below HR468_4.out HB.out) | (with_reducible refine Kd.C_alloc ?_ _) | (with_reducible refine Kd.C_drewN ?_ _) | (with_reducible refine Kd.C_drew ?_))); (case side4 => exact HC468_4.out); rintro e w10 ⟨rfl, hb⟩; refine ⟨_, rfl, ?_⟩; have n0_ := Aside0.mk (below_step (by repeat (first | (with_reducible first | exact HB.out | apply below_alloc | apply pw_below_drewN | apply below_drew1) | exact HB.out)) hb); clear HB; have HB := n0_; clear n0_; (try clear hb); (try clear hb2); (try clear hk); (try clear hi)))
         go_ret
         exact ⟨by first | rfl | (simp [errW_none, errW_some] <;> rfl) | (simp [*, errW_none, errW_some] <;> rfl), by repeat (first | (with_reducible first | exact HB.out | apply below_alloc | apply pw_below_drewN | apply below_drew1) | exact HB.out)⟩
       ·rw [if_neg c6] at H
        exact absurd H (by simp)
      ·rw [if_neg c5] at H
       exact absurd H (by simp)
     ·replace c4 := Bool.eq_false_iff.mpr c4
      subst c4
      have H1 : (some (decide ((l0.length : Int) ≤ 12))) = some r := by rw [if_neg (show ¬ (false = true) by decide)] at H; exact H
      clear H
      have H := H1
      clear H1
      obtain rfl := Option.some.inj H
      go_wp2
      go_ret
      exact ⟨by first | rfl | (simp [errW_none, errW_some] <;> rfl) | (simp [*, errW_none, errW_some] <;> rfl), by repeat (first | (with_reducible first | exact HB.out | apply below_alloc | apply pw_below_drewN | apply below_drew1) | exact HB.out)⟩
/-! ### forebaylaw08_texts: function 36 -/
def forebaylaw08_texts.l0 : Nat → List ByteArray → List ByteArray → Int → Option (Bool)
 | 0, _, _, _ => none
 | k + 1, x0, x1, x5 => if x5 < (x0.length : Int) then (if 0 ≤ x5 then (if x5 < (x1.length : Int) then (if (rdOf ByteArray.empty x0 x5).toList = (rdOf ByteArray.empty x1 x5).toList then (forebaylaw08_texts.l0 k x0 x1 (wrap64 (x5 + 1))) else (some false)) else (none)) else (none)) else (some true)
def forebaylaw08_texts.f (k : Nat) (l0 : List ByteArray) (l1 : List ByteArray) : Option (Bool) := if (l0.length : Int) = (l1.length : Int) then (forebaylaw08_texts.l0 k l0 l1 0) else (some false)
set_option maxHeartbeats 8000000 in
set_option maxRecDepth 100000 in
theorem forebaylaw08_texts.calls (k : Nat) (A0 : Option Addr) (c0 : Nat) (l0 : List ByteArray) (A1 : Option Addr) (c1 : Nat) (l1 : List ByteArray) (r : Bool) (w : World) (hr0 : Kd.C Kd.string w A0 l0.length l0) (hc0 : l0.length ≤ c0) (hr1 : Kd.C Kd.string w A1 l1.length l1) (hc1 : l1.length ≤ c1) (h : forebaylaw08_texts.f k l0 l1 = some r) :
  Calls Try.prog 36 #[.slice A0 l0.length c0, .slice A1 l1.length c1] w fun e w' => e = .returned (.bool r) ∧ Drawn0 w w' := by
 have HR0 := Aside0.mk hr0
 have HC0 := Aside0.mk hc0
 clear hr0 hc0
 have HR1 := Aside0.mk hr1
 have HC1 := Aside0.mk hc1
 clear hr1 hc1
 have H : (if (l0.length : Int) = (l1.length : Int) then (forebaylaw08_texts.l0 k l0 l1 0) else (some false)) = some r := h
 clear h
 by_cases c3 : (l0.length : Int) = (l1.length : Int)
 ·rw [if_pos c3] at H
  have c3b0 : ((l0.length : Int) == (l1.length : Int)) = true := beq_iff_eq.mpr c3
  have c3b1 : ((l0.length : Int) != (l1.length : Int)) = false := bne_eq_false_iff_eq.mpr c3
  have c3b2 : (l0.length == l1.length) = true := by first | simpa using c3 | (simp at c3 ⊢; omega)
  clear c3
  have H' := Aside0.mk H
  clear H
  go_enter Try.func36, Try.ntmps36
  go_wp2
  repeat (go_quiet (fail); try go_wp2)
  go_loopg [5] k (fun kq v5 w' => ∃ (x5_1 : Int), v5 = .int .i64 x5_1 ∧ Aside0 (forebaylaw08_texts.l0 kq l0 l1 x5_1 = some r) ∧ Aside0 (kq ≤ k) ∧ Drawn0 w w')
  case atStart => exact ⟨(0), (by first | rfl | (simp; done) | (simp [*]; done)), H', ⟨Nat.le_refl _⟩, by repeat (first | exact Drawn0.refl _ | apply Drawn0.step)⟩
  case round =>
   clear H'
   try clear c1
   try clear p2
   try clear c3
   try clear c3b0
   try clear c3b1
   try clear c3b2
   obtain ⟨x5_1, rfl, HA, HK1, ⟨m1, rfl⟩⟩ := hrel
   cases gk with
   | zero => exact absurd HA.out (by simp [forebaylaw08_texts.l0])
   | succ k1 =>
    have H := HA.out
    clear HA
    simp only [forebaylaw08_texts.l0] at H
    by_cases c4 : x5_1 < (l0.length : Int)
    ·rw [if_pos c4] at H
     have c4b0 : decide (x5_1 < (l0.length : Int)) = true := decide_eq_true c4
     clear c4
     by_cases c5 : 0 ≤ x5_1
     ·rw [if_pos c5] at H
      have c5b0 : decide (0 ≤ x5_1) = true := decide_eq_true c5
      clear c5
      by_cases c6 : x5_1 < (l1.length : Int)
      ·rw [if_pos c6] at H
       have c6b0 : decide (x5_1 < (l1.length : Int)) = true := decide_eq_true c6
       clear c6
       by_cases c7 : (rdOf ByteArray.empty l0 x5_1).toList = (rdOf ByteArray.empty l1 x5_1).toList
       ·rw [if_pos c7] at H
        have c7b0 : ((rdOf ByteArray.empty l0 x5_1).toList == (rdOf ByteArray.empty l1 x5_1).toList) = true := beq_iff_eq.mpr c7
        have c7b1 : ((rdOf ByteArray.empty l0 x5_1).toList != (rdOf ByteArray.empty l1 x5_1).toList) = false := bne_eq_false_iff_eq.mpr c7
        clear c7
        have H' := Aside0.mk H
        clear H
        have p470 : 0 ≤ (x5_1 : Int) := of_decide_eq_true (by first | (with_reducible assumption) | assumption)
        have q470 : x5_1 < (l0.length : Int) := of_decide_eq_true (by first | (with_reducible assumption) | assumption)
        obtain ⟨ad470, e470, hx470_0⟩ := Kd.at_string HR0.out x5_1 p470 q470
        cases e470
        replace p470 := eq_true p470
        replace q470 := eq_true q470
        have p471 : 0 ≤ (x5_1 : Int) := of_decide_eq_true (by first | (with_reducible assumption) | assumption)
        have q471 : x5_1 < (l1.length : Int) := of_decide_eq_true (by first | (with_reducible assumption) | assumption)
        obtain ⟨ad471, e471, hx471_0⟩ := Kd.at_string HR1.out x5_1 p471 q471
        cases e471
        replace p471 := eq_true p471
        replace q471 := eq_true q471
        go_wp2
        repeat (go_quiet (fail); try go_wp2)
        go_roundg k1
        case measure => have := HK1.out; omega
        case rel => exact ⟨(wrap64 (x5_1 + 1)), (by first | rfl | (simp; done) | (simp [*]; done)), H', ⟨by have := HK1.out; omega⟩, by repeat (first | exact Drawn0.refl _ | apply Drawn0.step)⟩
       ·rw [if_neg c7] at H
        have c7b0 : ((rdOf ByteArray.empty l0 x5_1).toList == (rdOf ByteArray.empty l1 x5_1).toList) = false := beq_eq_false_iff_ne.mpr c7
        have c7b1 : ((rdOf ByteArray.empty l0 x5_1).toList != (rdOf ByteArray.empty l1 x5_1).toList) = true := bne_iff_ne.mpr c7
        obtain rfl := Option.some.inj H
        have p470 : 0 ≤ (x5_1 : Int) := of_decide_eq_true (by first | (with_reducible assumption) | assumption)
        have q470 : x5_1 < (l0.length : Int) := of_decide_eq_true (by first | (with_reducible assumption) | assumption)
        obtain ⟨ad470, e470, hx470_0⟩ := Kd.at_string HR0.out x5_1 p470 q470
        cases e470
        replace p470 := eq_true p470
        replace q470 := eq_true q470
        have p471 : 0 ≤ (x5_1 : Int) := of_decide_eq_true (by first | (with_reducible assumption) | assumption)
        have q471 : x5_1 < (l1.length : Int) := of_decide_eq_true (by first | (with_reducible assumption) | assumption)
        obtain ⟨ad471, e471, hx471_0⟩ := Kd.at_string HR1.out x5_1 p471 q471
        cases e471
        replace p471 := eq_true p471
        replace q471 := eq_true q471
        go_wp2
        repeat (go_quiet (fail); try go_wp2)
        go_ret
        exact ⟨by first | rfl | (simp; done) | (simp [*]; done), by repeat (first | exact Drawn0.refl _ | apply Drawn0.step)⟩
      ·rw [if_neg c6] at H
       exact absurd H (by simp)
     ·rw [if_neg c5] at H
      exact absurd H (by simp)
    ·rw [if_neg c4] at H
     have c4b0 : decide (x5_1 < (l0.length : Int)) = false := decide_eq_false c4
     clear c4
     obtain rfl := Option.some.inj H
     go_wp2
     repeat (go_quiet (fail); try go_wp2)
     go_ret
     exact ⟨by first | rfl | (simp; done) | (simp [*]; done), by repeat (first | exact Drawn0.refl _ | apply Drawn0.step)⟩
 ·rw [if_neg c3] at H
  have c3b0 : ((l0.length : Int) == (l1.length : Int)) = false := beq_eq_false_iff_ne.mpr c3
  have c3b1 : ((l0.length : Int) != (l1.length : Int)) = true := bne_iff_ne.mpr c3
  have c3b2 : (l0.length == l1.length) = false := by first | simpa using c3 | (simp at c3 ⊢; omega)
  obtain rfl := Option.some.inj H
  go_enter Try.func36, Try.ntmps36
  go_wp2
  repeat (go_quiet (fail); try go_wp2)
  go_ret
  exact ⟨by first | rfl | (simp; done) | (simp [*]; done), by repeat (first | exact Drawn0.refl _ | apply Drawn0.step)⟩
/-! ### forebaylaw08_awake: function 29 -/
def forebaylaw08_awake.f (k : Nat)  : Option (Bool) := (batch_Check.f (([(⟨(⟨#[97]⟩ : ByteArray), 1, (([(⟨false, 0, 0⟩ : S40)] : List (S40))), 1000000, ([] : List (S37)), 0⟩ : S25), (⟨(⟨#[97]⟩ : ByteArray), 1, ([] : List (S40)), 1000000, ([] : List (S37)), 0⟩ : S25)] : List (S25)))).bind fun bt478 => ((batch_Names.f (([(⟨(⟨#[98]⟩ : ByteArray), 0, ([] : List (S40)), 0, ([] : List (S37)), 0⟩ : S25), (⟨(⟨#[97]⟩ : ByteArray), 0, ([] : List (S40)), 0, ([] : List (S37)), 0⟩ : S25), (⟨(⟨#[98]⟩ : ByteArray), 0, ([] : List (S40)), 0, ([] : List (S37)), 0⟩ : S25)] : List (S25)))).bind fun t483 => ((forebaylaw08_texts.f k t483 (([(⟨#[98]⟩ : ByteArray), (⟨#[97]⟩ : ByteArray)] : List ByteArray))).bind fun t489 => (if t489 = true then (if bt478.1 = 1 then (some (bt478.2 == 17)) else (none)) else (none))))
set_option maxHeartbeats 8000000 in
set_option maxRecDepth 100000 in
theorem forebaylaw08_awake.calls (k : Nat)  (r : Bool) (w : World) (h : forebaylaw08_awake.f k  = some r) :
  Calls Try.prog 29 #[] w fun e w' => e = .returned (.bool r) ∧ Below w.heap.size w w' := by
 have hu40 := Try.underlying40
 have hu25 := Try.underlying25
 have HB := Aside0.mk (Below.refl w.heap.size w)
 have H : ((batch_Check.f (([(⟨(⟨#[97]⟩ : ByteArray), 1, (([(⟨false, 0, 0⟩ : S40)] : List (S40))), 1000000, ([] : List (S37)), 0⟩ : S25), (⟨(⟨#[97]⟩ : ByteArray), 1, ([] : List (S40)), 1000000, ([] : List (S37)), 0⟩ : S25)] : List (S25)))).bind fun bt478 => ((batch_Names.f (([(⟨(⟨#[98]⟩ : ByteArray), 0, ([] : List (S40)), 0, ([] : List (S37)), 0⟩ : S25), (⟨(⟨#[97]⟩ : ByteArray), 0, ([] : List (S40)), 0, ([] : List (S37)), 0⟩ : S25), (⟨(⟨#[98]⟩ : ByteArray), 0, ([] : List (S40)), 0, ([] : List (S37)), 0⟩ : S25)] : List (S25)))).bind fun t483 => ((forebaylaw08_texts.f k t483 (([(⟨#[98]⟩ : ByteArray), (⟨#[97]⟩ : ByteArray)] : List ByteArray))).bind fun t489 => (if t489 = true then (if bt478.1 = 1 then (some (bt478.2 == 17)) else (none)) else (none))))) = some r := h
 clear h
 obtain ⟨y472, hy472⟩ : ∃ y_ : List (S40), y_ = (([(⟨false, 0, 0⟩ : S40)] : List (S40))) := ⟨_, rfl⟩
 replace H : ((batch_Check.f (([(⟨(⟨#[97]⟩ : ByteArray), 1, y472, 1000000, ([] : List (S37)), 0⟩ : S25), (⟨(⟨#[97]⟩ : ByteArray), 1, ([] : List (S40)), 1000000, ([] : List (S37)), 0⟩ : S25)] : List (S25)))).bind fun bt478 => ((batch_Names.f (([(⟨(⟨#[98]⟩ : ByteArray), 0, ([] : List (S40)), 0, ([] : List (S37)), 0⟩ : S25), (⟨(⟨#[97]⟩ : ByteArray), 0, ([] : List (S40)), 0, ([] : List (S37)), 0⟩ : S25), (⟨(⟨#[98]⟩ : ByteArray), 0, ([] : List (S40)), 0, ([] : List (S37)), 0⟩ : S25)] : List (S25)))).bind fun t483 => ((forebaylaw08_texts.f k t483 (([(⟨#[98]⟩ : ByteArray), (⟨#[97]⟩ : ByteArray)] : List ByteArray))).bind fun t489 => (if t489 = true then (if bt478.1 = 1 then (some (bt478.2 == 17)) else (none)) else (none))))) = some r := by first | (rw [hy472]; with_reducible exact H) | (have H2_ := (Option.bind_some _ _).symm.trans H; rw [hy472]; with_reducible exact H2_) | (have H2_ := (Option.bind_some _ _).symm.trans H; with_reducible exact H2_) | with_reducible exact H | (rw [hy472]; exact H) | exact H
 have Ny472 := Aside0.mk hy472
 clear hy472
 obtain ⟨y475, hy475⟩ : ∃ y_ : List (S25), y_ = (([(⟨(⟨#[97]⟩ : ByteArray), 1, y472, 1000000, ([] : List (S37)), 0⟩ : S25), (⟨(⟨#[97]⟩ : ByteArray), 1, ([] : List (S40)), 1000000, ([] : List (S37)), 0⟩ : S25)] : List (S25))) := ⟨_, rfl⟩
 replace H : ((batch_Check.f y475).bind fun bt478 => ((batch_Names.f (([(⟨(⟨#[98]⟩ : ByteArray), 0, ([] : List (S40)), 0, ([] : List (S37)), 0⟩ : S25), (⟨(⟨#[97]⟩ : ByteArray), 0, ([] : List (S40)), 0, ([] : List (S37)), 0⟩ : S25), (⟨(⟨#[98]⟩ : ByteArray), 0, ([] : List (S40)), 0, ([] : List (S37)), 0⟩ : S25)] : List (S25)))).bind fun t483 => ((forebaylaw08_texts.f k t483 (([(⟨#[98]⟩ : ByteArray), (⟨#[97]⟩ : ByteArray)] : List ByteArray))).bind fun t489 => (if t489 = true then (if bt478.1 = 1 then (some (bt478.2 == 17)) else (none)) else (none))))) = some r := by first | (rw [hy475]; with_reducible exact H) | (have H2_ := (Option.bind_some _ _).symm.trans H; rw [hy475]; with_reducible exact H2_) | (have H2_ := (Option.bind_some _ _).symm.trans H; with_reducible exact H2_) | with_reducible exact H | (rw [hy475]; exact H) | exact H
 have Ny475 := Aside0.mk hy475
 clear hy475
 replace H := Option.bind_eq_some_iff.mp H
 obtain ⟨⟨t478, t479⟩, A10, H⟩ := H
 replace H : ((batch_Names.f (([(⟨(⟨#[98]⟩ : ByteArray), 0, ([] : List (S40)), 0, ([] : List (S37)), 0⟩ : S25), (⟨(⟨#[97]⟩ : ByteArray), 0, ([] : List (S40)), 0, ([] : List (S37)), 0⟩ : S25), (⟨(⟨#[98]⟩ : ByteArray), 0, ([] : List (S40)), 0, ([] : List (S37)), 0⟩ : S25)] : List (S25)))).bind fun t483 => ((forebaylaw08_texts.f k t483 (([(⟨#[98]⟩ : ByteArray), (⟨#[97]⟩ : ByteArray)] : List ByteArray))).bind fun t489 => (if t489 = true then (if t478 = 1 then (some (t479 == 17)) else (none)) else (none)))) = some r := H
 have A1 := Aside0.mk A10
 clear A10
 obtain ⟨y480, hy480⟩ : ∃ y_ : List (S25), y_ = (([(⟨(⟨#[98]⟩ : ByteArray), 0, ([] : List (S40)), 0, ([] : List (S37)), 0⟩ : S25), (⟨(⟨#[97]⟩ : ByteArray), 0, ([] : List (S40)), 0, ([] : List (S37)), 0⟩ : S25), (⟨(⟨#[98]⟩ : ByteArray), 0, ([] : List (S40)), 0, ([] : List (S37)), 0⟩ : S25)] : List (S25))) := ⟨_, rfl⟩
 replace H : ((batch_Names.f y480).bind fun t483 => ((forebaylaw08_texts.f k t483 (([(⟨#[98]⟩ : ByteArray), (⟨#[97]⟩ : ByteArray)] : List ByteArray))).bind fun t489 => (if t489 = true then (if t478 = 1 then (some (t479 == 17)) else (none)) else (none)))) = some r := by first | (rw [hy480]; with_reducible exact H) | (have H2_ := (Option.bind_some _ _).symm.trans H; rw [hy480]; with_reducible exact H2_) | (have H2_ := (Option.bind_some _ _).symm.trans H; with_reducible exact H2_) | with_reducible exact H | (rw [hy480]; exact H) | exact H
 have Ny480 := Aside0.mk hy480
 clear hy480
 replace H := Option.bind_eq_some_iff.mp H
 obtain ⟨t483, A20, H⟩ := H
 replace H : ((forebaylaw08_texts.f k t483 (([(⟨#[98]⟩ : ByteArray), (⟨#[97]⟩ : ByteArray)] : List ByteArray))).bind fun t489 => (if t489 = true then (if t478 = 1 then (some (t479 == 17)) else (none)) else (none))) = some r := H
 have A2 := Aside0.mk A20
 clear A20
 obtain ⟨y486, hy486⟩ : ∃ y_ : List ByteArray, y_ = (([(⟨#[98]⟩ : ByteArray), (⟨#[97]⟩ : ByteArray)] : List ByteArray)) := ⟨_, rfl⟩
 replace H : ((forebaylaw08_texts.f k t483 y486).bind fun t489 => (if t489 = true then (if t478 = 1 then (some (t479 == 17)) else (none)) else (none))) = some r := by first | (rw [hy486]; with_reducible exact H) | (have H2_ := (Option.bind_some _ _).symm.trans H; rw [hy486]; with_reducible exact H2_) | (have H2_ := (Option.bind_some _ _).symm.trans H; with_reducible exact H2_) | with_reducible exact H | (rw [hy486]; exact H) | exact H
 have Ny486 := Aside0.mk hy486
 clear hy486
 replace H := Option.bind_eq_some_iff.mp H
 obtain ⟨t489, A30, H⟩ := H
 replace H : (if t489 = true then (if t478 = 1 then (some (t479 == 17)) else (none)) else (none)) = some r := H
 have A3 := Aside0.mk A30
 clear A30
 by_cases c4 : t489 = true
 ·subst c4
  have H1 : (if t478 = 1 then (some (t479 == 17)) else (none)) = some r := by rw [if_pos rfl] at H; exact H
  clear H
  have H := H1
  clear H1
  by_cases c5 : t478 = 1
  ·rw [if_pos c5] at H
   have c5b0 : (t478 == 1) = true := beq_iff_eq.mpr c5
   have c5b1 : (t478 != 1) = false := bne_eq_false_iff_eq.mpr c5
   clear c5
   obtain rfl := Option.some.inj H
   go_enter Try.func29, Try.ntmps29
   go_wp2_with (first | ((with_reducible refine gate_dst (N := 5) rfl ?_); refine Kd.R_lit k40 _ 40 ?hg (N := 5) ?hd (xs := ([(⟨false, 0, 0⟩ : S40)] : List (S40))) (inner := [.bool false, .int .u64 0, .int .i64 0]) (ok := fun _ => True) (okp := fun _ => True) ?hr ?hp (fun _ hk => hk) trivial (Below.refl _ _) (Nat.le_refl _) (by simp) ?_; (case hd => rfl); (case hg => rfl); (case hr => first | (go_simp; done) | (go_simp; rfl)); (case hp => exact (Reps.c3 (show Kd.M k40 _ _ _ (⟨false, 0, 0⟩ : S40) [.bool false, .int .u64 0, .int .i64 0] from (k40_mkM _ _ _ (⟨false, 0, 0⟩ : S40) )) (Reps.none _ _))); intro v473 w6 ho7 hb hg_ hnew_; clear hg_ hnew_; (first | rw [← Ny472.out] at ho7 | (simp only [Int.reduceToNat] at ho7; rw [← Ny472.out] at ho7)); have n0_ := Aside0.mk (Kd.R_lower ho7 (below_size (by repeat (first | (with_reducible first | exact HB.out | apply below_alloc | apply pw_below_drewN | apply below_drew1) | exact HB.out)))); have n1_ := Aside0.mk (below_step (by repeat (first | (with_reducible first | exact HB.out | apply below_alloc | apply pw_below_drewN | apply below_drew1) | exact HB.out)) hb); clear HB; have HO474 := n0_; have HB := n1_; clear n0_ n1_; clear hb ho7; obtain ⟨Ao8, co8, eo8⟩ := Kd.R_slice HO474.out; subst eo8) | ((with_reducible refine gate_dst (N := 8) rfl ?_); refine Kd.N_lit k25 _ 25 ?hg (N' := 8) ?hd (xs := ([(⟨(⟨#[97]⟩ : ByteArray), 1, y472, 1000000, ([] : List (S37)), 0⟩ : S25), (⟨(⟨#[97]⟩ : ByteArray), 1, ([] : List (S40)), 1000000, ([] : List (S37)), 0⟩ : S25)] : List (S25))) (inner := [.string (⟨#[97]⟩ : ByteArray), .int .i64 1, .slice Ao8 y472.length co8, .int .i64 1000000, .slice none 0 0, .int .i64 0, .string (⟨#[97]⟩ : ByteArray), .int .i64 1, .slice none 0 0, .int .i64 1000000, .slice none 0 0, .int .i64 0]) (ok := (fun _ => True)) (okp := (fun _ => True)) ?hr ?hp (fun _ hk => hk) ((show ∀ k_, w6.heap.size ≤ k_ → (fun _ => True) k_ from fun k_ hk => trivial) _ (Nat.le_refl _)) (Below.refl _ _) (Nat.le_refl _) (by simp) ?_; (case hd => rfl); (case hg => rfl); (case hr => first | (go_simp; done) | (go_simp; rfl)); (case hp => exact (Reps.c6 (show Kd.FK k25 _ _ (⟨(⟨#[97]⟩ : ByteArray), 1, y472, 1000000, ([] : List (S37)), 0⟩ : S25) [.string (⟨#[97]⟩ : ByteArray), .int .i64 1, .slice Ao8 y472.length co8, .int .i64 1000000, .slice none 0 0, .int .i64 0] from (k25_mkF _ _ (⟨(⟨#[97]⟩ : ByteArray), 1, y472, 1000000, ([] : List (S37)), 0⟩ : S25) (Kd.R_reads' (Kd.R_mono (ok' := (fun _ => True)) (HO474.out) (fun k_ hk => trivial))).2.1 (Kd.R_F (Kd.R_mono (ok' := (fun _ => True)) (HO474.out) (fun k_ hk => trivial))) (Nat.le_refl _) (Kd.F_nil _ _ _))) (Reps.c6 (show Kd.FK k25 _ _ (⟨(⟨#[97]⟩ : ByteArray), 1, ([] : List (S40)), 1000000, ([] : List (S37)), 0⟩ : S25) [.string (⟨#[97]⟩ : ByteArray), .int .i64 1, .slice none 0 0, .int .i64 1000000, .slice none 0 0, .int .i64 0] from (k25_mkF _ _ (⟨(⟨#[97]⟩ : ByteArray), 1, ([] : List (S40)), 1000000, ([] : List (S37)), 0⟩ : S25) (Nat.le_refl _) (Kd.F_nil _ _ _) (Nat.le_refl _) (Kd.F_nil _ _ _))) (Reps.none _ _)))); intro v476 w9 ho10 hb hg_ hnew_; clear hg_ hnew_; (first | rw [← Ny475.out] at ho10 | (simp only [Int.reduceToNat] at ho10; rw [← Ny475.out] at ho10)); have n0_ := Aside0.mk (Kd.N_lower ho10 (below_size (by repeat (first | (with_reducible first | exact HB.out | apply below_alloc | apply pw_below_drewN | apply below_drew1) | exact HB.out)))); have n1_ := Aside0.mk (below_step (by repeat (first | (with_reducible first | exact HB.out | apply below_alloc | apply pw_below_drewN | apply below_drew1) | exact HB.out)) hb); clear HB; clear HO474; have HO477 := n0_; have HB := n1_; clear n0_ n1_; clear hb ho10; obtain ⟨Ao11, co11, eo11⟩ := Kd.N_slice HO477.out; subst eo11) | ((with_reducible refine gate_callee (f := 30) rfl ?_); refine goesL_ (some 9) rfl rfl Try.func30 (by kernel_rfl) rfl #[.slice Ao11 y475.length co11] rfl (by (try simp only [List.map_toArray, List.map_cons, List.map_nil]); first | done | rfl | (simp only [List.length_drop, List.length_take]; rfl)) ?_; (with_reducible refine (batch_Check.calls _ _ y475 t478 t479 _ ?side1 ?side2 A1.out).mono ?_); (case side1 => repeat (first | exact (Kd.N_reads' HO477.out).2.2 | (with_reducible refine Kd.C_alloc ?_ _) | (with_reducible refine Kd.C_drewN ?_ _) | (with_reducible refine Kd.C_drew ?_))); (case side2 => exact (Kd.N_reads' HO477.out).2.1); rintro e w12 ⟨rfl, hb⟩; refine ⟨_, rfl, ?_⟩; have n0_ := Aside0.mk (Kd.N_below (by (with_reducible repeat (first | apply Kd.N_alloc | apply Kd.N_drewN | apply Kd.N_drew)); exact HO477.out) hb); have n1_ := Aside0.mk (below_step (by repeat (first | (with_reducible first | exact HB.out | apply below_alloc | apply pw_below_drewN | apply below_drew1) | exact HB.out)) hb); clear HO477; clear HB; have HO477 := n0_; have HB := n1_; clear n0_ n1_; (try clear hb); (try clear hb2); (try clear hk); (try clear hi)) | ((with_reducible refine gate_dst (N := 15) rfl ?_); refine Kd.N_lit k25 _ 25 ?hg (N' := 15) ?hd (xs := ([(⟨(⟨#[98]⟩ : ByteArray), 0, ([] : List (S40)), 0, ([] : List (S37)), 0⟩ : S25), (⟨(⟨#[97]⟩ : ByteArray), 0, ([] : List (S40)), 0, ([] : List (S37)), 0⟩ : S25), (⟨(⟨#[98]⟩ : ByteArray), 0, ([] : List (S40)), 0, ([] : List (S37)), 0⟩ : S25)] : List (S25))) (inner := [.string (⟨#[98]⟩ : ByteArray), .int .i64 0, .slice none 0 0, .int .i64 0, .slice none 0 0, .int .i64 0, .string (⟨#[97]⟩ : ByteArray), .int .i64 0, .slice none 0 0, .int .i64 0, .slice none 0 0, .int .i64 0, .string (⟨#[98]⟩ : ByteArray), .int .i64 0, .slice none 0 0, .int .i64 0, .slice none 0 0, .int .i64 0]) (ok := (fun k_ => some k_ ≠ (.slice Ao11 y475.length co11 : Value).ownBlock)) (okp := (fun k_ => some k_ ≠ (.slice Ao11 y475.length co11 : Value).ownBlock)) ?hr ?hp (fun _ hk => hk) ((show ∀ k_, w12.heap.size ≤ k_ → (fun k_ => some k_ ≠ (.slice Ao11 y475.length co11 : Value).ownBlock) k_ from fun k_ hk => Kd.fresh' (Kd.N_lt (by (with_reducible repeat (first | apply Kd.N_alloc | apply Kd.N_drewN | apply Kd.N_drew)); exact HO477.out)) k_ hk) _ (Nat.le_refl _)) (Below.refl _ _) (Nat.le_refl _) (by simp) ?_; (case hd => rfl); (case hg => rfl); (case hr => first | (go_simp; done) | (go_simp; rfl)); (case hp => exact (Reps.c6 (show Kd.FK k25 _ _ (⟨(⟨#[98]⟩ : ByteArray), 0, ([] : List (S40)), 0, ([] : List (S37)), 0⟩ : S25) [.string (⟨#[98]⟩ : ByteArray), .int .i64 0, .slice none 0 0, .int .i64 0, .slice none 0 0, .int .i64 0] from (k25_mkF _ _ (⟨(⟨#[98]⟩ : ByteArray), 0, ([] : List (S40)), 0, ([] : List (S37)), 0⟩ : S25) (Nat.le_refl _) (Kd.F_nil _ _ _) (Nat.le_refl _) (Kd.F_nil _ _ _))) (Reps.c6 (show Kd.FK k25 _ _ (⟨(⟨#[97]⟩ : ByteArray), 0, ([] : List (S40)), 0, ([] : List (S37)), 0⟩ : S25) [.string (⟨#[97]⟩ : ByteArray), .int .i64 0, .slice none 0 0, .int .i64 0, .slice none 0 0, .int .i64 0] from (k25_mkF _ _ (⟨(⟨#[97]⟩ : ByteArray), 0, ([] : List (S40)), 0, ([] : List (S37)), 0⟩ : S25) (Nat.le_refl _) (Kd.F_nil _ _ _) (Nat.le_refl _) (Kd.F_nil _ _ _))) (Reps.c6 (show Kd.FK k25 _ _ (⟨(⟨#[98]⟩ : ByteArray), 0, ([] : List (S40)), 0, ([] : List (S37)), 0⟩ : S25) [.string (⟨#[98]⟩ : ByteArray), .int .i64 0, .slice none 0 0, .int .i64 0, .slice none 0 0, .int .i64 0] from (k25_mkF _ _ (⟨(⟨#[98]⟩ : ByteArray), 0, ([] : List (S40)), 0, ([] : List (S37)), 0⟩ : S25) (Nat.le_refl _) (Kd.F_nil _ _ _) (Nat.le_refl _) (Kd.F_nil _ _ _))) (Reps.none _ _))))); intro v481 w13 ho14 hb hg_ hnew_; clear hg_ hnew_; (first | rw [← Ny480.out] at ho14 | (simp only [Int.reduceToNat] at ho14; rw [← Ny480.out] at ho14)); have n0_ := Aside0.mk (Kd.N_elder' (by (with_reducible repeat (first | apply Kd.N_alloc | apply Kd.N_drewN | apply Kd.N_drew)); exact HO477.out) (Kd.N_base ho14) hb); have n1_ := Aside0.mk (Kd.N_lower ho14 (below_size (by repeat (first | (with_reducible first | exact HB.out | apply below_alloc | apply pw_below_drewN | apply below_drew1) | exact HB.out)))); have n2_ := Aside0.mk (below_step (by repeat (first | (with_reducible first | exact HB.out | apply below_alloc | apply pw_below_drewN | apply below_drew1) | exact HB.out)) hb); clear HO477; clear HB; have HO477 := n0_; have HO482 := n1_; have HB := n2_; clear n0_ n1_ n2_; clear hb ho14; obtain ⟨Ao15, co15, eo15⟩ := Kd.N_slice HO482.out; subst eo15) | ((with_reducible refine gate_callee (f := 35) rfl ?_); refine goesL_ (some 16) rfl rfl Try.func35 (by kernel_rfl) rfl #[.slice Ao15 y480.length co15] rfl (by (try simp only [List.map_toArray, List.map_cons, List.map_nil]); first | done | rfl | (simp only [List.length_drop, List.length_take]; rfl)) ?_; (with_reducible refine (batch_Names.calls _ _ y480 t483 _ ?side1 ?side2 A2.out).mono ?_); (case side1 => repeat (first | exact (Kd.N_reads' HO482.out).2.2 | (with_reducible refine Kd.C_alloc ?_ _) | (with_reducible refine Kd.C_drewN ?_ _) | (with_reducible refine Kd.C_drew ?_))); (case side2 => exact (Kd.N_reads' HO482.out).2.1); rintro e w16 ⟨v484, rfl, ho0, hb⟩; refine ⟨_, rfl, ?_⟩; have n0_ := Aside0.mk (Kd.N_elder' (by (with_reducible repeat (first | apply Kd.N_alloc | apply Kd.N_drewN | apply Kd.N_drew)); exact HO477.out) (Kd.R_base ho0) hb); have n1_ := Aside0.mk (Kd.N_elder' (by (with_reducible repeat (first | apply Kd.N_alloc | apply Kd.N_drewN | apply Kd.N_drew)); exact HO482.out) (Kd.R_base ho0) hb); have n2_ := Aside0.mk (Kd.R_lower ho0 (below_size (by repeat (first | (with_reducible first | exact HB.out | apply below_alloc | apply pw_below_drewN | apply below_drew1) | exact HB.out)))); have n3_ := Aside0.mk (below_step (by repeat (first | (with_reducible first | exact HB.out | apply below_alloc | apply pw_below_drewN | apply below_drew1) | exact HB.out)) hb); clear HO477; clear HO482; clear HB; have HO477 := n0_; have HO482 := n1_; have HO485 := n2_; have HB := n3_; clear n0_ n1_ n2_ n3_; (try clear hb); (try clear hb2); (try clear hk); (try clear hi); (try clear ho0)) | ((with_reducible refine gate_dst (N := 17) rfl ?_); refine Kd.R_lit Kd.string _ 9 ?hg (N := 17) ?hd (xs := ([(⟨#[98]⟩ : ByteArray), (⟨#[97]⟩ : ByteArray)] : List ByteArray)) (inner := [.string (⟨#[98]⟩ : ByteArray), .string (⟨#[97]⟩ : ByteArray)]) (ok := fun _ => True) (okp := fun _ => True) ?hr ?hp (fun _ hk => hk) trivial (Below.refl _ _) (Nat.le_refl _) (by simp) ?_; (case hd => rfl); (case hg => rfl); (case hr => first | (go_simp; done) | (go_simp; rfl)); (case hp => exact (Reps.one (show Kd.M Kd.string _ _ _ (⟨#[98]⟩ : ByteArray) [.string (⟨#[98]⟩ : ByteArray)] from rfl) (Reps.one (show Kd.M Kd.string _ _ _ (⟨#[97]⟩ : ByteArray) [.string (⟨#[97]⟩ : ByteArray)] from rfl) (Reps.none _ _)))); intro v487 w17 ho18 hb hg_ hnew_; clear hg_ hnew_; (first | rw [← Ny486.out] at ho18 | (simp only [Int.reduceToNat] at ho18; rw [← Ny486.out] at ho18)); have n0_ := Aside0.mk (Kd.N_elder' (by (with_reducible repeat (first | apply Kd.N_alloc | apply Kd.N_drewN | apply Kd.N_drew)); exact HO477.out) (Kd.R_base ho18) hb); have n1_ := Aside0.mk (Kd.N_elder' (by (with_reducible repeat (first | apply Kd.N_alloc | apply Kd.N_drewN | apply Kd.N_drew)); exact HO482.out) (Kd.R_base ho18) hb); have n2_ := Aside0.mk (Kd.R_elder' (by (with_reducible repeat (first | apply Kd.R_alloc | apply Kd.R_drewN | apply Kd.R_drew)); exact HO485.out) (Kd.R_base ho18) hb); have n3_ := Aside0.mk (Kd.R_lower (Kd.R_new' ho18 (Kd.R_lt (by (with_reducible repeat (first | apply Kd.R_alloc | apply Kd.R_drewN | apply Kd.R_drew)); exact HO485.out))) (below_size (by repeat (first | (with_reducible first | exact HB.out | apply below_alloc | apply pw_below_drewN | apply below_drew1) | exact HB.out)))); have n4_ := Aside0.mk (below_step (by repeat (first | (with_reducible first | exact HB.out | apply below_alloc | apply pw_below_drewN | apply below_drew1) | exact HB.out)) hb); clear HO477; clear HO482; clear HO485; clear HB; have HO477 := n0_; have HO482 := n1_; have HO485 := n2_; have HO488 := n3_; have HB := n4_; clear n0_ n1_ n2_ n3_ n4_; clear hb ho18; obtain ⟨Ao19, co19, eo19⟩ := Kd.R_slice HO485.out; subst eo19; obtain ⟨Ao20, co20, eo20⟩ := Kd.R_slice HO488.out; subst eo20) | ((with_reducible refine gate_callee (f := 36) rfl ?_); refine goesL_ (some 18) rfl rfl Try.func36 (by kernel_rfl) rfl #[.slice Ao19 t483.length co19, .slice Ao20 y486.length co20] rfl (by (try simp only [List.map_toArray, List.map_cons, List.map_nil]); first | done | rfl | (simp only [List.length_drop, List.length_take]; rfl)) ?_; (with_reducible refine (forebaylaw08_texts.calls k _ _ t483 _ _ y486 true _ ?side1 ?side2 ?side3 ?side4 A3.out).mono ?_); (case side1 => repeat (first | exact (Kd.R_reads' HO485.out).2.2 | (with_reducible refine Kd.C_alloc ?_ _) | (with_reducible refine Kd.C_drewN ?_ _) | (with_reducible refine Kd.C_drew ?_))); (case side2 => exact (Kd.R_reads' HO485.out).2.1); (case side3 => repeat (first | exact (Kd.R_reads' HO488.out).2.2 | (with_reducible refine Kd.C_alloc ?_ _) | (with_reducible refine Kd.C_drewN ?_ _) | (with_reducible refine Kd.C_drew ?_))); (case side4 => exact (Kd.R_reads' HO488.out).2.1); rintro e w' ⟨rfl, ⟨nd, rfl⟩⟩; refine ⟨_, rfl, ?_⟩))
   go_ret
   exact ⟨by first | rfl | (simp [errW_none, errW_some] <;> rfl) | (simp [*, errW_none, errW_some] <;> rfl), by repeat (first | (with_reducible first | exact HB.out | apply below_alloc | apply pw_below_drewN | apply below_drew1) | exact HB.out)⟩
  ·rw [if_neg c5] at H
   exact absurd H (by simp)
 ·replace c4 := Bool.eq_false_iff.mpr c4
  subst c4
  have H1 : (none) = some r := by rw [if_neg (show ¬ (false = true) by decide)] at H; exact H
  clear H
  have H := H1
  clear H1
  exact absurd H (by simp)
/-! ### forebayref08_Check: function 31 -/
def forebayref08_Check.l0 : Nat → List (S25) → Int → Option (Int × Int)
 | 0, _, _ => none
 | k + 1, x0, x4 => if x4 < (x0.length : Int) then (if 0 ≤ x4 then ((forebayref07_Check.f k ((rd_T25 x0 x4).f0) ((rd_T25 x0 x4).f1) ((rd_T25 x0 x4).f2) ((rd_T25 x0 x4).f3) ((rd_T25 x0 x4).f4) ((rd_T25 x0 x4).f5)).bind fun t491 => (if t491 = 0 then (forebayref08_Check.l0 k x0 (wrap64 (x4 + 1))) else (some (x4, t491)))) else (none)) else (some (0, 0))
def forebayref08_Check.f (k : Nat) (l0 : List (S25)) : Option (Int × Int) := if (l0.length : Int) > 1000 then (some (1000, 12)) else (forebayref08_Check.l0 k l0 0)
/-! ### forebayref08_Normal: function 33 -/
def forebayref08_Normal.l0 : Nat → List (S25) → List (S25) → Int → Option ((List (S25)) × Int × Int)
 | 0, _, _, _ => none
 | k + 1, x0, x5, x6 => if x6 < (x0.length : Int) then (if 0 ≤ x6 then ((forebayref07_Normal.f k ((rd_T25 x0 x6).f0) ((rd_T25 x0 x6).f1) ((rd_T25 x0 x6).f2) ((rd_T25 x0 x6).f3) ((rd_T25 x0 x6).f4) ((rd_T25 x0 x6).f5)).bind fun bt493 => (if bt493.2.2.2.2.2.2 = 0 then (if x5.length < 1599289640401 then (forebayref08_Normal.l0 k x0 (x5 ++ [(⟨bt493.1, bt493.2.1, bt493.2.2.1, bt493.2.2.2.1, bt493.2.2.2.2.1, bt493.2.2.2.2.2.1⟩ : S25)]) (wrap64 (x6 + 1))) else (none)) else (some (([] : List (S25)), x6, bt493.2.2.2.2.2.2)))) else (none)) else (some (x5, 0, 0))
def forebayref08_Normal.f (k : Nat) (l0 : List (S25)) : Option ((List (S25)) × Int × Int) := if (l0.length : Int) > 1000 then (some (([] : List (S25)), 1000, 12)) else (forebayref08_Normal.l0 k l0 ([] : List (S25)) 0)
set_option maxHeartbeats 8000000 in
set_option maxRecDepth 100000 in
theorem forebayref08_Normal.calls (k : Nat) (A0 : Option Addr) (c0 : Nat) (l0 : List (S25)) (r1 : List (S25)) (r2 : Int) (r3 : Int) (w : World) (hr0 : Kd.C k25 w A0 l0.length l0) (hc0 : l0.length ≤ c0) (h : forebayref08_Normal.f k l0 = some (r1, r2, r3)) :
  Calls Try.prog 33 #[.slice A0 l0.length c0] w fun e w' => ∃ v0_ : Value, e = .returned (.tuple #[v0_, .int .i64 r2, .int .i64 r3]) ∧ Kd.S k25 25 w' w.heap.size (fun _ => True) v0_ r1 ∧ Below w.heap.size w w' := by
 have hu25 := Try.underlying25
 have HR0 := Aside0.mk hr0
 have HC0 := Aside0.mk hc0
 clear hr0 hc0
 have HB := Aside0.mk (Below.refl w.heap.size w)
 have H : (if (l0.length : Int) > 1000 then (some (([] : List (S25)), 1000, 12)) else (forebayref08_Normal.l0 k l0 ([] : List (S25)) 0)) = some (r1, r2, r3) := h
 clear h
 by_cases c2 : (l0.length : Int) > 1000
 ·rw [if_pos c2] at H
  have c2b0 : decide (1000 < (l0.length : Int)) = true := decide_eq_true c2
  have c2b1 : decide (1000 < l0.length) = true := decide_eq_true (by omega)
  clear c2
  simp only [Option.some.injEq, Prod.mk.injEq] at H
  obtain ⟨rfl, rfl, rfl⟩ := H
  go_enter Try.func33, Try.ntmps33
  go_wp2
  go_ret3
  exact ⟨_, by first | rfl | (simp [errW_none, errW_some] <;> rfl) | (simp [*, errW_none, errW_some] <;> rfl), by first | exact Kd.S_nil _ _ _ _ _ | exact Kd.N_nil _ _ _ _ _ | exact Kd.V_nil _ _ _ _ _ | exact Kd.Q_nil _ _ _ _ _ | exact Kd.R_nil _ _ _ _ _, by repeat (first | (with_reducible first | exact HB.out | apply below_alloc | apply pw_below_drewN | apply below_drew1) | exact HB.out)⟩
 ·rw [if_neg c2] at H
  have c2b0 : decide (1000 < (l0.length : Int)) = false := decide_eq_false c2
  have c2b1 : decide (1000 < l0.length) = false := decide_eq_false (by omega)
  clear c2
  have H' := Aside0.mk H
  clear H
  go_enter Try.func33, Try.ntmps33
  go_wp2
  go_loopg [5, 6] k (fun kq v5 v6 w' => ∃ (x5_1 : List (S25)) (x6_1 : Int), v6 = .int .i64 x6_1 ∧ Aside0 (forebayref08_Normal.l0 kq l0 x5_1 x6_1 = some (r1, r2, r3)) ∧ Aside0 (kq ≤ k) ∧ Aside0 (Kd.S k25 25 w' w.heap.size (fun _ => True) v5 x5_1) ∧ Aside0 (Below w.heap.size w w'))
  case atStart => exact ⟨(([] : List (S25))), (0), (by first | rfl | (simp; done) | (simp [*]; done)), H', ⟨Nat.le_refl _⟩, ⟨by first | exact Kd.S_nil _ _ _ _ _ | exact Kd.N_nil _ _ _ _ _ | exact Kd.V_nil _ _ _ _ _ | exact Kd.Q_nil _ _ _ _ _ | exact Kd.R_nil _ _ _ _ _⟩, ⟨by repeat (first | (with_reducible first | exact HB.out | apply below_alloc | apply pw_below_drewN | apply below_drew1) | exact HB.out)⟩⟩
  case round =>
   clear H'
   try clear c2
   try clear c2b0
   try clear c2b1
   try clear p2
   obtain ⟨x5_1, x6_1, rfl, HA, HK1, HO_5, HB⟩ := hrel
   cases gk with
   | zero => exact absurd HA.out (by simp [forebayref08_Normal.l0])
   | succ k1 =>
    have H := HA.out
    clear HA
    simp only [forebayref08_Normal.l0] at H
    by_cases c3 : x6_1 < (l0.length : Int)
    ·rw [if_pos c3] at H
     have c3b0 : decide (x6_1 < (l0.length : Int)) = true := decide_eq_true c3
     clear c3
     by_cases c4 : 0 ≤ x6_1
     ·rw [if_pos c4] at H
      have c4b0 : decide (0 ≤ x6_1) = true := decide_eq_true c4
      clear c4
      replace H := Option.bind_eq_some_iff.mp H
      obtain ⟨⟨t493, t494, t495, t498, t499, t502, t503⟩, A50, H⟩ := H
      replace H : (if t503 = 0 then (if x5_1.length < 1599289640401 then (forebayref08_Normal.l0 k1 l0 (x5_1 ++ [(⟨t493, t494, t495, t498, t499, t502⟩ : S25)]) (wrap64 (x6_1 + 1))) else (none)) else (some (([] : List (S25)), x6_1, t503))) = some (r1, r2, r3) := H
      have A5 := Aside0.mk A50
      clear A50
      by_cases c6 : t503 = 0
      ·rw [if_pos c6] at H
       have c6b0 : (t503 == 0) = true := beq_iff_eq.mpr c6
       have c6b1 : (t503 != 0) = false := bne_eq_false_iff_eq.mpr c6
       clear c6
       by_cases c7 : x5_1.length < 1599289640401
       ·rw [if_pos c7] at H
        have LMc7 := Aside0.mk c7
        clear c7
        obtain ⟨y505, hy505⟩ : ∃ y_ : List (S25), y_ = (x5_1 ++ [(⟨t493, t494, t495, t498, t499, t502⟩ : S25)]) := ⟨_, rfl⟩
        replace H : (forebayref08_Normal.l0 k1 l0 y505 (wrap64 (x6_1 + 1))) = some (r1, r2, r3) := by first | (rw [hy505]; with_reducible exact H) | (have H2_ := (Option.bind_some _ _).symm.trans H; rw [hy505]; with_reducible exact H2_) | (have H2_ := (Option.bind_some _ _).symm.trans H; with_reducible exact H2_) | with_reducible exact H | (rw [hy505]; exact H) | exact H
        have Ny505 := Aside0.mk hy505
        clear hy505
        have H' := Aside0.mk H
        clear H
        have p492 : 0 ≤ (x6_1 : Int) := of_decide_eq_true (by first | (with_reducible assumption) | assumption)
        have q492 : x6_1 < (l0.length : Int) := of_decide_eq_true (by first | (with_reducible assumption) | assumption)
        obtain ⟨ad492, A492_2, c492_2, A492_4, c492_4, e492, hx492_0, hx492_1, hx492_2, hx492_3, hx492_4, hx492_5, hl492_2, hi492_2, hl492_4, hi492_4⟩ := at_T25 HR0.out x6_1 p492 q492
        cases e492
        replace hx492_0 := (HB.out.cell (World.block_lt_of_cell? w _ hx492_0)).trans hx492_0
        replace hx492_1 := (HB.out.cell (World.block_lt_of_cell? w _ hx492_1)).trans hx492_1
        replace hx492_2 := (HB.out.cell (World.block_lt_of_cell? w _ hx492_2)).trans hx492_2
        replace hx492_3 := (HB.out.cell (World.block_lt_of_cell? w _ hx492_3)).trans hx492_3
        replace hx492_4 := (HB.out.cell (World.block_lt_of_cell? w _ hx492_4)).trans hx492_4
        replace hx492_5 := (HB.out.cell (World.block_lt_of_cell? w _ hx492_5)).trans hx492_5
        have HR492_2 := Aside0.mk hi492_2
        have HC492_2 := Aside0.mk hl492_2
        clear hi492_2 hl492_2
        have HR492_4 := Aside0.mk hi492_4
        have HC492_4 := Aside0.mk hl492_4
        clear hi492_4 hl492_4
        replace p492 := eq_true p492
        replace q492 := eq_true q492
        go_wp2_with (first | ((with_reducible refine gate_callee (f := 19) rfl ?_); refine goesL_ (some 23) rfl rfl Try.func19 (by kernel_rfl) rfl #[.agg #[.string ((rd_T25 l0 x6_1).f0), .int .i64 ((rd_T25 l0 x6_1).f1), .slice A492_2 ((rd_T25 l0 x6_1).f2).length c492_2, .int .i64 ((rd_T25 l0 x6_1).f3), .slice A492_4 ((rd_T25 l0 x6_1).f4).length c492_4, .int .i64 ((rd_T25 l0 x6_1).f5)]] rfl (by (try simp only [List.map_toArray, List.map_cons, List.map_nil]); first | done | rfl | (simp only [List.length_drop, List.length_take]; rfl)) ?_; (with_reducible refine (forebayref07_Normal.calls k1 ((rd_T25 l0 x6_1).f0) ((rd_T25 l0 x6_1).f1) _ _ ((rd_T25 l0 x6_1).f2) ((rd_T25 l0 x6_1).f3) _ _ ((rd_T25 l0 x6_1).f4) ((rd_T25 l0 x6_1).f5) t493 t494 t495 t498 t499 t502 t503 _ ?side1 ?side2 ?side3 ?side4 A5.out).mono ?_); (case side1 => repeat (first | exact (Kd.C_below HR492_2.out HB.out) | (with_reducible refine Kd.C_alloc ?_ _) | (with_reducible refine Kd.C_drewN ?_ _) | (with_reducible refine Kd.C_drew ?_))); (case side2 => exact HC492_2.out); (case side3 => repeat (first | exact (Kd.C_below HR492_4.out HB.out) | (with_reducible refine Kd.C_alloc ?_ _) | (with_reducible refine Kd.C_drewN ?_ _) | (with_reducible refine Kd.C_drew ?_))); (case side4 => exact HC492_4.out); rintro e w8 ⟨v496, v500, rfl, ho0, ho1, hb⟩; refine ⟨_, rfl, ?_⟩; have n0_ := Aside0.mk (Kd.S_mono (Kd.S_told (Kd.S_told (Kd.S_old (by (with_reducible repeat (first | apply Kd.S_alloc | apply Kd.S_drewN | apply Kd.S_drew)); exact HO_5.out) hb) (Kd.R_base ho0)) (Kd.R_base ho1)) (fun _ h_ => h_.1)); have n1_ := Aside0.mk (Kd.R_lower ho0 (below_size (by repeat (first | (with_reducible first | exact HB.out | apply below_alloc | apply pw_below_drewN | apply below_drew1) | exact HB.out)))); have n2_ := Aside0.mk (Kd.R_lower ho1 (below_size (by repeat (first | (with_reducible first | exact HB.out | apply below_alloc | apply pw_below_drewN | apply below_drew1) | exact HB.out)))); have n3_ := Aside0.mk (below_step (by repeat (first | (with_reducible first | exact HB.out | apply below_alloc | apply pw_below_drewN | apply below_drew1) | exact HB.out)) hb); clear HO_5; clear HB; have HO_5 := n0_; have HO497 := n1_; have HO501 := n2_; have HB := n3_; clear n0_ n1_ n2_ n3_; (try clear hb); (try clear hb2); (try clear hk); (try clear hi); (try clear ho0); (try clear ho1)) | ((with_reducible refine gate_dst (N := 7) rfl ?_); refine box_event ?hg (N := 7) ?hd (cs := #[.string (⟨#[]⟩ : ByteArray), .int .i64 0, .slice none 0 0, .int .i64 0, .slice none 0 0, .int .i64 0]) (t := 25) ?hr ?_; (case hd => rfl); (case hg => rfl); (case hr => first | (go_simp; done) | (go_simp; rfl)); intro gb504 hg w9 hbox hb; have n0_ := Aside0.mk (Kd.S_below (Kd.S_elderB (by (with_reducible repeat (first | apply Kd.S_alloc | apply Kd.S_drewN | apply Kd.S_drew)); exact HO_5.out) gb504 (Nat.le_of_eq hg.symm)) hb); have n1_ := Aside0.mk (Kd.R_below (by (with_reducible repeat (first | apply Kd.R_alloc | apply Kd.R_drewN | apply Kd.R_drew)); exact HO497.out) hb); have n2_ := Aside0.mk (Kd.R_below (by (with_reducible repeat (first | apply Kd.R_alloc | apply Kd.R_drewN | apply Kd.R_drew)); exact HO501.out) hb); have n3_ := Aside0.mk (below_step (by repeat (first | (with_reducible first | exact HB.out | apply below_alloc | apply pw_below_drewN | apply below_drew1) | exact HB.out)) hb); have n4_ := Aside0.mk (hbox); have n5_ := Aside0.mk ((by rw [hg]; exact (below_size (by repeat (first | (with_reducible first | exact HB.out | apply below_alloc | apply pw_below_drewN | apply below_drew1) | exact HB.out))) : w.heap.size ≤ gb504)); have n6_ := Aside0.mk ((by rw [hg]; exact (below_size (by repeat (first | (with_reducible first | exact HB.out | apply below_alloc | apply pw_below_drewN | apply below_drew1) | exact HB.out))) : w.heap.size ≤ gb504)); clear HO_5; clear HO497; clear HO501; clear HB; have HO_5 := n0_; have HO497 := n1_; have HO501 := n2_; have HB := n3_; have BK504 := n4_; have GW504 := n5_; have GE504 := n6_; clear n0_ n1_ n2_ n3_ n4_ n5_ n6_; clear hb hbox hg; have hcz10_0 : w9.cell? ⟨gb504, 0, none⟩ = some (.string (⟨#[]⟩ : ByteArray)) := (blk_cell BK504.out 0).trans rfl; have hcz10_1 : w9.cell? ⟨gb504, 1, none⟩ = some (.int .i64 0) := (blk_cell BK504.out 1).trans rfl; have hcz10_2 : w9.cell? ⟨gb504, 2, none⟩ = some (.slice none 0 0) := (blk_cell BK504.out 2).trans rfl; have hcz10_3 : w9.cell? ⟨gb504, 3, none⟩ = some (.int .i64 0) := (blk_cell BK504.out 3).trans rfl; have hcz10_4 : w9.cell? ⟨gb504, 4, none⟩ = some (.slice none 0 0) := (blk_cell BK504.out 4).trans rfl; have hcz10_5 : w9.cell? ⟨gb504, 5, none⟩ = some (.int .i64 0) := (blk_cell BK504.out 5).trans rfl; have hfz10_0 := blk_frozen BK504.out 0; have hfz10_1 := blk_frozen BK504.out 1; have hfz10_2 := blk_frozen BK504.out 2; have hfz10_3 := blk_frozen BK504.out 3; have hfz10_4 := blk_frozen BK504.out 4; have hfz10_5 := blk_frozen BK504.out 5; obtain ⟨Ao11, co11, eo11⟩ := Kd.R_slice HO497.out; subst eo11; obtain ⟨Ao12, co12, eo12⟩ := Kd.R_slice HO501.out; subst eo12) | ((with_reducible refine gate_store (t := 25) (p := 7) rfl ?_); refine store_event (t := 25) (p := 7) (v := ?vo_w13) (w1 := ((((((w9.setCell ⟨gb504, 0, none⟩ (.string t493)).setCell ⟨gb504, 1, none⟩ (.int .i64 t494)).setCell ⟨gb504, 2, none⟩ (.slice Ao11 t495.length co11)).setCell ⟨gb504, 3, none⟩ (.int .i64 t498)).setCell ⟨gb504, 4, none⟩ (.slice Ao12 t499.length co12)).setCell ⟨gb504, 5, none⟩ (.int .i64 t502))) ?hg ?ho ?hn ?hr ?_; (case ho => rfl); (case hg => rfl); (case hn => rfl); (case hr => first | (go_simp; done) | (go_simp; rfl)); intro w13 hw; have n0_ : Aside0 (Kd.S k25 25 w13 w.heap.size (fun k_ => some k_ ≠ (.slice Ao11 t495.length co11 : Value).ownBlock ∧ some k_ ≠ (.slice Ao12 t499.length co12 : Value).ownBlock ∧ k_ ≠ gb504) u5 x5_1) := ⟨(by rw [hw]; exact (by (with_reducible repeat (first | apply Kd.S_alloc | apply Kd.S_drewN | apply Kd.S_drew)); exact Kd.S_mono (Kd.S_far (p := ⟨gb504, 5, none⟩) (Kd.S_far (p := ⟨gb504, 4, none⟩) (Kd.S_far (p := ⟨gb504, 3, none⟩) (Kd.S_far (p := ⟨gb504, 2, none⟩) (Kd.S_far (p := ⟨gb504, 1, none⟩) (Kd.S_far (p := ⟨gb504, 0, none⟩) (Kd.S_mono HO_5.out (fun k_ hk => (⟨hk, hk.2⟩ : _ ∧ k_ ≠ gb504))) (fun _ hk => hk.2) (.string t493)) (fun _ hk => hk.2) (.int .i64 t494)) (fun _ hk => hk.2) (.slice Ao11 t495.length co11)) (fun _ hk => hk.2) (.int .i64 t498)) (fun _ hk => hk.2) (.slice Ao12 t499.length co12)) (fun _ hk => hk.2) (.int .i64 t502)) (fun _ hk => ⟨hk.1.1.1.2, ⟨hk.1.1.2, hk.1.2⟩⟩)))⟩; have n1_ : Aside0 (Kd.R k40 40 w13 w.heap.size (fun _ => True) (.slice Ao11 t495.length co11) t495) := ⟨(by rw [hw]; exact (by (with_reducible repeat (first | apply Kd.R_alloc | apply Kd.R_drewN | apply Kd.R_drew)); exact Kd.R_mono (Kd.R_far (p := ⟨gb504, 5, none⟩) (Kd.R_far (p := ⟨gb504, 4, none⟩) (Kd.R_far (p := ⟨gb504, 3, none⟩) (Kd.R_far (p := ⟨gb504, 2, none⟩) (Kd.R_far (p := ⟨gb504, 1, none⟩) (Kd.R_far (p := ⟨gb504, 0, none⟩) (Kd.R_types HO497.out BK504.out (by decide)) (fun _ hk => hk.2) (.string t493)) (fun _ hk => hk.2) (.int .i64 t494)) (fun _ hk => hk.2) (.slice Ao11 t495.length co11)) (fun _ hk => hk.2) (.int .i64 t498)) (fun _ hk => hk.2) (.slice Ao12 t499.length co12)) (fun _ hk => hk.2) (.int .i64 t502)) (fun _ hk => trivial)))⟩; have n2_ : Aside0 (Kd.R k37 37 w13 w.heap.size (fun _ => True) (.slice Ao12 t499.length co12) t499) := ⟨(by rw [hw]; exact (by (with_reducible repeat (first | apply Kd.R_alloc | apply Kd.R_drewN | apply Kd.R_drew)); exact Kd.R_mono (Kd.R_far (p := ⟨gb504, 5, none⟩) (Kd.R_far (p := ⟨gb504, 4, none⟩) (Kd.R_far (p := ⟨gb504, 3, none⟩) (Kd.R_far (p := ⟨gb504, 2, none⟩) (Kd.R_far (p := ⟨gb504, 1, none⟩) (Kd.R_far (p := ⟨gb504, 0, none⟩) (Kd.R_types HO501.out BK504.out (by decide)) (fun _ hk => hk.2) (.string t493)) (fun _ hk => hk.2) (.int .i64 t494)) (fun _ hk => hk.2) (.slice Ao11 t495.length co11)) (fun _ hk => hk.2) (.int .i64 t498)) (fun _ hk => hk.2) (.slice Ao12 t499.length co12)) (fun _ hk => hk.2) (.int .i64 t502)) (fun _ hk => trivial)))⟩; have n3_ : Aside0 (w13.heap[gb504]? = some (.cells #[.string t493, .int .i64 t494, .slice Ao11 t495.length co11, .int .i64 t498, .slice Ao12 t499.length co12, .int .i64 t502] 25 (0, 0))) := ⟨(by rw [hw]; exact (by (with_reducible repeat (first | refine blk_drewN ?_ _ | refine blk_drew ?_ | refine blk_alloc ?_ _)); refine blk_put (cs := #[.string t493, .int .i64 t494, .slice Ao11 t495.length co11, .int .i64 t498, .slice Ao12 t499.length co12, .int .i64 0]) ?_ 5 _ rfl; (with_reducible repeat (first | refine blk_drewN ?_ _ | refine blk_drew ?_ | refine blk_alloc ?_ _)); refine blk_put (cs := #[.string t493, .int .i64 t494, .slice Ao11 t495.length co11, .int .i64 t498, .slice none 0 0, .int .i64 0]) ?_ 4 _ rfl; (with_reducible repeat (first | refine blk_drewN ?_ _ | refine blk_drew ?_ | refine blk_alloc ?_ _)); refine blk_put (cs := #[.string t493, .int .i64 t494, .slice Ao11 t495.length co11, .int .i64 0, .slice none 0 0, .int .i64 0]) ?_ 3 _ rfl; (with_reducible repeat (first | refine blk_drewN ?_ _ | refine blk_drew ?_ | refine blk_alloc ?_ _)); refine blk_put (cs := #[.string t493, .int .i64 t494, .slice none 0 0, .int .i64 0, .slice none 0 0, .int .i64 0]) ?_ 2 _ rfl; (with_reducible repeat (first | refine blk_drewN ?_ _ | refine blk_drew ?_ | refine blk_alloc ?_ _)); refine blk_put (cs := #[.string t493, .int .i64 0, .slice none 0 0, .int .i64 0, .slice none 0 0, .int .i64 0]) ?_ 1 _ rfl; (with_reducible repeat (first | refine blk_drewN ?_ _ | refine blk_drew ?_ | refine blk_alloc ?_ _)); refine blk_put (cs := #[.string (⟨#[]⟩ : ByteArray), .int .i64 0, .slice none 0 0, .int .i64 0, .slice none 0 0, .int .i64 0]) ?_ 0 _ rfl; (with_reducible repeat (first | refine blk_drewN ?_ _ | refine blk_drew ?_ | refine blk_alloc ?_ _)); exact BK504.out))⟩; have n4_ : Aside0 (Below w.heap.size w w13) := ⟨(by rw [hw]; exact (by repeat (first | (with_reducible first | exact HB.out | apply below_alloc | apply pw_below_drewN | apply below_drew1 | refine below_set ?_ GE504.out) | exact HB.out)))⟩; clear hw; clear HO_5; clear HO497; clear HO501; clear BK504; clear HB; have HO_5 := n0_; have HO497 := n1_; have HO501 := n2_; have BK504 := n3_; have HB := n4_; clear n0_ n1_ n2_ n3_ n4_; have hcz14_0 : w13.cell? ⟨gb504, 0, none⟩ = some (.string t493) := (blk_cell BK504.out 0).trans rfl; have hcz14_1 : w13.cell? ⟨gb504, 1, none⟩ = some (.int .i64 t494) := (blk_cell BK504.out 1).trans rfl; have hcz14_2 : w13.cell? ⟨gb504, 2, none⟩ = some (.slice Ao11 t495.length co11) := (blk_cell BK504.out 2).trans rfl; have hcz14_3 : w13.cell? ⟨gb504, 3, none⟩ = some (.int .i64 t498) := (blk_cell BK504.out 3).trans rfl; have hcz14_4 : w13.cell? ⟨gb504, 4, none⟩ = some (.slice Ao12 t499.length co12) := (blk_cell BK504.out 4).trans rfl; have hcz14_5 : w13.cell? ⟨gb504, 5, none⟩ = some (.int .i64 t502) := (blk_cell BK504.out 5).trans rfl; have hfz14_0 := blk_frozen BK504.out 0; have hfz14_1 := blk_frozen BK504.out 1; have hfz14_2 := blk_frozen BK504.out 2; have hfz14_3 := blk_frozen BK504.out 3; have hfz14_4 := blk_frozen BK504.out 4; have hfz14_5 := blk_frozen BK504.out 5) | ((with_reducible refine gate_builtin (b := .append) (xs := #[.tmp 30, .tmp 32]) rfl ?_); at_builtin; refine Kd.S_append k25 (w0 := w) w.heap.size rfl (.tmp 30) (.tmp 32) 42 25 (.agg #[(.string ⟨#[]⟩), (.int .i64 0), (.slice none 0 0), (.int .i64 0), (.slice none 0 0), (.int .i64 0)]) 88 rfl Try.underlying42 info25 rfl (by decide) (by omega) u5 x5_1 (⟨t493, t494, t495, t498, t499, t502⟩ : S25) [.string t493, .int .i64 t494, .slice Ao11 t495.length co11, .int .i64 t498, .slice Ao12 t499.length co12, .int .i64 t502] (fun k_ => k_ ≠ gb504) (fun k_ => some k_ = (.slice Ao11 t495.length co11 : Value).ownBlock ∨ some k_ = (.slice Ao12 t499.length co12 : Value).ownBlock) rfl rfl ?aP (fun k_ hk_ => hk_.elim (fun h_ => ((Kd.R_mono (ok' := fun k_ => ((fun k_ => k_ ≠ gb504)) k_ ∧ some k_ ≠ (u5 : Value).ownBlock) (Kd.R_types (Kd.R_apart' (HO497.out) (Kd.S_typed HO_5.out) (by decide)) BK504.out (by decide)) (fun k_ hk => ⟨hk.2, hk.1.2⟩))).1 k_ h_.symm) (fun h_ => ((Kd.R_mono (ok' := fun k_ => ((fun k_ => k_ ≠ gb504)) k_ ∧ some k_ ≠ (u5 : Value).ownBlock) (Kd.R_types (Kd.R_apart' (HO501.out) (Kd.S_typed HO_5.out) (by decide)) BK504.out (by decide)) (fun k_ hk => ⟨hk.2, hk.1.2⟩))).1 k_ h_.symm)) ?aF ?aO ?aB ?aS ?aL ?_; (case aP => exact k25_mkM _ _ _ (⟨t493, t494, t495, t498, t499, t502⟩ : S25) (Kd.R_mono (Kd.R_tight rfl (Kd.R_mono (ok' := fun k_ => ((fun k_ => k_ ≠ gb504)) k_ ∧ some k_ ≠ (u5 : Value).ownBlock) (Kd.R_types (Kd.R_apart' (HO497.out) (Kd.S_typed HO_5.out) (by decide)) BK504.out (by decide)) (fun k_ hk => ⟨hk.2, hk.1.2⟩))) (fun _ h_ => Or.inl h_)) (Kd.R_mono (Kd.R_tight rfl (Kd.R_mono (ok' := fun k_ => ((fun k_ => k_ ≠ gb504)) k_ ∧ some k_ ≠ (u5 : Value).ownBlock) (Kd.R_types (Kd.R_apart' (HO501.out) (Kd.S_typed HO_5.out) (by decide)) BK504.out (by decide)) (fun k_ hk => ⟨hk.2, hk.1.2⟩))) (fun _ h_ => Or.inr (h_)))); (case aB => exact (by repeat (first | (with_reducible first | exact HB.out | apply below_alloc | apply pw_below_drewN | apply below_drew1 | refine below_set ?_ GE504.out) | exact HB.out))); (case aF => exact (fun k_ hk => Kd.freshB (g := gb504) (o := .cells #[.string t493, .int .i64 t494, .slice Ao11 t495.length co11, .int .i64 t498, .slice Ao12 t499.length co12, .int .i64 t502] 25 (0, 0)) (by (with_reducible repeat (first | refine blk_drewN ?_ _ | refine blk_drew ?_ | refine blk_alloc ?_ _)); exact BK504.out) k_ hk)); (case aO => exact (by (with_reducible repeat (first | apply Kd.S_alloc | apply Kd.S_drewN | apply Kd.S_drew)); exact Kd.S_mono HO_5.out (fun k_ hk => ⟨hk.2.2, fun e_ => e_.elim (fun h_ => hk.1 h_) (fun h_ => hk.2.1 h_)⟩))); (case aS => exact (below_size (by repeat (first | (with_reducible first | exact HB.out | apply below_alloc | apply pw_below_drewN | apply below_drew1 | refine below_set ?_ GE504.out) | exact HB.out)))); (case aL => have := LMc7.out; omega); intro v506 w15 ho hb hg hat; rw [← Ny505.out] at ho; have n0_ := Aside0.mk (blk_grown (g := gb504) (o := .cells #[.string t493, .int .i64 t494, .slice Ao11 t495.length co11, .int .i64 t498, .slice Ao12 t499.length co12, .int .i64 t502] 25 (0, 0)) (by (with_reducible repeat (first | refine blk_drewN ?_ _ | refine blk_drew ?_ | refine blk_alloc ?_ _)); exact BK504.out) hg (Kd.S_away HO_5.out (fun _ hk => hk.2.2))); have n1_ := Aside0.mk (hb); have n2_ := Aside0.mk (ho); clear BK504; clear HB; clear HO_5; clear HO497; clear HO501; have BK504 := n0_; have HB := n1_; have HO507 := n2_; clear n0_ n1_ n2_; clear ho hb hg hat))
        go_roundg k1
        case measure => have := HK1.out; omega
        case rel => exact ⟨(y505), (wrap64 (x6_1 + 1)), (by first | rfl | (simp; done) | (simp [*]; done)), H', ⟨by have := HK1.out; omega⟩, ⟨by (with_reducible repeat (first | apply Kd.S_alloc | apply Kd.S_drewN | apply Kd.S_drew)); exact Kd.S_mono HO507.out (fun _ hk => trivial)⟩, ⟨by repeat (first | (with_reducible first | exact HB.out | apply below_alloc | apply pw_below_drewN | apply below_drew1 | refine below_set ?_ GE504.out) | exact HB.out)⟩⟩
       ·rw [if_neg c7] at H
        exact absurd H (by simp)
      ·rw [if_neg c6] at H
       have c6b0 : (t503 == 0) = false := beq_eq_false_iff_ne.mpr c6
       have c6b1 : (t503 != 0) = true := bne_iff_ne.mpr c6
       simp only [Option.some.injEq, Prod.mk.injEq] at H
       obtain ⟨rfl, rfl, rfl⟩ := H
       have p492 : 0 ≤ (x6_1 : Int) := of_decide_eq_true (by first | (with_reducible assumption) | assumption)
       have q492 : x6_1 < (l0.length : Int) := of_decide_eq_true (by first | (with_reducible assumption) | assumption)
       obtain ⟨ad492, A492_2, c492_2, A492_4, c492_4, e492, hx492_0, hx492_1, hx492_2, hx492_3, hx492_4, hx492_5, hl492_2, hi492_2, hl492_4, hi492_4⟩ := at_T25 HR0.out x6_1 p492 q492
       cases e492
       replace hx492_0 := (HB.out.cell (World.block_lt_of_cell? w _ hx492_0)).trans hx492_0
       replace hx492_1 := (HB.out.cell (World.block_lt_of_cell? w _ hx492_1)).trans hx492_1
       replace hx492_2 := (HB.out.cell (World.block_lt_of_cell? w _ hx492_2)).trans hx492_2
       replace hx492_3 := (HB.out.cell (World.block_lt_of_cell? w _ hx492_3)).trans hx492_3
       replace hx492_4 := (HB.out.cell (World.block_lt_of_cell? w _ hx492_4)).trans hx492_4
       replace hx492_5 := (HB.out.cell (World.block_lt_of_cell? w _ hx492_5)).trans hx492_5
       have HR492_2 := Aside0.mk hi492_2
       have HC492_2 := Aside0.mk hl492_2
       clear hi492_2 hl492_2
       have HR492_4 := Aside0.mk hi492_4
       have HC492_4 := Aside0.mk hl492_4
       clear hi492_4 hl492_4
       replace p492 := eq_true p492
       replace q492 := eq_true q492
       go_wp2_with (first | ((with_reducible refine gate_callee (f := 19) rfl ?_); refine goesL_ (some 23) rfl rfl Try.func19 (by kernel_rfl) rfl #[.agg #[.string ((rd_T25 l0 x6_1).f0), .int .i64 ((rd_T25 l0 x6_1).f1), .slice A492_2 ((rd_T25 l0 x6_1).f2).length c492_2, .int .i64 ((rd_T25 l0 x6_1).f3), .slice A492_4 ((rd_T25 l0 x6_1).f4).length c492_4, .int .i64 ((rd_T25 l0 x6_1).f5)]] rfl (by (try simp only [List.map_toArray, List.map_cons, List.map_nil]); first | done | rfl | (simp only [List.length_drop, List.length_take]; rfl)) ?_; (with_reducible refine (forebayref07_Normal.calls k1 ((rd_T25 l0 x6_1).f0) ((rd_T25 l0 x6_1).f1) _ _ ((rd_T25 l0 x6_1).f2) ((rd_T25 l0 x6_1).f3) _ _ ((rd_T25 l0 x6_1).f4) ((rd_T25 l0 x6_1).f5) t493 t494 t495 t498 t499 t502 t503 _ ?side1 ?side2 ?side3 ?side4 A5.out).mono ?_); (case side1 => repeat (first | exact (Kd.C_below HR492_2.out HB.out) | (with_reducible refine Kd.C_alloc ?_ _) | (with_reducible refine Kd.C_drewN ?_ _) | (with_reducible refine Kd.C_drew ?_))); (case side2 => exact HC492_2.out); (case side3 => repeat (first | exact (Kd.C_below HR492_4.out HB.out) | (with_reducible refine Kd.C_alloc ?_ _) | (with_reducible refine Kd.C_drewN ?_ _) | (with_reducible refine Kd.C_drew ?_))); (case side4 => exact HC492_4.out); rintro e w16 ⟨v496, v500, rfl, ho0, ho1, hb⟩; refine ⟨_, rfl, ?_⟩; have n0_ := Aside0.mk (Kd.S_mono (Kd.S_told (Kd.S_told (Kd.S_old (by (with_reducible repeat (first | apply Kd.S_alloc | apply Kd.S_drewN | apply Kd.S_drew)); exact HO_5.out) hb) (Kd.R_base ho0)) (Kd.R_base ho1)) (fun _ h_ => h_.1)); have n1_ := Aside0.mk (Kd.R_lower ho0 (below_size (by repeat (first | (with_reducible first | exact HB.out | apply below_alloc | apply pw_below_drewN | apply below_drew1) | exact HB.out)))); have n2_ := Aside0.mk (Kd.R_lower ho1 (below_size (by repeat (first | (with_reducible first | exact HB.out | apply below_alloc | apply pw_below_drewN | apply below_drew1) | exact HB.out)))); have n3_ := Aside0.mk (below_step (by repeat (first | (with_reducible first | exact HB.out | apply below_alloc | apply pw_below_drewN | apply below_drew1) | exact HB.out)) hb); clear HO_5; clear HB; have HO_5 := n0_; have HO497 := n1_; have HO501 := n2_; have HB := n3_; clear n0_ n1_ n2_ n3_; (try clear hb); (try clear hb2); (try clear hk); (try clear hi); (try clear ho0); (try clear ho1)) | ((with_reducible refine gate_dst (N := 7) rfl ?_); refine box_event ?hg (N := 7) ?hd (cs := #[.string (⟨#[]⟩ : ByteArray), .int .i64 0, .slice none 0 0, .int .i64 0, .slice none 0 0, .int .i64 0]) (t := 25) ?hr ?_; (case hd => rfl); (case hg => rfl); (case hr => first | (go_simp; done) | (go_simp; rfl)); intro gb504 hg w17 hbox hb; have n0_ := Aside0.mk (Kd.S_below (Kd.S_elderB (by (with_reducible repeat (first | apply Kd.S_alloc | apply Kd.S_drewN | apply Kd.S_drew)); exact HO_5.out) gb504 (Nat.le_of_eq hg.symm)) hb); have n1_ := Aside0.mk (Kd.R_below (by (with_reducible repeat (first | apply Kd.R_alloc | apply Kd.R_drewN | apply Kd.R_drew)); exact HO497.out) hb); have n2_ := Aside0.mk (Kd.R_below (by (with_reducible repeat (first | apply Kd.R_alloc | apply Kd.R_drewN | apply Kd.R_drew)); exact HO501.out) hb); have n3_ := Aside0.mk (below_step (by repeat (first | (with_reducible first | exact HB.out | apply below_alloc | apply pw_below_drewN | apply below_drew1) | exact HB.out)) hb); have n4_ := Aside0.mk (hbox); have n5_ := Aside0.mk ((by rw [hg]; exact (below_size (by repeat (first | (with_reducible first | exact HB.out | apply below_alloc | apply pw_below_drewN | apply below_drew1) | exact HB.out))) : w.heap.size ≤ gb504)); have n6_ := Aside0.mk ((by rw [hg]; exact (below_size (by repeat (first | (with_reducible first | exact HB.out | apply below_alloc | apply pw_below_drewN | apply below_drew1) | exact HB.out))) : w.heap.size ≤ gb504)); clear HO_5; clear HO497; clear HO501; clear HB; have HO_5 := n0_; have HO497 := n1_; have HO501 := n2_; have HB := n3_; have BK504 := n4_; have GW504 := n5_; have GE504 := n6_; clear n0_ n1_ n2_ n3_ n4_ n5_ n6_; clear hb hbox hg; have hcz18_0 : w17.cell? ⟨gb504, 0, none⟩ = some (.string (⟨#[]⟩ : ByteArray)) := (blk_cell BK504.out 0).trans rfl; have hcz18_1 : w17.cell? ⟨gb504, 1, none⟩ = some (.int .i64 0) := (blk_cell BK504.out 1).trans rfl; have hcz18_2 : w17.cell? ⟨gb504, 2, none⟩ = some (.slice none 0 0) := (blk_cell BK504.out 2).trans rfl; have hcz18_3 : w17.cell? ⟨gb504, 3, none⟩ = some (.int .i64 0) := (blk_cell BK504.out 3).trans rfl; have hcz18_4 : w17.cell? ⟨gb504, 4, none⟩ = some (.slice none 0 0) := (blk_cell BK504.out 4).trans rfl; have hcz18_5 : w17.cell? ⟨gb504, 5, none⟩ = some (.int .i64 0) := (blk_cell BK504.out 5).trans rfl; have hfz18_0 := blk_frozen BK504.out 0; have hfz18_1 := blk_frozen BK504.out 1; have hfz18_2 := blk_frozen BK504.out 2; have hfz18_3 := blk_frozen BK504.out 3; have hfz18_4 := blk_frozen BK504.out 4; have hfz18_5 := blk_frozen BK504.out 5; obtain ⟨Ao19, co19, eo19⟩ := Kd.R_slice HO497.out; subst eo19; obtain ⟨Ao20, co20, eo20⟩ := Kd.R_slice HO501.out; subst eo20))
       go_ret3
       exact ⟨_, by first | rfl | (simp [errW_none, errW_some] <;> rfl) | (simp [*, errW_none, errW_some] <;> rfl), by first | exact Kd.S_nil _ _ _ _ _ | exact Kd.N_nil _ _ _ _ _ | exact Kd.V_nil _ _ _ _ _ | exact Kd.Q_nil _ _ _ _ _ | exact Kd.R_nil _ _ _ _ _, by repeat (first | (with_reducible first | exact HB.out | apply below_alloc | apply pw_below_drewN | apply below_drew1 | refine below_set ?_ GE504.out) | exact HB.out)⟩
     ·rw [if_neg c4] at H
      exact absurd H (by simp)
    ·rw [if_neg c3] at H
     have c3b0 : decide (x6_1 < (l0.length : Int)) = false := decide_eq_false c3
     clear c3
     simp only [Option.some.injEq, Prod.mk.injEq] at H
     obtain ⟨rfl, rfl, rfl⟩ := H
     go_wp2
     go_ret3
     exact ⟨_, by first | rfl | (simp [errW_none, errW_some] <;> rfl) | (simp [*, errW_none, errW_some] <;> rfl), by (with_reducible repeat (first | apply Kd.S_alloc | apply Kd.S_drewN | apply Kd.S_drew)); exact HO_5.out, by repeat (first | (with_reducible first | exact HB.out | apply below_alloc | apply pw_below_drewN | apply below_drew1) | exact HB.out)⟩
/-! ### forebayref08_Equal: function 34 -/
def forebayref08_Equal.l0 : Nat → List (S25) → List (S25) → Int → Option (Bool)
 | 0, _, _, _ => none
 | k + 1, x0, x1, x5 => if x5 < (x0.length : Int) then (if 0 ≤ x5 then (if x5 < (x1.length : Int) then ((forebayref07_Equal.f k ((rd_T25 x0 x5).f0) ((rd_T25 x0 x5).f1) ((rd_T25 x0 x5).f2) ((rd_T25 x0 x5).f3) ((rd_T25 x0 x5).f4) ((rd_T25 x0 x5).f5) ((rd_T25 x1 x5).f0) ((rd_T25 x1 x5).f1) ((rd_T25 x1 x5).f2) ((rd_T25 x1 x5).f3) ((rd_T25 x1 x5).f4) ((rd_T25 x1 x5).f5)).bind fun t510 => (if t510 = true then (forebayref08_Equal.l0 k x0 x1 (wrap64 (x5 + 1))) else (some false))) else (none)) else (none)) else (some true)
def forebayref08_Equal.f (k : Nat) (l0 : List (S25)) (l1 : List (S25)) : Option (Bool) := if (l0.length : Int) = (l1.length : Int) then (forebayref08_Equal.l0 k l0 l1 0) else (some false)
def forebayref08_Equal.T6 : Bool × List (List Nat × List Nat) := (true, [([], []), ([], []), ([0, 1], [0, 1]), ([2], [2]), ([], []), ([], []), ([4, 5], [4, 5]), ([6], [6]), ([3, 7], [3, 7]), ([8], [8])])
def forebayref08_Equal.B6 : List Nat := [0, 0, 3, 7, 0, 0, 48, 112, 255, 511]
theorem forebayref08_Equal.tab6 : rtab .any (opsOf Try.f34 6) = forebayref08_Equal.T6 := by kernel_rfl
theorem forebayref08_Equal.bits6 : waitsOk forebayref08_Equal.T6.2 forebayref08_Equal.B6 = true := by kernel_rfl
set_option maxHeartbeats 8000000 in
set_option maxRecDepth 100000 in
theorem forebayref08_Equal.calls (k : Nat) (A0 : Option Addr) (c0 : Nat) (l0 : List (S25)) (A1 : Option Addr) (c1 : Nat) (l1 : List (S25)) (r : Bool) (w : World) (hr0 : Kd.C k25 w A0 l0.length l0) (hc0 : l0.length ≤ c0) (hr1 : Kd.C k25 w A1 l1.length l1) (hc1 : l1.length ≤ c1) (h : forebayref08_Equal.f k l0 l1 = some r) :
  Calls Try.prog 34 #[.slice A0 l0.length c0, .slice A1 l1.length c1] w fun e w' => e = .returned (.bool r) ∧ Below w.heap.size w w' := by
 have hu25 := Try.underlying25
 have HR0 := Aside0.mk hr0
 have HC0 := Aside0.mk hc0
 clear hr0 hc0
 have HR1 := Aside0.mk hr1
 have HC1 := Aside0.mk hc1
 clear hr1 hc1
 have HB := Aside0.mk (Below.refl w.heap.size w)
 have H : (if (l0.length : Int) = (l1.length : Int) then (forebayref08_Equal.l0 k l0 l1 0) else (some false)) = some r := h
 clear h
 by_cases c3 : (l0.length : Int) = (l1.length : Int)
 ·rw [if_pos c3] at H
  have c3b0 : ((l0.length : Int) == (l1.length : Int)) = true := beq_iff_eq.mpr c3
  have c3b1 : ((l0.length : Int) != (l1.length : Int)) = false := bne_eq_false_iff_eq.mpr c3
  have c3b2 : (l0.length == l1.length) = true := by first | simpa using c3 | (simp at c3 ⊢; omega)
  clear c3
  have H' := Aside0.mk H
  clear H
  go_enter Try.func34, Try.ntmps34
  go_wp2
  go_loopg [5] k (fun kq v5 w' => ∃ (x5_1 : Int), v5 = .int .i64 x5_1 ∧ Aside0 (forebayref08_Equal.l0 kq l0 l1 x5_1 = some r) ∧ Aside0 (kq ≤ k) ∧ Aside0 (Below w.heap.size w w'))
  case atStart => exact ⟨(0), (by first | rfl | (simp; done) | (simp [*]; done)), H', ⟨Nat.le_refl _⟩, ⟨by repeat (first | (with_reducible first | exact HB.out | apply below_alloc | apply pw_below_drewN | apply below_drew1) | exact HB.out)⟩⟩
  case round =>
   clear H'
   try clear c1
   try clear p2
   try clear c3
   try clear c3b0
   try clear c3b1
   try clear c3b2
   obtain ⟨x5_1, rfl, HA, HK1, HB⟩ := hrel
   cases gk with
   | zero => exact absurd HA.out (by simp [forebayref08_Equal.l0])
   | succ k1 =>
    have H := HA.out
    clear HA
    simp only [forebayref08_Equal.l0] at H
    by_cases c4 : x5_1 < (l0.length : Int)
    ·rw [if_pos c4] at H
     have c4b0 : decide (x5_1 < (l0.length : Int)) = true := decide_eq_true c4
     clear c4
     by_cases c5 : 0 ≤ x5_1
     ·rw [if_pos c5] at H
      have c5b0 : decide (0 ≤ x5_1) = true := decide_eq_true c5
      clear c5
      by_cases c6 : x5_1 < (l1.length : Int)
      ·rw [if_pos c6] at H
       have c6b0 : decide (x5_1 < (l1.length : Int)) = true := decide_eq_true c6
       clear c6
       replace H := Option.bind_eq_some_iff.mp H
       obtain ⟨t510, A70, H⟩ := H
       replace H : (if t510 = true then (forebayref08_Equal.l0 k1 l0 l1 (wrap64 (x5_1 + 1))) else (some false)) = some r := H
       have A7 := Aside0.mk A70
       clear A70
       by_cases c8 : t510 = true
       ·subst c8
        have H1 : (forebayref08_Equal.l0 k1 l0 l1 (wrap64 (x5_1 + 1))) = some r := by rw [if_pos rfl] at H; exact H
        clear H
        have H := H1
        clear H1
        have H' := Aside0.mk H
        clear H
        try go_wp2
        have n0_ := Aside0.mk (below_drew1 HB.out)
        clear HB
        have HB := n0_
        clear n0_
        have p508 : 0 ≤ (x5_1 : Int) := of_decide_eq_true (by first | (with_reducible assumption) | assumption)
        have q508 : x5_1 < (l0.length : Int) := of_decide_eq_true (by first | (with_reducible assumption) | assumption)
        obtain ⟨ad508, A508_2, c508_2, A508_4, c508_4, e508, hx508_0, hx508_1, hx508_2, hx508_3, hx508_4, hx508_5, hl508_2, hi508_2, hl508_4, hi508_4⟩ := at_T25 HR0.out x5_1 p508 q508
        have hw508_5 := hx508_5
        have hw508_4 := hx508_4
        have hw508_3 := hx508_3
        have hw508_2 := hx508_2
        have hw508_1 := hx508_1
        have hw508_0 := hx508_0
        cases e508
        replace hx508_0 := (HB.out.cell (World.block_lt_of_cell? w _ hx508_0)).trans hx508_0
        replace hx508_1 := (HB.out.cell (World.block_lt_of_cell? w _ hx508_1)).trans hx508_1
        replace hx508_2 := (HB.out.cell (World.block_lt_of_cell? w _ hx508_2)).trans hx508_2
        replace hx508_3 := (HB.out.cell (World.block_lt_of_cell? w _ hx508_3)).trans hx508_3
        replace hx508_4 := (HB.out.cell (World.block_lt_of_cell? w _ hx508_4)).trans hx508_4
        replace hx508_5 := (HB.out.cell (World.block_lt_of_cell? w _ hx508_5)).trans hx508_5
        have HR508_2 := Aside0.mk hi508_2
        have HC508_2 := Aside0.mk hl508_2
        clear hi508_2 hl508_2
        have HR508_4 := Aside0.mk hi508_4
        have HC508_4 := Aside0.mk hl508_4
        clear hi508_4 hl508_4
        replace p508 := eq_true p508
        replace q508 := eq_true q508
        have p509 : 0 ≤ (x5_1 : Int) := of_decide_eq_true (by first | (with_reducible assumption) | assumption)
        have q509 : x5_1 < (l1.length : Int) := of_decide_eq_true (by first | (with_reducible assumption) | assumption)
        obtain ⟨ad509, A509_2, c509_2, A509_4, c509_4, e509, hx509_0, hx509_1, hx509_2, hx509_3, hx509_4, hx509_5, hl509_2, hi509_2, hl509_4, hi509_4⟩ := at_T25 HR1.out x5_1 p509 q509
        have hw509_5 := hx509_5
        have hw509_4 := hx509_4
        have hw509_3 := hx509_3
        have hw509_2 := hx509_2
        have hw509_1 := hx509_1
        have hw509_0 := hx509_0
        cases e509
        replace hx509_0 := (HB.out.cell (World.block_lt_of_cell? w _ hx509_0)).trans hx509_0
        replace hx509_1 := (HB.out.cell (World.block_lt_of_cell? w _ hx509_1)).trans hx509_1
        replace hx509_2 := (HB.out.cell (World.block_lt_of_cell? w _ hx509_2)).trans hx509_2
        replace hx509_3 := (HB.out.cell (World.block_lt_of_cell? w _ hx509_3)).trans hx509_3
        replace hx509_4 := (HB.out.cell (World.block_lt_of_cell? w _ hx509_4)).trans hx509_4
        replace hx509_5 := (HB.out.cell (World.block_lt_of_cell? w _ hx509_5)).trans hx509_5
        have HR509_2 := Aside0.mk hi509_2
        have HC509_2 := Aside0.mk hl509_2
        clear hi509_2 hl509_2
        have HR509_4 := Aside0.mk hi509_4
        have HC509_4 := Aside0.mk hl509_4
        clear hi509_4 hl509_4
        replace p509 := eq_true p509
        replace q509 := eq_true q509
        refine start_ (n := 10) (S := fun w' => w'.cell? (ad508.add ((x5_1).toNat * 6)) = some (.string ((rd_T25 l0 x5_1).f0)) ∧ w'.cell? ⟨(ad508.add ((x5_1).toNat * 6)).block, (ad508.add ((x5_1).toNat * 6)).off + 1, none⟩ = some (.int .i64 ((rd_T25 l0 x5_1).f1)) ∧ w'.cell? ⟨(ad508.add ((x5_1).toNat * 6)).block, (ad508.add ((x5_1).toNat * 6)).off + 2, none⟩ = some (.slice A508_2 ((rd_T25 l0 x5_1).f2).length c508_2) ∧ w'.cell? ⟨(ad508.add ((x5_1).toNat * 6)).block, (ad508.add ((x5_1).toNat * 6)).off + 3, none⟩ = some (.int .i64 ((rd_T25 l0 x5_1).f3)) ∧ w'.cell? ⟨(ad508.add ((x5_1).toNat * 6)).block, (ad508.add ((x5_1).toNat * 6)).off + 4, none⟩ = some (.slice A508_4 ((rd_T25 l0 x5_1).f4).length c508_4) ∧ w'.cell? ⟨(ad508.add ((x5_1).toNat * 6)).block, (ad508.add ((x5_1).toNat * 6)).off + 5, none⟩ = some (.int .i64 ((rd_T25 l0 x5_1).f5)) ∧ w'.cell? (ad509.add ((x5_1).toNat * 6)) = some (.string ((rd_T25 l1 x5_1).f0)) ∧ w'.cell? ⟨(ad509.add ((x5_1).toNat * 6)).block, (ad509.add ((x5_1).toNat * 6)).off + 1, none⟩ = some (.int .i64 ((rd_T25 l1 x5_1).f1)) ∧ w'.cell? ⟨(ad509.add ((x5_1).toNat * 6)).block, (ad509.add ((x5_1).toNat * 6)).off + 2, none⟩ = some (.slice A509_2 ((rd_T25 l1 x5_1).f2).length c509_2) ∧ w'.cell? ⟨(ad509.add ((x5_1).toNat * 6)).block, (ad509.add ((x5_1).toNat * 6)).off + 3, none⟩ = some (.int .i64 ((rd_T25 l1 x5_1).f3)) ∧ w'.cell? ⟨(ad509.add ((x5_1).toNat * 6)).block, (ad509.add ((x5_1).toNat * 6)).off + 4, none⟩ = some (.slice A509_4 ((rd_T25 l1 x5_1).f4).length c509_4) ∧ w'.cell? ⟨(ad509.add ((x5_1).toNat * 6)).block, (ad509.add ((x5_1).toNat * 6)).off + 5, none⟩ = some (.int .i64 ((rd_T25 l1 x5_1).f5))) (ds := []) #[false, false, false, false, false, false, false, false, false, false] (by kernel_rfl) rfl rfl ⟨((HB.out.cell (World.block_lt_of_cell? w _ hw508_0)).trans hw508_0), ((HB.out.cell (World.block_lt_of_cell? w _ hw508_1)).trans hw508_1), ((HB.out.cell (World.block_lt_of_cell? w _ hw508_2)).trans hw508_2), ((HB.out.cell (World.block_lt_of_cell? w _ hw508_3)).trans hw508_3), ((HB.out.cell (World.block_lt_of_cell? w _ hw508_4)).trans hw508_4), ((HB.out.cell (World.block_lt_of_cell? w _ hw508_5)).trans hw508_5), ((HB.out.cell (World.block_lt_of_cell? w _ hw509_0)).trans hw509_0), ((HB.out.cell (World.block_lt_of_cell? w _ hw509_1)).trans hw509_1), ((HB.out.cell (World.block_lt_of_cell? w _ hw509_2)).trans hw509_2), ((HB.out.cell (World.block_lt_of_cell? w _ hw509_3)).trans hw509_3), ((HB.out.cell (World.block_lt_of_cell? w _ hw509_4)).trans hw509_4), ((HB.out.cell (World.block_lt_of_cell? w _ hw509_5)).trans hw509_5)⟩ (fun hHeld => ?_); refine with_tabW forebayref08_Equal.tab6 forebayref08_Equal.bits6 (fun HT_ HW_ => ?_)
        generalize wr.drew = w9 at HB HR508_2 HR508_4 HR509_2 HR509_4 hx508_0 hx508_1 hx508_2 hx508_3 hx508_4 hx508_5 hx509_0 hx509_1 hx509_2 hx509_3 hx509_4 hx509_5 hHeld ⊢
        refine pure_ (i := 0) (N := some 17) (v := ?_) (a' := ?_) #[true, false, false, false, false, false, false, false, false, false] rfl rfl (any_of HT_.out (by kernel_rfl)) (fun _ _ _ h => h) (Or.inl ⟨by rfl, ?_⟩) ?_ ?_
        rotate_left
        ·intro w'
         go_simp
         with_reducible rfl
        rotate_left
        ·simp only [Act.put, List.setIfInBounds_toArray, List.set_cons_zero, List.set_cons_succ, i64_w, i32_w]
         rfl
        refine pure_ (i := 1) (N := some 18) (v := ?_) (a' := ?_) #[true, true, false, false, false, false, false, false, false, false] rfl rfl (any_of HT_.out (by kernel_rfl)) (fun _ _ _ h => h) (Or.inl ⟨by rfl, ?_⟩) ?_ ?_
        rotate_left
        ·intro w'
         go_simp
         with_reducible rfl
        rotate_left
        ·simp only [Act.put, List.setIfInBounds_toArray, List.set_cons_zero, List.set_cons_succ, i64_w, i32_w]
         rfl
        refine pure_ (i := 2) (N := some 19) (v := ?_) (a' := ?_) #[true, true, true, false, false, false, false, false, false, false] rfl rfl (any_of HT_.out (by kernel_rfl)) (fun _ _ _ h => h) (Or.inl ⟨by rfl, ?_⟩) ?_ ?_
        rotate_left
        ·intro w'
         go_simp
         with_reducible rfl
        rotate_left
        ·simp only [Act.put, List.setIfInBounds_toArray, List.set_cons_zero, List.set_cons_succ, i64_w, i32_w]
         rfl
        refine pure_ (i := 4) (N := some 21) (v := ?_) (a' := ?_) #[true, true, true, false, true, false, false, false, false, false] rfl rfl (any_of HT_.out (by kernel_rfl)) (fun _ _ _ h => h) (Or.inl ⟨by rfl, ?_⟩) ?_ ?_
        rotate_left
        ·intro w'
         go_simp
         with_reducible rfl
        rotate_left
        ·simp only [Act.put, List.setIfInBounds_toArray, List.set_cons_zero, List.set_cons_succ, i64_w, i32_w]
         rfl
        refine pure_ (i := 5) (N := some 22) (v := ?_) (a' := ?_) #[true, true, true, false, true, true, false, false, false, false] rfl rfl (any_of HT_.out (by kernel_rfl)) (fun _ _ _ h => h) (Or.inl ⟨by rfl, ?_⟩) ?_ ?_
        rotate_left
        ·intro w'
         go_simp
         with_reducible rfl
        rotate_left
        ·simp only [Act.put, List.setIfInBounds_toArray, List.set_cons_zero, List.set_cons_succ, i64_w, i32_w]
         rfl
        refine pure_ (i := 6) (N := some 23) (v := ?_) (a' := ?_) #[true, true, true, false, true, true, true, false, false, false] rfl rfl (any_of HT_.out (by kernel_rfl)) (fun _ _ _ h => h) (Or.inl ⟨by rfl, ?_⟩) ?_ ?_
        rotate_left
        ·intro w'
         go_simp
         with_reducible rfl
        rotate_left
        ·simp only [Act.put, List.setIfInBounds_toArray, List.set_cons_zero, List.set_cons_succ, i64_w, i32_w]
         rfl
        refine take_ (i := 3) (N := some 20) (v := ?_) (a' := ?_) #[true, true, true, true, true, true, true, false, false, false] rfl rfl (take_ofW HT_.out HW_.out (by kernel_rfl)) (fun _ _ _ h => h) (Or.inl ⟨by rfl, ?_⟩) hHeld ?_ ?_
        rotate_left
        ·rintro w' ⟨s0, s1, s2, s3, s4, s5, s6, s7, s8, s9, s10, s11⟩
         go_simp
         with_reducible rfl
        rotate_left
        ·simp only [Act.put, List.setIfInBounds_toArray, List.set_cons_zero, List.set_cons_succ, i64_w, i32_w]
         rfl
        refine take_ (i := 7) (N := some 24) (v := ?_) (a' := ?_) #[true, true, true, true, true, true, true, true, false, false] rfl rfl (take_ofW HT_.out HW_.out (by kernel_rfl)) (fun _ _ _ h => h) (Or.inl ⟨by rfl, ?_⟩) hHeld ?_ ?_
        rotate_left
        ·rintro w' ⟨s0, s1, s2, s3, s4, s5, s6, s7, s8, s9, s10, s11⟩
         go_simp
         with_reducible rfl
        rotate_left
        ·simp only [Act.put, List.setIfInBounds_toArray, List.set_cons_zero, List.set_cons_succ, i64_w, i32_w]
         rfl
        refine one_ (i := 8) (N := some 25) #[true, true, true, true, true, true, true, true, true, false] rfl rfl (one_of HT_.out (by kernel_rfl)) (by decide) (fun K hK => ?_)
        refine goes_ Try.func20 (by kernel_rfl) rfl #[.agg #[.string ((rd_T25 l0 x5_1).f0), .int .i64 ((rd_T25 l0 x5_1).f1), .slice A508_2 ((rd_T25 l0 x5_1).f2).length c508_2, .int .i64 ((rd_T25 l0 x5_1).f3), .slice A508_4 ((rd_T25 l0 x5_1).f4).length c508_4, .int .i64 ((rd_T25 l0 x5_1).f5)], .agg #[.string ((rd_T25 l1 x5_1).f0), .int .i64 ((rd_T25 l1 x5_1).f1), .slice A509_2 ((rd_T25 l1 x5_1).f2).length c509_2, .int .i64 ((rd_T25 l1 x5_1).f3), .slice A509_4 ((rd_T25 l1 x5_1).f4).length c509_4, .int .i64 ((rd_T25 l1 x5_1).f5)]] (by rfl) rfl rfl (by (try simp only [List.map_toArray, List.map_cons, List.map_nil]); first | done | rfl | (simp only [List.length_drop, List.length_take]; rfl)) ?_
        with_reducible refine (forebayref07_Equal.calls k1 ((rd_T25 l0 x5_1).f0) ((rd_T25 l0 x5_1).f1) _ _ ((rd_T25 l0 x5_1).f2) ((rd_T25 l0 x5_1).f3) _ _ ((rd_T25 l0 x5_1).f4) ((rd_T25 l0 x5_1).f5) ((rd_T25 l1 x5_1).f0) ((rd_T25 l1 x5_1).f1) _ _ ((rd_T25 l1 x5_1).f2) ((rd_T25 l1 x5_1).f3) _ _ ((rd_T25 l1 x5_1).f4) ((rd_T25 l1 x5_1).f5) true _ ?side1 ?side2 ?side3 ?side4 ?side5 ?side6 ?side7 ?side8 A7.out).mono ?_
        (case side1 => repeat (first | exact (Kd.C_below HR508_2.out HB.out) | (with_reducible refine Kd.C_alloc ?_ _) | (with_reducible refine Kd.C_drewN ?_ _) | (with_reducible refine Kd.C_drew ?_)))
        (case side2 => exact HC508_2.out)
        (case side3 => repeat (first | exact (Kd.C_below HR508_4.out HB.out) | (with_reducible refine Kd.C_alloc ?_ _) | (with_reducible refine Kd.C_drewN ?_ _) | (with_reducible refine Kd.C_drew ?_)))
        (case side4 => exact HC508_4.out)
        (case side5 => repeat (first | exact (Kd.C_below HR509_2.out HB.out) | (with_reducible refine Kd.C_alloc ?_ _) | (with_reducible refine Kd.C_drewN ?_ _) | (with_reducible refine Kd.C_drew ?_)))
        (case side6 => exact HC509_2.out)
        (case side7 => repeat (first | exact (Kd.C_below HR509_4.out HB.out) | (with_reducible refine Kd.C_alloc ?_ _) | (with_reducible refine Kd.C_drewN ?_ _) | (with_reducible refine Kd.C_drew ?_)))
        (case side8 => exact HC509_4.out)
        rintro e w10 ⟨rfl, hb⟩
        refine ⟨_, rfl, ?_⟩
        have n0_ := Aside0.mk (below_step (by repeat (first | (with_reducible first | exact HB.out | apply below_alloc | apply pw_below_drewN | apply below_drew1) | exact HB.out)) hb)
        clear HB
        have HB := n0_
        clear n0_
        (try clear hb)
        (try clear hb2)
        (try clear hk)
        (try clear hi)
        refine hK.out _ _ ⟨((HB.out.cell (World.block_lt_of_cell? w _ hw508_0)).trans hw508_0), ((HB.out.cell (World.block_lt_of_cell? w _ hw508_1)).trans hw508_1), ((HB.out.cell (World.block_lt_of_cell? w _ hw508_2)).trans hw508_2), ((HB.out.cell (World.block_lt_of_cell? w _ hw508_3)).trans hw508_3), ((HB.out.cell (World.block_lt_of_cell? w _ hw508_4)).trans hw508_4), ((HB.out.cell (World.block_lt_of_cell? w _ hw508_5)).trans hw508_5), ((HB.out.cell (World.block_lt_of_cell? w _ hw509_0)).trans hw509_0), ((HB.out.cell (World.block_lt_of_cell? w _ hw509_1)).trans hw509_1), ((HB.out.cell (World.block_lt_of_cell? w _ hw509_2)).trans hw509_2), ((HB.out.cell (World.block_lt_of_cell? w _ hw509_3)).trans hw509_3), ((HB.out.cell (World.block_lt_of_cell? w _ hw509_4)).trans hw509_4), ((HB.out.cell (World.block_lt_of_cell? w _ hw509_5)).trans hw509_5)⟩ (fun hHeld => ?_)
        clear hK K
        refine norm_ (a' := ?_) ?_ ?_
        rotate_left
        ·show Act.put _ (some 25) _ = _
         simp only [Act.put, List.setIfInBounds_toArray, List.set_cons_zero, List.set_cons_succ, i64_w, i32_w]
         rfl
        refine pure_ (i := 9) (N := some 26) (v := ?_) (a' := ?_) #[true, true, true, true, true, true, true, true, true, true] rfl rfl (any_of HT_.out (by kernel_rfl)) (fun _ _ _ h => h) (Or.inl ⟨by rfl, ?_⟩) ?_ ?_
        rotate_left
        ·intro w'
         go_simp
         with_reducible rfl
        rotate_left
        ·simp only [Act.put, List.setIfInBounds_toArray, List.set_cons_zero, List.set_cons_succ, i64_w, i32_w]
         rfl
        refine done_ (done_of HT_.out (by kernel_rfl)) ?_
        try go_wp2
        go_roundg k1
        case measure => have := HK1.out; omega
        case rel => exact ⟨(wrap64 (x5_1 + 1)), (by first | rfl | (simp; done) | (simp [*]; done)), H', ⟨by have := HK1.out; omega⟩, ⟨by repeat (first | (with_reducible first | exact HB.out | apply below_alloc | apply pw_below_drewN | apply below_drew1) | exact HB.out)⟩⟩
       ·replace c8 := Bool.eq_false_iff.mpr c8
        subst c8
        have H1 : (some false) = some r := by rw [if_neg (show ¬ (false = true) by decide)] at H; exact H
        clear H
        have H := H1
        clear H1
        obtain rfl := Option.some.inj H
        try go_wp2
        have n0_ := Aside0.mk (below_drew1 HB.out)
        clear HB
        have HB := n0_
        clear n0_
        have p508 : 0 ≤ (x5_1 : Int) := of_decide_eq_true (by first | (with_reducible assumption) | assumption)
        have q508 : x5_1 < (l0.length : Int) := of_decide_eq_true (by first | (with_reducible assumption) | assumption)
        obtain ⟨ad508, A508_2, c508_2, A508_4, c508_4, e508, hx508_0, hx508_1, hx508_2, hx508_3, hx508_4, hx508_5, hl508_2, hi508_2, hl508_4, hi508_4⟩ := at_T25 HR0.out x5_1 p508 q508
        have hw508_5 := hx508_5
        have hw508_4 := hx508_4
        have hw508_3 := hx508_3
        have hw508_2 := hx508_2
        have hw508_1 := hx508_1
        have hw508_0 := hx508_0
        cases e508
        replace hx508_0 := (HB.out.cell (World.block_lt_of_cell? w _ hx508_0)).trans hx508_0
        replace hx508_1 := (HB.out.cell (World.block_lt_of_cell? w _ hx508_1)).trans hx508_1
        replace hx508_2 := (HB.out.cell (World.block_lt_of_cell? w _ hx508_2)).trans hx508_2
        replace hx508_3 := (HB.out.cell (World.block_lt_of_cell? w _ hx508_3)).trans hx508_3
        replace hx508_4 := (HB.out.cell (World.block_lt_of_cell? w _ hx508_4)).trans hx508_4
        replace hx508_5 := (HB.out.cell (World.block_lt_of_cell? w _ hx508_5)).trans hx508_5
        have HR508_2 := Aside0.mk hi508_2
        have HC508_2 := Aside0.mk hl508_2
        clear hi508_2 hl508_2
        have HR508_4 := Aside0.mk hi508_4
        have HC508_4 := Aside0.mk hl508_4
        clear hi508_4 hl508_4
        replace p508 := eq_true p508
        replace q508 := eq_true q508
        have p509 : 0 ≤ (x5_1 : Int) := of_decide_eq_true (by first | (with_reducible assumption) | assumption)
        have q509 : x5_1 < (l1.length : Int) := of_decide_eq_true (by first | (with_reducible assumption) | assumption)
        obtain ⟨ad509, A509_2, c509_2, A509_4, c509_4, e509, hx509_0, hx509_1, hx509_2, hx509_3, hx509_4, hx509_5, hl509_2, hi509_2, hl509_4, hi509_4⟩ := at_T25 HR1.out x5_1 p509 q509
        have hw509_5 := hx509_5
        have hw509_4 := hx509_4
        have hw509_3 := hx509_3
        have hw509_2 := hx509_2
        have hw509_1 := hx509_1
        have hw509_0 := hx509_0
        cases e509
        replace hx509_0 := (HB.out.cell (World.block_lt_of_cell? w _ hx509_0)).trans hx509_0
        replace hx509_1 := (HB.out.cell (World.block_lt_of_cell? w _ hx509_1)).trans hx509_1
        replace hx509_2 := (HB.out.cell (World.block_lt_of_cell? w _ hx509_2)).trans hx509_2
        replace hx509_3 := (HB.out.cell (World.block_lt_of_cell? w _ hx509_3)).trans hx509_3
        replace hx509_4 := (HB.out.cell (World.block_lt_of_cell? w _ hx509_4)).trans hx509_4
        replace hx509_5 := (HB.out.cell (World.block_lt_of_cell? w _ hx509_5)).trans hx509_5
        have HR509_2 := Aside0.mk hi509_2
        have HC509_2 := Aside0.mk hl509_2
        clear hi509_2 hl509_2
        have HR509_4 := Aside0.mk hi509_4
        have HC509_4 := Aside0.mk hl509_4
        clear hi509_4 hl509_4
        replace p509 := eq_true p509
        replace q509 := eq_true q509
        refine start_ (n := 10) (S := fun w' => w'.cell? (ad508.add ((x5_1).toNat * 6)) = some (.string ((rd_T25 l0 x5_1).f0)) ∧ w'.cell? ⟨(ad508.add ((x5_1).toNat * 6)).block, (ad508.add ((x5_1).toNat * 6)).off + 1, none⟩ = some (.int .i64 ((rd_T25 l0 x5_1).f1)) ∧ w'.cell? ⟨(ad508.add ((x5_1).toNat * 6)).block, (ad508.add ((x5_1).toNat * 6)).off + 2, none⟩ = some (.slice A508_2 ((rd_T25 l0 x5_1).f2).length c508_2) ∧ w'.cell? ⟨(ad508.add ((x5_1).toNat * 6)).block, (ad508.add ((x5_1).toNat * 6)).off + 3, none⟩ = some (.int .i64 ((rd_T25 l0 x5_1).f3)) ∧ w'.cell? ⟨(ad508.add ((x5_1).toNat * 6)).block, (ad508.add ((x5_1).toNat * 6)).off + 4, none⟩ = some (.slice A508_4 ((rd_T25 l0 x5_1).f4).length c508_4) ∧ w'.cell? ⟨(ad508.add ((x5_1).toNat * 6)).block, (ad508.add ((x5_1).toNat * 6)).off + 5, none⟩ = some (.int .i64 ((rd_T25 l0 x5_1).f5)) ∧ w'.cell? (ad509.add ((x5_1).toNat * 6)) = some (.string ((rd_T25 l1 x5_1).f0)) ∧ w'.cell? ⟨(ad509.add ((x5_1).toNat * 6)).block, (ad509.add ((x5_1).toNat * 6)).off + 1, none⟩ = some (.int .i64 ((rd_T25 l1 x5_1).f1)) ∧ w'.cell? ⟨(ad509.add ((x5_1).toNat * 6)).block, (ad509.add ((x5_1).toNat * 6)).off + 2, none⟩ = some (.slice A509_2 ((rd_T25 l1 x5_1).f2).length c509_2) ∧ w'.cell? ⟨(ad509.add ((x5_1).toNat * 6)).block, (ad509.add ((x5_1).toNat * 6)).off + 3, none⟩ = some (.int .i64 ((rd_T25 l1 x5_1).f3)) ∧ w'.cell? ⟨(ad509.add ((x5_1).toNat * 6)).block, (ad509.add ((x5_1).toNat * 6)).off + 4, none⟩ = some (.slice A509_4 ((rd_T25 l1 x5_1).f4).length c509_4) ∧ w'.cell? ⟨(ad509.add ((x5_1).toNat * 6)).block, (ad509.add ((x5_1).toNat * 6)).off + 5, none⟩ = some (.int .i64 ((rd_T25 l1 x5_1).f5))) (ds := []) #[false, false, false, false, false, false, false, false, false, false] (by kernel_rfl) rfl rfl ⟨((HB.out.cell (World.block_lt_of_cell? w _ hw508_0)).trans hw508_0), ((HB.out.cell (World.block_lt_of_cell? w _ hw508_1)).trans hw508_1), ((HB.out.cell (World.block_lt_of_cell? w _ hw508_2)).trans hw508_2), ((HB.out.cell (World.block_lt_of_cell? w _ hw508_3)).trans hw508_3), ((HB.out.cell (World.block_lt_of_cell? w _ hw508_4)).trans hw508_4), ((HB.out.cell (World.block_lt_of_cell? w _ hw508_5)).trans hw508_5), ((HB.out.cell (World.block_lt_of_cell? w _ hw509_0)).trans hw509_0), ((HB.out.cell (World.block_lt_of_cell? w _ hw509_1)).trans hw509_1), ((HB.out.cell (World.block_lt_of_cell? w _ hw509_2)).trans hw509_2), ((HB.out.cell (World.block_lt_of_cell? w _ hw509_3)).trans hw509_3), ((HB.out.cell (World.block_lt_of_cell? w _ hw509_4)).trans hw509_4), ((HB.out.cell (World.block_lt_of_cell? w _ hw509_5)).trans hw509_5)⟩ (fun hHeld => ?_); refine with_tabW forebayref08_Equal.tab6 forebayref08_Equal.bits6 (fun HT_ HW_ => ?_)
        generalize wr.drew = w11 at HB HR508_2 HR508_4 HR509_2 HR509_4 hx508_0 hx508_1 hx508_2 hx508_3 hx508_4 hx508_5 hx509_0 hx509_1 hx509_2 hx509_3 hx509_4 hx509_5 hHeld ⊢
        refine pure_ (i := 0) (N := some 17) (v := ?_) (a' := ?_) #[true, false, false, false, false, false, false, false, false, false] rfl rfl (any_of HT_.out (by kernel_rfl)) (fun _ _ _ h => h) (Or.inl ⟨by rfl, ?_⟩) ?_ ?_
        rotate_left
        ·intro w'
         go_simp
         with_reducible rfl
        rotate_left
        ·simp only [Act.put, List.setIfInBounds_toArray, List.set_cons_zero, List.set_cons_succ, i64_w, i32_w]
         rfl
        refine pure_ (i := 1) (N := some 18) (v := ?_) (a' := ?_) #[true, true, false, false, false, false, false, false, false, false] rfl rfl (any_of HT_.out (by kernel_rfl)) (fun _ _ _ h => h) (Or.inl ⟨by rfl, ?_⟩) ?_ ?_
        rotate_left
        ·intro w'
         go_simp
         with_reducible rfl
        rotate_left
        ·simp only [Act.put, List.setIfInBounds_toArray, List.set_cons_zero, List.set_cons_succ, i64_w, i32_w]
         rfl
        refine pure_ (i := 2) (N := some 19) (v := ?_) (a' := ?_) #[true, true, true, false, false, false, false, false, false, false] rfl rfl (any_of HT_.out (by kernel_rfl)) (fun _ _ _ h => h) (Or.inl ⟨by rfl, ?_⟩) ?_ ?_
        rotate_left
        ·intro w'
         go_simp
         with_reducible rfl
        rotate_left
        ·simp only [Act.put, List.setIfInBounds_toArray, List.set_cons_zero, List.set_cons_succ, i64_w, i32_w]
         rfl
        refine pure_ (i := 4) (N := some 21) (v := ?_) (a' := ?_) #[true, true, true, false, true, false, false, false, false, false] rfl rfl (any_of HT_.out (by kernel_rfl)) (fun _ _ _ h => h) (Or.inl ⟨by rfl, ?_⟩) ?_ ?_
        rotate_left
        ·intro w'
         go_simp
         with_reducible rfl
        rotate_left
        ·simp only [Act.put, List.setIfInBounds_toArray, List.set_cons_zero, List.set_cons_succ, i64_w, i32_w]
         rfl
        refine pure_ (i := 5) (N := some 22) (v := ?_) (a' := ?_) #[true, true, true, false, true, true, false, false, false, false] rfl rfl (any_of HT_.out (by kernel_rfl)) (fun _ _ _ h => h) (Or.inl ⟨by rfl, ?_⟩) ?_ ?_
        rotate_left
        ·intro w'
         go_simp
         with_reducible rfl
        rotate_left
        ·simp only [Act.put, List.setIfInBounds_toArray, List.set_cons_zero, List.set_cons_succ, i64_w, i32_w]
         rfl
        refine pure_ (i := 6) (N := some 23) (v := ?_) (a' := ?_) #[true, true, true, false, true, true, true, false, false, false] rfl rfl (any_of HT_.out (by kernel_rfl)) (fun _ _ _ h => h) (Or.inl ⟨by rfl, ?_⟩) ?_ ?_
        rotate_left
        ·intro w'
         go_simp
         with_reducible rfl
        rotate_left
        ·simp only [Act.put, List.setIfInBounds_toArray, List.set_cons_zero, List.set_cons_succ, i64_w, i32_w]
         rfl
        refine take_ (i := 3) (N := some 20) (v := ?_) (a' := ?_) #[true, true, true, true, true, true, true, false, false, false] rfl rfl (take_ofW HT_.out HW_.out (by kernel_rfl)) (fun _ _ _ h => h) (Or.inl ⟨by rfl, ?_⟩) hHeld ?_ ?_
        rotate_left
        ·rintro w' ⟨s0, s1, s2, s3, s4, s5, s6, s7, s8, s9, s10, s11⟩
         go_simp
         with_reducible rfl
        rotate_left
        ·simp only [Act.put, List.setIfInBounds_toArray, List.set_cons_zero, List.set_cons_succ, i64_w, i32_w]
         rfl
        refine take_ (i := 7) (N := some 24) (v := ?_) (a' := ?_) #[true, true, true, true, true, true, true, true, false, false] rfl rfl (take_ofW HT_.out HW_.out (by kernel_rfl)) (fun _ _ _ h => h) (Or.inl ⟨by rfl, ?_⟩) hHeld ?_ ?_
        rotate_left
        ·rintro w' ⟨s0, s1, s2, s3, s4, s5, s6, s7, s8, s9, s10, s11⟩
         go_simp
         with_reducible rfl
        rotate_left
        ·simp only [Act.put, List.setIfInBounds_toArray, List.set_cons_zero, List.set_cons_succ, i64_w, i32_w]
         rfl
        refine one_ (i := 8) (N := some 25) #[true, true, true, true, true, true, true, true, true, false] rfl rfl (one_of HT_.out (by kernel_rfl)) (by decide) (fun K hK => ?_)
        refine goes_ Try.func20 (by kernel_rfl) rfl #[.agg #[.string ((rd_T25 l0 x5_1).f0), .int .i64 ((rd_T25 l0 x5_1).f1), .slice A508_2 ((rd_T25 l0 x5_1).f2).length c508_2, .int .i64 ((rd_T25 l0 x5_1).f3), .slice A508_4 ((rd_T25 l0 x5_1).f4).length c508_4, .int .i64 ((rd_T25 l0 x5_1).f5)], .agg #[.string ((rd_T25 l1 x5_1).f0), .int .i64 ((rd_T25 l1 x5_1).f1), .slice A509_2 ((rd_T25 l1 x5_1).f2).length c509_2, .int .i64 ((rd_T25 l1 x5_1).f3), .slice A509_4 ((rd_T25 l1 x5_1).f4).length c509_4, .int .i64 ((rd_T25 l1 x5_1).f5)]] (by rfl) rfl rfl (by (try simp only [List.map_toArray, List.map_cons, List.map_nil]); first | done | rfl | (simp only [List.length_drop, List.length_take]; rfl)) ?_
        with_reducible refine (forebayref07_Equal.calls k1 ((rd_T25 l0 x5_1).f0) ((rd_T25 l0 x5_1).f1) _ _ ((rd_T25 l0 x5_1).f2) ((rd_T25 l0 x5_1).f3) _ _ ((rd_T25 l0 x5_1).f4) ((rd_T25 l0 x5_1).f5) ((rd_T25 l1 x5_1).f0) ((rd_T25 l1 x5_1).f1) _ _ ((rd_T25 l1 x5_1).f2) ((rd_T25 l1 x5_1).f3) _ _ ((rd_T25 l1 x5_1).f4) ((rd_T25 l1 x5_1).f5) false _ ?side1 ?side2 ?side3 ?side4 ?side5 ?side6 ?side7 ?side8 A7.out).mono ?_
        (case side1 => repeat (first | exact (Kd.C_below HR508_2.out HB.out) | (with_reducible refine Kd.C_alloc ?_ _) | (with_reducible refine Kd.C_drewN ?_ _) | (with_reducible refine Kd.C_drew ?_)))
        (case side2 => exact HC508_2.out)
        (case side3 => repeat (first | exact (Kd.C_below HR508_4.out HB.out) | (with_reducible refine Kd.C_alloc ?_ _) | (with_reducible refine Kd.C_drewN ?_ _) | (with_reducible refine Kd.C_drew ?_)))
        (case side4 => exact HC508_4.out)
        (case side5 => repeat (first | exact (Kd.C_below HR509_2.out HB.out) | (with_reducible refine Kd.C_alloc ?_ _) | (with_reducible refine Kd.C_drewN ?_ _) | (with_reducible refine Kd.C_drew ?_)))
        (case side6 => exact HC509_2.out)
        (case side7 => repeat (first | exact (Kd.C_below HR509_4.out HB.out) | (with_reducible refine Kd.C_alloc ?_ _) | (with_reducible refine Kd.C_drewN ?_ _) | (with_reducible refine Kd.C_drew ?_)))
        (case side8 => exact HC509_4.out)
        rintro e w12 ⟨rfl, hb⟩
        refine ⟨_, rfl, ?_⟩
        have n0_ := Aside0.mk (below_step (by repeat (first | (with_reducible first | exact HB.out | apply below_alloc | apply pw_below_drewN | apply below_drew1) | exact HB.out)) hb)
        clear HB
        have HB := n0_
        clear n0_
        (try clear hb)
        (try clear hb2)
        (try clear hk)
        (try clear hi)
        refine hK.out _ _ ⟨((HB.out.cell (World.block_lt_of_cell? w _ hw508_0)).trans hw508_0), ((HB.out.cell (World.block_lt_of_cell? w _ hw508_1)).trans hw508_1), ((HB.out.cell (World.block_lt_of_cell? w _ hw508_2)).trans hw508_2), ((HB.out.cell (World.block_lt_of_cell? w _ hw508_3)).trans hw508_3), ((HB.out.cell (World.block_lt_of_cell? w _ hw508_4)).trans hw508_4), ((HB.out.cell (World.block_lt_of_cell? w _ hw508_5)).trans hw508_5), ((HB.out.cell (World.block_lt_of_cell? w _ hw509_0)).trans hw509_0), ((HB.out.cell (World.block_lt_of_cell? w _ hw509_1)).trans hw509_1), ((HB.out.cell (World.block_lt_of_cell? w _ hw509_2)).trans hw509_2), ((HB.out.cell (World.block_lt_of_cell? w _ hw509_3)).trans hw509_3), ((HB.out.cell (World.block_lt_of_cell? w _ hw509_4)).trans hw509_4), ((HB.out.cell (World.block_lt_of_cell? w _ hw509_5)).trans hw509_5)⟩ (fun hHeld => ?_)
        clear hK K
        refine norm_ (a' := ?_) ?_ ?_
        rotate_left
        ·show Act.put _ (some 25) _ = _
         simp only [Act.put, List.setIfInBounds_toArray, List.set_cons_zero, List.set_cons_succ, i64_w, i32_w]
         rfl
        refine pure_ (i := 9) (N := some 26) (v := ?_) (a' := ?_) #[true, true, true, true, true, true, true, true, true, true] rfl rfl (any_of HT_.out (by kernel_rfl)) (fun _ _ _ h => h) (Or.inl ⟨by rfl, ?_⟩) ?_ ?_
        rotate_left
        ·intro w'
         go_simp
         with_reducible rfl
        rotate_left
        ·simp only [Act.put, List.setIfInBounds_toArray, List.set_cons_zero, List.set_cons_succ, i64_w, i32_w]
         rfl
        refine done_ (done_of HT_.out (by kernel_rfl)) ?_
        try go_wp2
        go_ret
        exact ⟨by first | rfl | (simp [errW_none, errW_some] <;> rfl) | (simp [*, errW_none, errW_some] <;> rfl), by repeat (first | (with_reducible first | exact HB.out | apply below_alloc | apply pw_below_drewN | apply below_drew1) | exact HB.out)⟩
      ·rw [if_neg c6] at H
       exact absurd H (by simp)
     ·rw [if_neg c5] at H
      exact absurd H (by simp)
    ·rw [if_neg c4] at H
     have c4b0 : decide (x5_1 < (l0.length : Int)) = false := decide_eq_false c4
     clear c4
     obtain rfl := Option.some.inj H
     go_wp2
     go_ret
     exact ⟨by first | rfl | (simp [errW_none, errW_some] <;> rfl) | (simp [*, errW_none, errW_some] <;> rfl), by repeat (first | (with_reducible first | exact HB.out | apply below_alloc | apply pw_below_drewN | apply below_drew1) | exact HB.out)⟩
 ·rw [if_neg c3] at H
  have c3b0 : ((l0.length : Int) == (l1.length : Int)) = false := beq_eq_false_iff_ne.mpr c3
  have c3b1 : ((l0.length : Int) != (l1.length : Int)) = true := bne_iff_ne.mpr c3
  have c3b2 : (l0.length == l1.length) = false := by first | simpa using c3 | (simp at c3 ⊢; omega)
  obtain rfl := Option.some.inj H
  go_enter Try.func34, Try.ntmps34
  go_wp2
  go_ret
  exact ⟨by first | rfl | (simp [errW_none, errW_some] <;> rfl) | (simp [*, errW_none, errW_some] <;> rfl), by repeat (first | (with_reducible first | exact HB.out | apply below_alloc | apply pw_below_drewN | apply below_drew1) | exact HB.out)⟩
/-! ### forebaylaw08_BatchChecks: function 9 -/
-- NOT PRINTED: function 10 (forebaylaw08_BatchBehind)
/-! ### batch_Same: function 38 -/
def batch_Same.f (l0 : List (S25)) (l1 : List (S25)) : Option (Bool) := (batch_Normal.f l0).bind fun bt538 => ((batch_Normal.f l1).bind fun bt543 => (if bt538.2.2 = 0 then (if bt543.2.2 = 0 then ((batch_Equal.f bt538.1 bt543.1).bind fun t548 => (some t548)) else (some false)) else (some false)))
set_option maxHeartbeats 8000000 in
set_option maxRecDepth 100000 in
theorem batch_Same.calls (A0 : Option Addr) (c0 : Nat) (l0 : List (S25)) (A1 : Option Addr) (c1 : Nat) (l1 : List (S25)) (r : Bool) (w : World) (hr0 : Kd.C k25 w A0 l0.length l0) (hc0 : l0.length ≤ c0) (hr1 : Kd.C k25 w A1 l1.length l1) (hc1 : l1.length ≤ c1) (h : batch_Same.f l0 l1 = some r) :
  Calls Try.prog 38 #[.slice A0 l0.length c0, .slice A1 l1.length c1] w fun e w' => e = .returned (.bool r) ∧ Below w.heap.size w w' := by
 have HR0 := Aside0.mk hr0
 have HC0 := Aside0.mk hc0
 clear hr0 hc0
 have HR1 := Aside0.mk hr1
 have HC1 := Aside0.mk hc1
 clear hr1 hc1
 have HB := Aside0.mk (Below.refl w.heap.size w)
 have H : ((batch_Normal.f l0).bind fun bt538 => ((batch_Normal.f l1).bind fun bt543 => (if bt538.2.2 = 0 then (if bt543.2.2 = 0 then ((batch_Equal.f bt538.1 bt543.1).bind fun t548 => (some t548)) else (some false)) else (some false)))) = some r := h
 clear h
 replace H := Option.bind_eq_some_iff.mp H
 obtain ⟨⟨t538, t541, t542⟩, A30, H⟩ := H
 replace H : ((batch_Normal.f l1).bind fun bt543 => (if t542 = 0 then (if bt543.2.2 = 0 then ((batch_Equal.f t538 bt543.1).bind fun t548 => (some t548)) else (some false)) else (some false))) = some r := H
 have A3 := Aside0.mk A30
 clear A30
 replace H := Option.bind_eq_some_iff.mp H
 obtain ⟨⟨t543, t546, t547⟩, A40, H⟩ := H
 replace H : (if t542 = 0 then (if t547 = 0 then ((batch_Equal.f t538 t543).bind fun t548 => (some t548)) else (some false)) else (some false)) = some r := H
 have A4 := Aside0.mk A40
 clear A40
 by_cases c5 : t542 = 0
 ·rw [if_pos c5] at H
  have c5b0 : (t542 == 0) = true := beq_iff_eq.mpr c5
  have c5b1 : (t542 != 0) = false := bne_eq_false_iff_eq.mpr c5
  clear c5
  by_cases c6 : t547 = 0
  ·rw [if_pos c6] at H
   have c6b0 : (t547 == 0) = true := beq_iff_eq.mpr c6
   have c6b1 : (t547 != 0) = false := bne_eq_false_iff_eq.mpr c6
   clear c6
   replace H := Option.bind_eq_some_iff.mp H
   obtain ⟨t548, A70, H⟩ := H
   replace H : (some t548) = some r := H
   have A7 := Aside0.mk A70
   clear A70
   obtain rfl := Option.some.inj H
   go_enter Try.func38, Try.ntmps38
   go_wp2_with (first | ((with_reducible refine gate_callee (f := 32) rfl ?_); refine goesL_ (some 13) rfl rfl Try.func32 (by kernel_rfl) rfl #[.slice A0 l0.length c0] rfl (by (try simp only [List.map_toArray, List.map_cons, List.map_nil]); first | done | rfl | (simp only [List.length_drop, List.length_take]; rfl)) ?_; (with_reducible refine (batch_Normal.calls _ _ l0 t538 t541 t542 _ ?side1 ?side2 A3.out).mono ?_); (case side1 => repeat (first | exact HR0.out | (with_reducible refine Kd.C_alloc ?_ _) | (with_reducible refine Kd.C_drewN ?_ _) | (with_reducible refine Kd.C_drew ?_))); (case side2 => exact HC0.out); rintro e w8 ⟨v539, rfl, ho0, hb⟩; refine ⟨_, rfl, ?_⟩; have n0_ := Aside0.mk (Kd.N_lower (Kd.N_mono (ok' := fun k_ => True) ho0 (fun k_ hk_ => trivial)) (below_size (by repeat (first | (with_reducible first | exact HB.out | apply below_alloc | apply pw_below_drewN | apply below_drew1) | exact HB.out)))); have n1_ := Aside0.mk (below_step (by repeat (first | (with_reducible first | exact HB.out | apply below_alloc | apply pw_below_drewN | apply below_drew1) | exact HB.out)) hb); clear HB; have HO540 := n0_; have HB := n1_; clear n0_ n1_; (try clear hb); (try clear hb2); (try clear hk); (try clear hi); (try clear ho0)) | ((with_reducible refine gate_callee (f := 32) rfl ?_); refine goesL_ (some 19) rfl rfl Try.func32 (by kernel_rfl) rfl #[.slice A1 l1.length c1] rfl (by (try simp only [List.map_toArray, List.map_cons, List.map_nil]); first | done | rfl | (simp only [List.length_drop, List.length_take]; rfl)) ?_; (with_reducible refine (batch_Normal.calls _ _ l1 t543 t546 t547 _ ?side1 ?side2 A4.out).mono ?_); (case side1 => repeat (first | exact (Kd.C_below HR1.out HB.out) | (with_reducible refine Kd.C_alloc ?_ _) | (with_reducible refine Kd.C_drewN ?_ _) | (with_reducible refine Kd.C_drew ?_))); (case side2 => exact HC1.out); rintro e w9 ⟨v544, rfl, ho0, hb⟩; refine ⟨_, rfl, ?_⟩; have n0_ := Aside0.mk (Kd.N_elder' (by (with_reducible repeat (first | apply Kd.N_alloc | apply Kd.N_drewN | apply Kd.N_drew)); exact HO540.out) (Kd.N_base ho0) hb); have n1_ := Aside0.mk (Kd.N_lower (Kd.N_mono (ok' := fun k_ => some k_ ≠ (v539 : Value).ownBlock) ho0 (fun k_ hk_ => (Kd.fresh' (Kd.N_lt (by (with_reducible repeat (first | apply Kd.N_alloc | apply Kd.N_drewN | apply Kd.N_drew)); exact HO540.out)) k_ hk_))) (below_size (by repeat (first | (with_reducible first | exact HB.out | apply below_alloc | apply pw_below_drewN | apply below_drew1) | exact HB.out)))); have n2_ := Aside0.mk (below_step (by repeat (first | (with_reducible first | exact HB.out | apply below_alloc | apply pw_below_drewN | apply below_drew1) | exact HB.out)) hb); clear HO540; clear HB; have HO540 := n0_; have HO545 := n1_; have HB := n2_; clear n0_ n1_ n2_; (try clear hb); (try clear hb2); (try clear hk); (try clear hi); (try clear ho0); obtain ⟨Ao10, co10, eo10⟩ := Kd.N_slice HO540.out; subst eo10; obtain ⟨Ao11, co11, eo11⟩ := Kd.N_slice HO545.out; subst eo11) | (go_at_call 37; (with_reducible refine (batch_Equal.calls _ _ t538 _ _ t543 t548 _ ?side1 ?side2 ?side3 ?side4 A7.out).mono ?_); (case side1 => repeat (first | exact (Kd.N_reads' HO540.out).2.2 | (with_reducible refine Kd.C_alloc ?_ _) | (with_reducible refine Kd.C_drewN ?_ _) | (with_reducible refine Kd.C_drew ?_))); (case side2 => exact (Kd.N_reads' HO540.out).2.1); (case side3 => repeat (first | exact (Kd.N_reads' HO545.out).2.2 | (with_reducible refine Kd.C_alloc ?_ _) | (with_reducible refine Kd.C_drewN ?_ _) | (with_reducible refine Kd.C_drew ?_))); (case side4 => exact (Kd.N_reads' HO545.out).2.1); rintro e w12 ⟨rfl, hb⟩; have n0_ := Aside0.mk (Kd.N_below (by (with_reducible repeat (first | apply Kd.N_alloc | apply Kd.N_drewN | apply Kd.N_drew)); exact HO540.out) hb); have n1_ := Aside0.mk (Kd.N_below (by (with_reducible repeat (first | apply Kd.N_alloc | apply Kd.N_drewN | apply Kd.N_drew)); exact HO545.out) hb); have n2_ := Aside0.mk (below_step (by repeat (first | (with_reducible first | exact HB.out | apply below_alloc | apply pw_below_drewN | apply below_drew1) | exact HB.out)) hb); clear HO540; clear HO545; clear HB; have HO540 := n0_; have HO545 := n1_; have HB := n2_; clear n0_ n1_ n2_; (try clear hb); (try clear hb2); (try clear hk); (try clear hi)))
   go_ret
   exact ⟨by first | rfl | (simp [errW_none, errW_some] <;> rfl) | (simp [*, errW_none, errW_some] <;> rfl), by repeat (first | (with_reducible first | exact HB.out | apply below_alloc | apply pw_below_drewN | apply below_drew1) | exact HB.out)⟩
  ·rw [if_neg c6] at H
   have c6b0 : (t547 == 0) = false := beq_eq_false_iff_ne.mpr c6
   have c6b1 : (t547 != 0) = true := bne_iff_ne.mpr c6
   obtain rfl := Option.some.inj H
   go_enter Try.func38, Try.ntmps38
   go_wp2_with (first | ((with_reducible refine gate_callee (f := 32) rfl ?_); refine goesL_ (some 13) rfl rfl Try.func32 (by kernel_rfl) rfl #[.slice A0 l0.length c0] rfl (by (try simp only [List.map_toArray, List.map_cons, List.map_nil]); first | done | rfl | (simp only [List.length_drop, List.length_take]; rfl)) ?_; (with_reducible refine (batch_Normal.calls _ _ l0 t538 t541 t542 _ ?side1 ?side2 A3.out).mono ?_); (case side1 => repeat (first | exact HR0.out | (with_reducible refine Kd.C_alloc ?_ _) | (with_reducible refine Kd.C_drewN ?_ _) | (with_reducible refine Kd.C_drew ?_))); (case side2 => exact HC0.out); rintro e w13 ⟨v539, rfl, ho0, hb⟩; refine ⟨_, rfl, ?_⟩; have n0_ := Aside0.mk (Kd.N_lower (Kd.N_mono (ok' := fun k_ => True) ho0 (fun k_ hk_ => trivial)) (below_size (by repeat (first | (with_reducible first | exact HB.out | apply below_alloc | apply pw_below_drewN | apply below_drew1) | exact HB.out)))); have n1_ := Aside0.mk (below_step (by repeat (first | (with_reducible first | exact HB.out | apply below_alloc | apply pw_below_drewN | apply below_drew1) | exact HB.out)) hb); clear HB; have HO540 := n0_; have HB := n1_; clear n0_ n1_; (try clear hb); (try clear hb2); (try clear hk); (try clear hi); (try clear ho0)) | ((with_reducible refine gate_callee (f := 32) rfl ?_); refine goesL_ (some 19) rfl rfl Try.func32 (by kernel_rfl) rfl #[.slice A1 l1.length c1] rfl (by (try simp only [List.map_toArray, List.map_cons, List.map_nil]); first | done | rfl | (simp only [List.length_drop, List.length_take]; rfl)) ?_; (with_reducible refine (batch_Normal.calls _ _ l1 t543 t546 t547 _ ?side1 ?side2 A4.out).mono ?_); (case side1 => repeat (first | exact (Kd.C_below HR1.out HB.out) | (with_reducible refine Kd.C_alloc ?_ _) | (with_reducible refine Kd.C_drewN ?_ _) | (with_reducible refine Kd.C_drew ?_))); (case side2 => exact HC1.out); rintro e w14 ⟨v544, rfl, ho0, hb⟩; refine ⟨_, rfl, ?_⟩; have n0_ := Aside0.mk (Kd.N_elder' (by (with_reducible repeat (first | apply Kd.N_alloc | apply Kd.N_drewN | apply Kd.N_drew)); exact HO540.out) (Kd.N_base ho0) hb); have n1_ := Aside0.mk (Kd.N_lower (Kd.N_mono (ok' := fun k_ => some k_ ≠ (v539 : Value).ownBlock) ho0 (fun k_ hk_ => (Kd.fresh' (Kd.N_lt (by (with_reducible repeat (first | apply Kd.N_alloc | apply Kd.N_drewN | apply Kd.N_drew)); exact HO540.out)) k_ hk_))) (below_size (by repeat (first | (with_reducible first | exact HB.out | apply below_alloc | apply pw_below_drewN | apply below_drew1) | exact HB.out)))); have n2_ := Aside0.mk (below_step (by repeat (first | (with_reducible first | exact HB.out | apply below_alloc | apply pw_below_drewN | apply below_drew1) | exact HB.out)) hb); clear HO540; clear HB; have HO540 := n0_; have HO545 := n1_; have HB := n2_; clear n0_ n1_ n2_; (try clear hb); (try clear hb2); (try clear hk); (try clear hi); (try clear ho0)))
   go_ret
   exact ⟨by first | rfl | (simp [errW_none, errW_some] <;> rfl) | (simp [*, errW_none, errW_some] <;> rfl), by repeat (first | (with_reducible first | exact HB.out | apply below_alloc | apply pw_below_drewN | apply below_drew1) | exact HB.out)⟩
 ·rw [if_neg c5] at H
  have c5b0 : (t542 == 0) = false := beq_eq_false_iff_ne.mpr c5
  have c5b1 : (t542 != 0) = true := bne_iff_ne.mpr c5
  obtain rfl := Option.some.inj H
  go_enter Try.func38, Try.ntmps38
  go_wp2_with (first | ((with_reducible refine gate_callee (f := 32) rfl ?_); refine goesL_ (some 13) rfl rfl Try.func32 (by kernel_rfl) rfl #[.slice A0 l0.length c0] rfl (by (try simp only [List.map_toArray, List.map_cons, List.map_nil]); first | done | rfl | (simp only [List.length_drop, List.length_take]; rfl)) ?_; (with_reducible refine (batch_Normal.calls _ _ l0 t538 t541 t542 _ ?side1 ?side2 A3.out).mono ?_); (case side1 => repeat (first | exact HR0.out | (with_reducible refine Kd.C_alloc ?_ _) | (with_reducible refine Kd.C_drewN ?_ _) | (with_reducible refine Kd.C_drew ?_))); (case side2 => exact HC0.out); rintro e w15 ⟨v539, rfl, ho0, hb⟩; refine ⟨_, rfl, ?_⟩; have n0_ := Aside0.mk (Kd.N_lower (Kd.N_mono (ok' := fun k_ => True) ho0 (fun k_ hk_ => trivial)) (below_size (by repeat (first | (with_reducible first | exact HB.out | apply below_alloc | apply pw_below_drewN | apply below_drew1) | exact HB.out)))); have n1_ := Aside0.mk (below_step (by repeat (first | (with_reducible first | exact HB.out | apply below_alloc | apply pw_below_drewN | apply below_drew1) | exact HB.out)) hb); clear HB; have HO540 := n0_; have HB := n1_; clear n0_ n1_; (try clear hb); (try clear hb2); (try clear hk); (try clear hi); (try clear ho0)) | ((with_reducible refine gate_callee (f := 32) rfl ?_); refine goesL_ (some 19) rfl rfl Try.func32 (by kernel_rfl) rfl #[.slice A1 l1.length c1] rfl (by (try simp only [List.map_toArray, List.map_cons, List.map_nil]); first | done | rfl | (simp only [List.length_drop, List.length_take]; rfl)) ?_; (with_reducible refine (batch_Normal.calls _ _ l1 t543 t546 t547 _ ?side1 ?side2 A4.out).mono ?_); (case side1 => repeat (first | exact (Kd.C_below HR1.out HB.out) | (with_reducible refine Kd.C_alloc ?_ _) | (with_reducible refine Kd.C_drewN ?_ _) | (with_reducible refine Kd.C_drew ?_))); (case side2 => exact HC1.out); rintro e w16 ⟨v544, rfl, ho0, hb⟩; refine ⟨_, rfl, ?_⟩; have n0_ := Aside0.mk (Kd.N_elder' (by (with_reducible repeat (first | apply Kd.N_alloc | apply Kd.N_drewN | apply Kd.N_drew)); exact HO540.out) (Kd.N_base ho0) hb); have n1_ := Aside0.mk (Kd.N_lower (Kd.N_mono (ok' := fun k_ => some k_ ≠ (v539 : Value).ownBlock) ho0 (fun k_ hk_ => (Kd.fresh' (Kd.N_lt (by (with_reducible repeat (first | apply Kd.N_alloc | apply Kd.N_drewN | apply Kd.N_drew)); exact HO540.out)) k_ hk_))) (below_size (by repeat (first | (with_reducible first | exact HB.out | apply below_alloc | apply pw_below_drewN | apply below_drew1) | exact HB.out)))); have n2_ := Aside0.mk (below_step (by repeat (first | (with_reducible first | exact HB.out | apply below_alloc | apply pw_below_drewN | apply below_drew1) | exact HB.out)) hb); clear HO540; clear HB; have HO540 := n0_; have HO545 := n1_; have HB := n2_; clear n0_ n1_ n2_; (try clear hb); (try clear hb2); (try clear hk); (try clear hi); (try clear ho0)))
  go_ret
  exact ⟨by first | rfl | (simp [errW_none, errW_some] <;> rfl) | (simp [*, errW_none, errW_some] <;> rfl), by repeat (first | (with_reducible first | exact HB.out | apply below_alloc | apply pw_below_drewN | apply below_drew1) | exact HB.out)⟩
/-! ### forebayref08_Names: function 39 -/
mutual
def forebayref08_Names.l0 : Nat → List (S25) → List ByteArray → Int → Option (List ByteArray)
 | 0, _, _, _ => none
 | k + 1, x0, x3, x4 => if x4 < (x0.length : Int) then (forebayref08_Names.l1 k x0 x3 x4 false 0) else (some x3)
def forebayref08_Names.l1 : Nat → List (S25) → List ByteArray → Int → Bool → Int → Option (List ByteArray)
 | 0, _, _, _, _, _ => none
 | k + 1, x0, x3, x4, x5, x6 => if x6 < x4 then (if x5 = true then (forebayref08_Names.l1 k x0 x3 x4 true (wrap64 (x6 + 1))) else (if 0 ≤ x6 then (if x6 < (x0.length : Int) then (if 0 ≤ x4 then (if x4 < (x0.length : Int) then (forebayref08_Names.l1 k x0 x3 x4 (((rd_T25 x0 x6).f0).toList == ((rd_T25 x0 x4).f0).toList) (wrap64 (x6 + 1))) else (none)) else (none)) else (none)) else (none))) else (if x5 = true then (forebayref08_Names.l0 k x0 x3 (wrap64 (x4 + 1))) else (if 0 ≤ x4 then (if x4 < (x0.length : Int) then (if x3.length < 8796093022208 then (forebayref08_Names.l0 k x0 (x3 ++ [(rd_T25 x0 x4).f0]) (wrap64 (x4 + 1))) else (none)) else (none)) else (none)))
end
def forebayref08_Names.f (k : Nat) (l0 : List (S25)) : Option (List ByteArray) := forebayref08_Names.l0 k l0 ([] : List ByteArray) 0
set_option maxHeartbeats 8000000 in
set_option maxRecDepth 100000 in
theorem forebayref08_Names.calls (k : Nat) (A0 : Option Addr) (c0 : Nat) (l0 : List (S25)) (r : List ByteArray) (w : World) (hr0 : Kd.C k25 w A0 l0.length l0) (hc0 : l0.length ≤ c0) (h : forebayref08_Names.f k l0 = some r) :
  Calls Try.prog 39 #[.slice A0 l0.length c0] w fun e w' => ∃ v0_ : Value, e = .returned (v0_) ∧ Kd.R Kd.string 9 w' w.heap.size (fun _ => True) v0_ r ∧ Below w.heap.size w w' := by
 have HR0 := Aside0.mk hr0
 have HC0 := Aside0.mk hc0
 clear hr0 hc0
 have HB := Aside0.mk (Below.refl w.heap.size w)
 have H : (forebayref08_Names.l0 k l0 ([] : List ByteArray) 0) = some r := h
 clear h
 have H' := Aside0.mk H
 clear H
 go_enter Try.func39, Try.ntmps39
 go_wp2
 repeat (go_quiet (fail); try go_wp2)
 go_loopg [3, 4] k (fun kq v3 v4 w' => ∃ (x3_1 : List ByteArray) (x4_1 : Int), v4 = .int .i64 x4_1 ∧ Aside0 (forebayref08_Names.l0 kq l0 x3_1 x4_1 = some r) ∧ Aside0 (kq ≤ k) ∧ Aside0 (Kd.R Kd.string 9 w' w.heap.size (fun _ => True) v3 x3_1) ∧ Aside0 (Below w.heap.size w w'))
 case atStart => exact ⟨(([] : List ByteArray)), (0), (by first | rfl | (simp; done) | (simp [*]; done)), H', ⟨Nat.le_refl _⟩, ⟨by first | exact Kd.R_nil _ _ _ _ _ | exact Kd.N_nil _ _ _ _ _ | exact Kd.V_nil _ _ _ _ _ | exact Kd.Q_nil _ _ _ _ _ | exact Kd.S_nil _ _ _ _ _⟩, ⟨by repeat (first | (with_reducible first | exact HB.out | apply below_alloc | apply pw_below_drewN | apply below_drew1) | exact HB.out)⟩⟩
 case round =>
  clear H'
  obtain ⟨x3_1, x4_1, rfl, HA, HK1, HO_3, HB⟩ := hrel
  cases gk with
  | zero => exact absurd HA.out (by simp [forebayref08_Names.l0])
  | succ k1 =>
   have H := HA.out
   clear HA
   simp only [forebayref08_Names.l0] at H
   by_cases c2 : x4_1 < (l0.length : Int)
   ·rw [if_pos c2] at H
    have c2b0 : decide (x4_1 < (l0.length : Int)) = true := decide_eq_true c2
    clear c2
    have H' := Aside0.mk H
    clear H
    go_wp2
    repeat (go_quiet (fail); try go_wp2)
    go_loopg [5, 6] k1 (fun kq v5 v6 w' => ∃ (x5_2 : Bool) (x6_2 : Int), v5 = .bool x5_2 ∧ v6 = .int .i64 x6_2 ∧ Aside0 (forebayref08_Names.l1 kq l0 x3_1 x4_1 x5_2 x6_2 = some r) ∧ Aside0 (kq ≤ k1) ∧ Aside0 (Kd.R Kd.string 9 w' w.heap.size (fun _ => True) u3 x3_1) ∧ Aside0 (Below w.heap.size w w'))
    case atStart => exact ⟨(false), (0), (by first | rfl | (simp; done) | (simp [*]; done)), (by first | rfl | (simp; done) | (simp [*]; done)), H', ⟨Nat.le_refl _⟩, ⟨by (with_reducible repeat (first | apply Kd.R_alloc | apply Kd.R_drewN | apply Kd.R_drew)); exact HO_3.out⟩, ⟨by repeat (first | (with_reducible first | exact HB.out | apply below_alloc | apply pw_below_drewN | apply below_drew1) | exact HB.out)⟩⟩
    case round =>
     clear H'
     try clear c2
     try clear c2b0
     try clear p2
     obtain ⟨x5_2, x6_2, rfl, rfl, HA, HK2, HO_3, HB⟩ := hrel
     cases gk with
     | zero => exact absurd HA.out (by simp [forebayref08_Names.l1])
     | succ k2 =>
      have H := HA.out
      clear HA
      simp only [forebayref08_Names.l1] at H
      by_cases c3 : x6_2 < x4_1
      ·rw [if_pos c3] at H
       have c3b0 : decide (x6_2 < x4_1) = true := decide_eq_true c3
       clear c3
       by_cases c4 : x5_2 = true
       ·subst c4
        have H1 : (forebayref08_Names.l1 k2 l0 x3_1 x4_1 true (wrap64 (x6_2 + 1))) = some r := by rw [if_pos rfl] at H; exact H
        clear H
        have H := H1
        clear H1
        have H' := Aside0.mk H
        clear H
        go_wp2
        repeat (go_quiet (fail); try go_wp2)
        go_roundg k2
        case measure => have := HK1.out; have := HK2.out; omega
        case rel => exact ⟨(true), (wrap64 (x6_2 + 1)), (by first | rfl | (simp; done) | (simp [*]; done)), (by first | rfl | (simp; done) | (simp [*]; done)), H', ⟨by have := HK1.out; have := HK2.out; omega⟩, ⟨by (with_reducible repeat (first | apply Kd.R_alloc | apply Kd.R_drewN | apply Kd.R_drew)); exact HO_3.out⟩, ⟨by repeat (first | (with_reducible first | exact HB.out | apply below_alloc | apply pw_below_drewN | apply below_drew1) | exact HB.out)⟩⟩
       ·replace c4 := Bool.eq_false_iff.mpr c4
        subst c4
        have H1 : (if 0 ≤ x6_2 then (if x6_2 < (l0.length : Int) then (if 0 ≤ x4_1 then (if x4_1 < (l0.length : Int) then (forebayref08_Names.l1 k2 l0 x3_1 x4_1 (((rd_T25 l0 x6_2).f0).toList == ((rd_T25 l0 x4_1).f0).toList) (wrap64 (x6_2 + 1))) else (none)) else (none)) else (none)) else (none)) = some r := by rw [if_neg (show ¬ (false = true) by decide)] at H; exact H
        clear H
        have H := H1
        clear H1
        by_cases c5 : 0 ≤ x6_2
        ·rw [if_pos c5] at H
         have c5b0 : decide (0 ≤ x6_2) = true := decide_eq_true c5
         clear c5
         by_cases c6 : x6_2 < (l0.length : Int)
         ·rw [if_pos c6] at H
          have c6b0 : decide (x6_2 < (l0.length : Int)) = true := decide_eq_true c6
          clear c6
          by_cases c7 : 0 ≤ x4_1
          ·rw [if_pos c7] at H
           have c7b0 : decide (0 ≤ x4_1) = true := decide_eq_true c7
           clear c7
           by_cases c8 : x4_1 < (l0.length : Int)
           ·rw [if_pos c8] at H
            have c8b0 : decide (x4_1 < (l0.length : Int)) = true := decide_eq_true c8
            clear c8
            have H' := Aside0.mk H
            clear H
            have p549 : 0 ≤ (x6_2 : Int) := of_decide_eq_true (by first | (with_reducible assumption) | assumption)
            have q549 : x6_2 < (l0.length : Int) := of_decide_eq_true (by first | (with_reducible assumption) | assumption)
            obtain ⟨ad549, A549_2, c549_2, A549_4, c549_4, e549, hx549_0, hx549_1, hx549_2, hx549_3, hx549_4, hx549_5, hl549_2, hi549_2, hl549_4, hi549_4⟩ := at_T25 HR0.out x6_2 p549 q549
            cases e549
            replace hx549_0 := (HB.out.cell (World.block_lt_of_cell? w _ hx549_0)).trans hx549_0
            replace hx549_1 := (HB.out.cell (World.block_lt_of_cell? w _ hx549_1)).trans hx549_1
            replace hx549_2 := (HB.out.cell (World.block_lt_of_cell? w _ hx549_2)).trans hx549_2
            replace hx549_3 := (HB.out.cell (World.block_lt_of_cell? w _ hx549_3)).trans hx549_3
            replace hx549_4 := (HB.out.cell (World.block_lt_of_cell? w _ hx549_4)).trans hx549_4
            replace hx549_5 := (HB.out.cell (World.block_lt_of_cell? w _ hx549_5)).trans hx549_5
            have HR549_2 := Aside0.mk hi549_2
            have HC549_2 := Aside0.mk hl549_2
            clear hi549_2 hl549_2
            have HR549_4 := Aside0.mk hi549_4
            have HC549_4 := Aside0.mk hl549_4
            clear hi549_4 hl549_4
            replace p549 := eq_true p549
            replace q549 := eq_true q549
            have p550 : 0 ≤ (x4_1 : Int) := of_decide_eq_true (by first | (with_reducible assumption) | assumption)
            have q550 : x4_1 < (l0.length : Int) := of_decide_eq_true (by first | (with_reducible assumption) | assumption)
            obtain ⟨ad550, A550_2, c550_2, A550_4, c550_4, e550, hx550_0, hx550_1, hx550_2, hx550_3, hx550_4, hx550_5, hl550_2, hi550_2, hl550_4, hi550_4⟩ := at_T25 HR0.out x4_1 p550 q550
            obtain rfl : ad549 = ad550 := (by injection e550)
            replace hx550_0 := (HB.out.cell (World.block_lt_of_cell? w _ hx550_0)).trans hx550_0
            replace hx550_1 := (HB.out.cell (World.block_lt_of_cell? w _ hx550_1)).trans hx550_1
            replace hx550_2 := (HB.out.cell (World.block_lt_of_cell? w _ hx550_2)).trans hx550_2
            replace hx550_3 := (HB.out.cell (World.block_lt_of_cell? w _ hx550_3)).trans hx550_3
            replace hx550_4 := (HB.out.cell (World.block_lt_of_cell? w _ hx550_4)).trans hx550_4
            replace hx550_5 := (HB.out.cell (World.block_lt_of_cell? w _ hx550_5)).trans hx550_5
            have HR550_2 := Aside0.mk hi550_2
            have HC550_2 := Aside0.mk hl550_2
            clear hi550_2 hl550_2
            have HR550_4 := Aside0.mk hi550_4
            have HC550_4 := Aside0.mk hl550_4
            clear hi550_4 hl550_4
            replace p550 := eq_true p550
            replace q550 := eq_true q550
            go_wp2
            repeat (go_quiet (fail); try go_wp2)
            go_roundg k2
            case measure => have := HK1.out; have := HK2.out; omega
            case rel => exact ⟨((((rd_T25 l0 x6_2).f0).toList == ((rd_T25 l0 x4_1).f0).toList)), (wrap64 (x6_2 + 1)), (by first | rfl | (simp; done) | (simp [*]; done)), (by first | rfl | (simp; done) | (simp [*]; done)), H', ⟨by have := HK1.out; have := HK2.out; omega⟩, ⟨by (with_reducible repeat (first | apply Kd.R_alloc | apply Kd.R_drewN | apply Kd.R_drew)); exact HO_3.out⟩, ⟨by repeat (first | (with_reducible first | exact HB.out | apply below_alloc | apply pw_below_drewN | apply below_drew1) | exact HB.out)⟩⟩
           ·rw [if_neg c8] at H
            exact absurd H (by simp)
          ·rw [if_neg c7] at H
           exact absurd H (by simp)
         ·rw [if_neg c6] at H
          exact absurd H (by simp)
        ·rw [if_neg c5] at H
         exact absurd H (by simp)
      ·rw [if_neg c3] at H
       have c3b0 : decide (x6_2 < x4_1) = false := decide_eq_false c3
       clear c3
       by_cases c9 : x5_2 = true
       ·subst c9
        have H1 : (forebayref08_Names.l0 k2 l0 x3_1 (wrap64 (x4_1 + 1))) = some r := by rw [if_pos rfl] at H; exact H
        clear H
        have H := H1
        clear H1
        have H' := Aside0.mk H
        clear H
        go_wp2
        repeat (go_quiet (fail); try go_wp2)
        go_roundg k2
        case measure => have := HK1.out; have := HK2.out; omega
        case rel => exact ⟨(x3_1), (wrap64 (x4_1 + 1)), (by first | rfl | (simp; done) | (simp [*]; done)), H', ⟨by have := HK1.out; have := HK2.out; omega⟩, ⟨by (with_reducible repeat (first | apply Kd.R_alloc | apply Kd.R_drewN | apply Kd.R_drew)); exact HO_3.out⟩, ⟨by repeat (first | (with_reducible first | exact HB.out | apply below_alloc | apply pw_below_drewN | apply below_drew1) | exact HB.out)⟩⟩
       ·replace c9 := Bool.eq_false_iff.mpr c9
        subst c9
        have H1 : (if 0 ≤ x4_1 then (if x4_1 < (l0.length : Int) then (if x3_1.length < 8796093022208 then (forebayref08_Names.l0 k2 l0 (x3_1 ++ [(rd_T25 l0 x4_1).f0]) (wrap64 (x4_1 + 1))) else (none)) else (none)) else (none)) = some r := by rw [if_neg (show ¬ (false = true) by decide)] at H; exact H
        clear H
        have H := H1
        clear H1
        by_cases c10 : 0 ≤ x4_1
        ·rw [if_pos c10] at H
         have c10b0 : decide (0 ≤ x4_1) = true := decide_eq_true c10
         clear c10
         by_cases c11 : x4_1 < (l0.length : Int)
         ·rw [if_pos c11] at H
          have c11b0 : decide (x4_1 < (l0.length : Int)) = true := decide_eq_true c11
          clear c11
          by_cases c12 : x3_1.length < 8796093022208
          ·rw [if_pos c12] at H
           have LMc12 := Aside0.mk c12
           clear c12
           obtain ⟨y552, hy552⟩ : ∃ y_ : List ByteArray, y_ = (x3_1 ++ [(rd_T25 l0 x4_1).f0]) := ⟨_, rfl⟩
           replace H : (forebayref08_Names.l0 k2 l0 y552 (wrap64 (x4_1 + 1))) = some r := by first | (rw [hy552]; with_reducible exact H) | (have H2_ := (Option.bind_some _ _).symm.trans H; rw [hy552]; with_reducible exact H2_) | (have H2_ := (Option.bind_some _ _).symm.trans H; with_reducible exact H2_) | with_reducible exact H | (rw [hy552]; exact H) | exact H
           have Ny552 := Aside0.mk hy552
           clear hy552
           have H' := Aside0.mk H
           clear H
           have p551 : 0 ≤ (x4_1 : Int) := of_decide_eq_true (by first | (with_reducible assumption) | assumption)
           have q551 : x4_1 < (l0.length : Int) := of_decide_eq_true (by first | (with_reducible assumption) | assumption)
           obtain ⟨ad551, A551_2, c551_2, A551_4, c551_4, e551, hx551_0, hx551_1, hx551_2, hx551_3, hx551_4, hx551_5, hl551_2, hi551_2, hl551_4, hi551_4⟩ := at_T25 HR0.out x4_1 p551 q551
           cases e551
           replace hx551_0 := (HB.out.cell (World.block_lt_of_cell? w _ hx551_0)).trans hx551_0
           replace hx551_1 := (HB.out.cell (World.block_lt_of_cell? w _ hx551_1)).trans hx551_1
           replace hx551_2 := (HB.out.cell (World.block_lt_of_cell? w _ hx551_2)).trans hx551_2
           replace hx551_3 := (HB.out.cell (World.block_lt_of_cell? w _ hx551_3)).trans hx551_3
           replace hx551_4 := (HB.out.cell (World.block_lt_of_cell? w _ hx551_4)).trans hx551_4
           replace hx551_5 := (HB.out.cell (World.block_lt_of_cell? w _ hx551_5)).trans hx551_5
           have HR551_2 := Aside0.mk hi551_2
           have HC551_2 := Aside0.mk hl551_2
           clear hi551_2 hl551_2
           have HR551_4 := Aside0.mk hi551_4
           have HC551_4 := Aside0.mk hl551_4
           clear hi551_4 hl551_4
           replace p551 := eq_true p551
           replace q551 := eq_true q551
           go_wp2_with (first | ((with_reducible refine gate_builtin (b := .append) (xs := #[.tmp 34, .tmp 40]) rfl ?_); at_builtin; refine Kd.R_append Kd.string (w0 := w) w.heap.size rfl (.tmp 34) (.tmp 40) 52 9 (.string ⟨#[]⟩) 16 rfl Try.underlying52 info9 rfl (by decide) (by omega) u3 x3_1 ((rd_T25 l0 x4_1).f0) [.string ((rd_T25 l0 x4_1).f0)] (fun _ => True) (fun _ => False) rfl rfl ?aP (fun _ hk => hk.elim) ?aF ?aO ?aB ?aS ?aL ?_; (case aP => exact rfl); (case aB => exact (by repeat (first | (with_reducible first | exact HB.out | apply below_alloc | apply pw_below_drewN | apply below_drew1) | exact HB.out))); (case aF => exact (fun _ _ => trivial)); (case aO => exact (by (with_reducible repeat (first | apply Kd.R_alloc | apply Kd.R_drewN | apply Kd.R_drew)); exact HO_3.out)); (case aS => exact (below_size (by repeat (first | (with_reducible first | exact HB.out | apply below_alloc | apply pw_below_drewN | apply below_drew1) | exact HB.out)))); (case aL => have := LMc12.out; omega); intro v553 w13 ho hb hg hat; rw [← Ny552.out] at ho; have n0_ := Aside0.mk (hb); have n1_ := Aside0.mk (ho); clear HB; clear HO_3; have HB := n0_; have HO554 := n1_; clear n0_ n1_; clear ho hb hg hat))
           repeat (go_quiet (first | ((with_reducible refine gate_builtin (b := .append) (xs := #[.tmp 34, .tmp 40]) rfl ?_); at_builtin; refine Kd.R_append Kd.string (w0 := w) w.heap.size rfl (.tmp 34) (.tmp 40) 52 9 (.string ⟨#[]⟩) 16 rfl Try.underlying52 info9 rfl (by decide) (by omega) u3 x3_1 ((rd_T25 l0 x4_1).f0) [.string ((rd_T25 l0 x4_1).f0)] (fun _ => True) (fun _ => False) rfl rfl ?aP (fun _ hk => hk.elim) ?aF ?aO ?aB ?aS ?aL ?_; (case aP => exact rfl); (case aB => exact (by repeat (first | (with_reducible first | exact HB.out | apply below_alloc | apply pw_below_drewN | apply below_drew1) | exact HB.out))); (case aF => exact (fun _ _ => trivial)); (case aO => exact (by (with_reducible repeat (first | apply Kd.R_alloc | apply Kd.R_drewN | apply Kd.R_drew)); exact HO_3.out)); (case aS => exact (below_size (by repeat (first | (with_reducible first | exact HB.out | apply below_alloc | apply pw_below_drewN | apply below_drew1) | exact HB.out)))); (case aL => have := LMc12.out; omega); intro v553 w13 ho hb hg hat; rw [← Ny552.out] at ho; have n0_ := Aside0.mk (hb); have n1_ := Aside0.mk (ho); clear HB; clear HO_3; have HB := n0_; have HO554 := n1_; clear n0_ n1_; clear ho hb hg hat)); try go_wp2_with (first | ((with_reducible refine gate_builtin (b := .append) (xs := #[.tmp 34, .tmp 40]) rfl ?_); at_builtin; refine Kd.R_append Kd.string (w0 := w) w.heap.size rfl (.tmp 34) (.tmp 40) 52 9 (.string ⟨#[]⟩) 16 rfl Try.underlying52 info9 rfl (by decide) (by omega) u3 x3_1 ((rd_T25 l0 x4_1).f0) [.string ((rd_T25 l0 x4_1).f0)] (fun _ => True) (fun _ => False) rfl rfl ?aP (fun _ hk => hk.elim) ?aF ?aO ?aB ?aS ?aL ?_; (case aP => exact rfl); (case aB => exact (by repeat (first | (with_reducible first | exact HB.out | apply below_alloc | apply pw_below_drewN | apply below_drew1) | exact HB.out))); (case aF => exact (fun _ _ => trivial)); (case aO => exact (by (with_reducible repeat (first | apply Kd.R_alloc | apply Kd.R_drewN | apply Kd.R_drew)); exact HO_3.out)); (case aS => exact (below_size (by repeat (first | (with_reducible first | exact HB.out | apply below_alloc | apply pw_below_drewN | apply below_drew1) | exact HB.out)))); (case aL => have := LMc12.out; omega); intro v553 w13 ho hb hg hat; rw [← Ny552.out] at ho; have n0_ := Aside0.mk (hb); have n1_ := Aside0.mk (ho); clear HB; clear HO_3; have HB := n0_; have HO554 := n1_; clear n0_ n1_; clear ho hb hg hat)))
           go_roundg k2
           case measure => have := HK1.out; have := HK2.out; omega
           case rel => exact ⟨(y552), (wrap64 (x4_1 + 1)), (by first | rfl | (simp; done) | (simp [*]; done)), H', ⟨by have := HK1.out; have := HK2.out; omega⟩, ⟨by (with_reducible repeat (first | apply Kd.R_alloc | apply Kd.R_drewN | apply Kd.R_drew)); exact HO554.out⟩, ⟨by repeat (first | (with_reducible first | exact HB.out | apply below_alloc | apply pw_below_drewN | apply below_drew1) | exact HB.out)⟩⟩
          ·rw [if_neg c12] at H
           exact absurd H (by simp)
         ·rw [if_neg c11] at H
          exact absurd H (by simp)
        ·rw [if_neg c10] at H
         exact absurd H (by simp)
   ·rw [if_neg c2] at H
    have c2b0 : decide (x4_1 < (l0.length : Int)) = false := decide_eq_false c2
    clear c2
    obtain rfl := Option.some.inj H
    go_wp2
    repeat (go_quiet (fail); try go_wp2)
    go_ret
    exact ⟨_, by first | rfl | (simp [errW_none, errW_some] <;> rfl) | (simp [*, errW_none, errW_some] <;> rfl), by (with_reducible repeat (first | apply Kd.R_alloc | apply Kd.R_drewN | apply Kd.R_drew)); exact HO_3.out, by repeat (first | (with_reducible first | exact HB.out | apply below_alloc | apply pw_below_drewN | apply below_drew1) | exact HB.out)⟩
end Go.Proofs.Yteamldgngknmfaa.PE
