-- Printed by the kit's print.py over contracts of this session's own.
import Derived.Test.YteamldgngknmfaaZJMNorm
import Derived.Test.YteamldgngknmfaaZJPEx11
import Derived.Test.YteamldgngknmfaaZJPEx12
import Derived.Test.YteamldgngknmfaaZJPEx4
import Derived.Test.YteamldgngknmfaaZJPEx0
import Derived.Test.YteamldgngknmfaaZJPEx18
import Derived.Test.YteamldgngknmfaaZJReadSt
namespace Go.Proofs.Yteamldgngknmfaa.PE
open Go.RowKit Go.Proofs.YteamldgngknmfaaW.PrintWords Go.Proofs.YteamldgngknmfaaW.PrintLast Go.Proofs.YteamldgngknmfaaW.PrintMore
attribute [local go_sem] max2_int min2_int max_two min_two max_three min_three max_four min_four   -- for this text's walks alone
set_option linter.unusedVariables false
set_option linter.unusedSimpArgs false
def forebaylaw07_MetricTags.T12 : Bool × List (List Nat × List Nat) := (true, [([], []), ([0], [0]), ([], []), ([], []), ([3], [3]), ([], []), ([], []), ([6], [6]), ([], []), ([7, 8], [7, 8]), ([9], [9]), ([], []), ([11], [11]), ([], []), ([12, 13], [12, 13]), ([14], [14]), ([1, 2, 0, 1, 2, 6, 7, 8, 9, 10, 15], [1, 2]), ([16, 10, 0, 1, 2, 6, 7, 8, 9, 10, 15], [10, 16]), ([4, 5, 0, 1, 2, 3, 4, 5, 6, 7, 8, 9, 10, 11, 12, 13, 14, 15, 16, 17], [4, 5]), ([18, 15, 17, 0, 1, 2, 3, 4, 5, 6, 7, 8, 9, 10, 11, 12, 13, 14, 15, 16, 17], [15, 18])])
def forebaylaw07_MetricTags.B12 : List Nat := [0, 1, 0, 0, 8, 0, 0, 64, 0, 448, 960, 0, 2048, 0, 14336, 30720, 65479, 131015, 262143, 524287]
theorem forebaylaw07_MetricTags.tab12 : rtab .any (opsOf Try.f6 12) = forebaylaw07_MetricTags.T12 := by kernel_rfl
theorem forebaylaw07_MetricTags.bits12 : waitsOk forebaylaw07_MetricTags.T12.2 forebaylaw07_MetricTags.B12 = true := by kernel_rfl
def forebaylaw07_MetricTags.T14 : Bool × List (List Nat × List Nat) := (true, [([], []), ([0], [0]), ([], []), ([2], [2]), ([], []), ([4], [4]), ([], []), ([5, 6], [5, 6]), ([], []), ([7, 8], [7, 8]), ([], []), ([9, 10], [9, 10]), ([3, 11], [3, 11]), ([12], [12]), ([13], [13]), ([1, 14], [1, 14]), ([0, 1, 2, 3, 4, 5, 6, 7, 8, 9, 10, 11, 12, 13, 14, 15], []), ([16, 15, 15, 0, 1, 2, 3, 4, 5, 6, 7, 8, 9, 10, 11, 12, 13, 14, 15], [15, 16])])
def forebaylaw07_MetricTags.B14 : List Nat := [0, 1, 0, 4, 0, 16, 0, 112, 0, 496, 0, 2032, 4092, 8188, 16380, 32767, 65535, 131071]
theorem forebaylaw07_MetricTags.tab14 : rtab .any (opsOf Try.f6 14) = forebaylaw07_MetricTags.T14 := by kernel_rfl
theorem forebaylaw07_MetricTags.bits14 : waitsOk forebaylaw07_MetricTags.T14.2 forebaylaw07_MetricTags.B14 = true := by kernel_rfl
def forebaylaw07_MetricTags.T23 : Bool × List (List Nat × List Nat) := (true, [([], []), ([0], [0]), ([], []), ([], []), ([3], [3]), ([], []), ([], []), ([6], [6]), ([], []), ([7, 8], [7, 8]), ([9], [9]), ([], []), ([11], [11]), ([], []), ([12, 13], [12, 13]), ([14], [14]), ([1, 2, 0, 1, 2, 6, 7, 8, 9, 10, 15], [1, 2]), ([16, 10, 0, 1, 2, 6, 7, 8, 9, 10, 15], [10, 16]), ([4, 5, 0, 1, 2, 3, 4, 5, 6, 7, 8, 9, 10, 11, 12, 13, 14, 15, 16, 17], [4, 5]), ([18, 15, 17, 0, 1, 2, 3, 4, 5, 6, 7, 8, 9, 10, 11, 12, 13, 14, 15, 16, 17], [15, 18])])
def forebaylaw07_MetricTags.B23 : List Nat := [0, 1, 0, 0, 8, 0, 0, 64, 0, 448, 960, 0, 2048, 0, 14336, 30720, 65479, 131015, 262143, 524287]
theorem forebaylaw07_MetricTags.tab23 : rtab .any (opsOf Try.f6 23) = forebaylaw07_MetricTags.T23 := by kernel_rfl
theorem forebaylaw07_MetricTags.bits23 : waitsOk forebaylaw07_MetricTags.T23.2 forebaylaw07_MetricTags.B23 = true := by kernel_rfl
def forebaylaw07_MetricTags.T28 : Bool × List (List Nat × List Nat) := (true, [([], []), ([], []), ([0, 1], [0, 1]), ([], []), ([], []), ([3, 4, 2], [3, 4]), ([2, 5], [2, 5]), ([6, 5], [6]), ([7, 7], [7]), ([7, 8], [7, 8]), ([9, 8, 0, 1, 2, 3, 4, 5, 6, 7, 8, 9], [9])])
def forebaylaw07_MetricTags.B28 : List Nat := [0, 0, 3, 0, 0, 31, 63, 127, 255, 511, 1023]
theorem forebaylaw07_MetricTags.tab28 : rtab .any (opsOf Try.f6 28) = forebaylaw07_MetricTags.T28 := by kernel_rfl
theorem forebaylaw07_MetricTags.bits28 : waitsOk forebaylaw07_MetricTags.T28.2 forebaylaw07_MetricTags.B28 = true := by kernel_rfl
set_option maxHeartbeats 8000000 in
set_option maxRecDepth 100000 in
theorem forebaylaw07_MetricTags.calls (k : Nat) (a0_0 : ByteArray) (a0_1 : Int) (A0_2 : Option Addr) (c0_2 : Nat) (l0_2 : List (S40)) (a0_3 : Int) (A0_4 : Option Addr) (c0_4 : Nat) (l0_4 : List (S37)) (a0_5 : Int) (A1 : Option Addr) (c1 : Nat) (l1 : List Int) (a2_0 : Int) (a2_1 : Int) (a2_2 : Int) (r : Bool) (w : World) (hr0_2 : Kd.C k40 w A0_2 l0_2.length l0_2) (hc0_2 : l0_2.length ≤ c0_2) (hr0_4 : Kd.C k37 w A0_4 l0_4.length l0_4) (hc0_4 : l0_4.length ≤ c0_4) (hr1 : Kd.C (Kd.int .i64) w A1 l1.length l1) (hc1 : l1.length ≤ c1) (h : forebaylaw07_MetricTags.f k a0_0 a0_1 l0_2 a0_3 l0_4 a0_5 l1 a2_0 a2_1 a2_2 = some r) :
  Calls Try.prog 6 #[.agg #[.string a0_0, .int .i64 a0_1, .slice A0_2 l0_2.length c0_2, .int .i64 a0_3, .slice A0_4 l0_4.length c0_4, .int .i64 a0_5], .slice A1 l1.length c1, .agg #[.int .i64 a2_0, .int .i64 a2_1, .int .i64 a2_2]] w fun e w' => e = .returned (.bool r) ∧ Below w.heap.size w w' := by
 have hu25 := Try.underlying25
 have hu34 := Try.underlying34
 have hu37 := Try.underlying37
 have hu40 := Try.underlying40
 have HR0_2 := Aside0.mk hr0_2
 have HC0_2 := Aside0.mk hc0_2
 clear hr0_2 hc0_2
 have HR0_4 := Aside0.mk hr0_4
 have HC0_4 := Aside0.mk hc0_4
 clear hr0_4 hc0_4
 have HR1 := Aside0.mk hr1
 have HC1 := Aside0.mk hc1
 clear hr1 hc1
 have HB := Aside0.mk (Below.refl w.heap.size w)
 have H : ((forebaylaw07_Few.f k a0_0 a0_1 l0_2 a0_3 l0_4 a0_5).bind fun t185 => (if t185 = true then (forebaylaw07_MetricTags.j0 k l1 (decide ((l1.length : Int) > 60)) a0_0 a0_1 l0_2 a0_3 l0_4 a0_5 a2_0 a2_1 a2_2) else (forebaylaw07_MetricTags.j0 k l1 true a0_0 a0_1 l0_2 a0_3 l0_4 a0_5 a2_0 a2_1 a2_2))) = some r := h
 clear h
 have HC4 := Aside0.mk H
 clear H
 go_enter Try.func6, Try.ntmps6
 go_upto_region 1 with (first | ((with_reducible refine gate_dst (N := 3) rfl ?_); (try (refine gate_guard (by rfl) ?_; dsimp only)); refine box_event ?hg (N := 3) ?hd (cs := #[.string a0_0, .int .i64 a0_1, .slice A0_2 l0_2.length c0_2, .int .i64 a0_3, .slice A0_4 l0_4.length c0_4, .int .i64 a0_5]) (t := 25) ?hr ?_; (case hd => rfl); (case hg => rfl); (case hr => first | (go_simp; done) | (go_simp; rfl)); intro gb183 hg w5 hbox hb; have n0_ := Aside0.mk (below_step (by repeat (first | (with_reducible first | exact HB.out | apply below_alloc | apply pw_below_drewN | apply below_drew1) | exact HB.out)) hb); have n1_ := Aside0.mk (hbox); have n2_ := Aside0.mk ((by rw [hg]; exact (below_size (by repeat (first | (with_reducible first | exact HB.out | apply below_alloc | apply pw_below_drewN | apply below_drew1) | exact HB.out))) : w.heap.size ≤ gb183)); have n3_ := Aside0.mk ((by rw [hg]; exact (below_size (by repeat (first | (with_reducible first | exact HB.out | apply below_alloc | apply pw_below_drewN | apply below_drew1) | exact HB.out))) : w.heap.size ≤ gb183)); clear HB; have HB := n0_; have BK183 := n1_; have GW183 := n2_; have GE183 := n3_; clear n0_ n1_ n2_ n3_; clear hb hbox hg) | ((with_reducible refine gate_dst (N := 5) rfl ?_); (try (refine gate_guard (by rfl) ?_; dsimp only)); refine box_event ?hg (N := 5) ?hd (cs := #[.int .i64 a2_0, .int .i64 a2_1, .int .i64 a2_2]) (t := 34) ?hr ?_; (case hd => rfl); (case hg => rfl); (case hr => first | (go_simp; done) | (go_simp; rfl)); intro gb184 hg w6 hbox hb; have n0_ := Aside0.mk (blk_below (g := gb183) (o := .cells #[.string a0_0, .int .i64 a0_1, .slice A0_2 l0_2.length c0_2, .int .i64 a0_3, .slice A0_4 l0_4.length c0_4, .int .i64 a0_5] 25 (0, 0)) (by (with_reducible repeat (first | refine blk_drewN ?_ _ | refine blk_drew ?_ | refine blk_alloc ?_ _)); exact BK183.out) hb); have n1_ := Aside0.mk (below_step (by repeat (first | (with_reducible first | exact HB.out | apply below_alloc | apply pw_below_drewN | apply below_drew1 | refine below_set ?_ GE183.out) | exact HB.out)) hb); have n2_ := Aside0.mk (hbox); have n3_ := Aside0.mk ((by rw [hg]; exact (below_size (by repeat (first | (with_reducible first | exact HB.out | apply below_alloc | apply pw_below_drewN | apply below_drew1 | refine below_set ?_ GE183.out) | exact HB.out))) : w.heap.size ≤ gb184)); have n4_ := Aside0.mk ((by rw [hg]; exact (below_size (by repeat (first | (with_reducible first | exact HB.out | apply below_alloc | apply pw_below_drewN | apply below_drew1 | refine below_set ?_ GE183.out) | exact HB.out))) : w.heap.size ≤ gb184)); have n5_ := Aside0.mk ((by rw [hg]; exact Nat.ne_of_lt (blk_lt (g := gb183) (o := .cells #[.string a0_0, .int .i64 a0_1, .slice A0_2 l0_2.length c0_2, .int .i64 a0_3, .slice A0_4 l0_4.length c0_4, .int .i64 a0_5] 25 (0, 0)) (by (with_reducible repeat (first | refine blk_drewN ?_ _ | refine blk_drew ?_ | refine blk_alloc ?_ _)); exact BK183.out)) : gb183 ≠ gb184)); have n6_ := Aside0.mk ((by rw [hg]; exact Nat.ne_of_gt (blk_lt (g := gb183) (o := .cells #[.string a0_0, .int .i64 a0_1, .slice A0_2 l0_2.length c0_2, .int .i64 a0_3, .slice A0_4 l0_4.length c0_4, .int .i64 a0_5] 25 (0, 0)) (by (with_reducible repeat (first | refine blk_drewN ?_ _ | refine blk_drew ?_ | refine blk_alloc ?_ _)); exact BK183.out)) : gb184 ≠ gb183)); clear BK183; clear HB; have BK183 := n0_; have HB := n1_; have BK184 := n2_; have GW184 := n3_; have GE184 := n4_; have NB183_184 := n5_; have NB184_183 := n6_; clear n0_ n1_ n2_ n3_ n4_ n5_ n6_; clear hb hbox hg))
 (try simp only [Act.put, List.setIfInBounds_toArray, List.set_cons_zero, List.set_cons_succ])
 go_cut [26] (fun v26 wc => ∃ (kq : Nat) (x26_3 : Bool), v26 = .bool x26_3 ∧ Aside0 (forebaylaw07_MetricTags.j0 kq l1 x26_3 a0_0 a0_1 l0_2 a0_3 l0_4 a0_5 a2_0 a2_1 a2_2 = some r) ∧ Aside0 (kq ≤ k) ∧ Aside0 (wc.heap[gb183]? = some (.cells #[.string a0_0, .int .i64 a0_1, (.slice A0_2 l0_2.length c0_2), .int .i64 a0_3, (.slice A0_4 l0_4.length c0_4), .int .i64 a0_5] 25 (0, 0))) ∧ Aside0 (wc.heap[gb184]? = some (.cells #[.int .i64 a2_0, .int .i64 a2_1, .int .i64 a2_2] 34 (0, 0))) ∧ Aside0 (Below w.heap.size w wc))
 case first =>
  have H := HC4.out
  clear HC4
  replace H := Option.bind_eq_some_iff.mp H
  obtain ⟨t185, A70, H⟩ := H
  replace H : (if t185 = true then (forebaylaw07_MetricTags.j0 k l1 (decide ((l1.length : Int) > 60)) a0_0 a0_1 l0_2 a0_3 l0_4 a0_5 a2_0 a2_1 a2_2) else (forebaylaw07_MetricTags.j0 k l1 true a0_0 a0_1 l0_2 a0_3 l0_4 a0_5 a2_0 a2_1 a2_2)) = some r := H
  have A7 := Aside0.mk A70
  clear A70
  by_cases c8 : t185 = true
  ·subst c8
   have H1 : (forebaylaw07_MetricTags.j0 k l1 (decide ((l1.length : Int) > 60)) a0_0 a0_1 l0_2 a0_3 l0_4 a0_5 a2_0 a2_1 a2_2) = some r := by rw [if_pos rfl] at H; exact H
   clear H
   have H := H1
   clear H1
   have H' := Aside0.mk H
   clear H
   have hnb9 := NB183_184.out
   have hnc9 := NB184_183.out
   have hcz10_0 : w6.cell? ⟨gb183, 0, none⟩ = some (.string a0_0) := (blk_cell BK183.out 0).trans rfl
   have hcz10_1 : w6.cell? ⟨gb183, 1, none⟩ = some (.int .i64 a0_1) := (blk_cell BK183.out 1).trans rfl
   have hcz10_2 : w6.cell? ⟨gb183, 2, none⟩ = some (.slice A0_2 l0_2.length c0_2) := (blk_cell BK183.out 2).trans rfl
   have hcz10_3 : w6.cell? ⟨gb183, 3, none⟩ = some (.int .i64 a0_3) := (blk_cell BK183.out 3).trans rfl
   have hcz10_4 : w6.cell? ⟨gb183, 4, none⟩ = some (.slice A0_4 l0_4.length c0_4) := (blk_cell BK183.out 4).trans rfl
   have hcz10_5 : w6.cell? ⟨gb183, 5, none⟩ = some (.int .i64 a0_5) := (blk_cell BK183.out 5).trans rfl
   have hfz10_0 := blk_frozen BK183.out 0
   have hfz10_1 := blk_frozen BK183.out 1
   have hfz10_2 := blk_frozen BK183.out 2
   have hfz10_3 := blk_frozen BK183.out 3
   have hfz10_4 := blk_frozen BK183.out 4
   have hfz10_5 := blk_frozen BK183.out 5
   go_wp2_with (first | ((with_reducible refine gate_callee (f := 14) rfl ?_); refine goesL_ (some 20) rfl rfl Try.func14 (by kernel_rfl) rfl #[.agg #[.string a0_0, .int .i64 a0_1, .slice A0_2 l0_2.length c0_2, .int .i64 a0_3, .slice A0_4 l0_4.length c0_4, .int .i64 a0_5]] rfl (by (try simp only [List.map_toArray, List.map_cons, List.map_nil]); first | done | rfl | (simp only [List.length_drop, List.length_take]; rfl)) ?_; (with_reducible refine (forebaylaw07_Few.calls k a0_0 a0_1 _ _ l0_2 a0_3 _ _ l0_4 a0_5 true _ ?side1 ?side2 ?side3 ?side4 A7.out).mono ?_); (case side1 => repeat (first | exact (Kd.C_below HR0_2.out HB.out) | (with_reducible refine Kd.C_alloc ?_ _) | (with_reducible refine Kd.C_drewN ?_ _) | (with_reducible refine Kd.C_drew ?_))); (case side2 => exact HC0_2.out); (case side3 => repeat (first | exact (Kd.C_below HR0_4.out HB.out) | (with_reducible refine Kd.C_alloc ?_ _) | (with_reducible refine Kd.C_drewN ?_ _) | (with_reducible refine Kd.C_drew ?_))); (case side4 => exact HC0_4.out); rintro e w11 ⟨rfl, hb⟩; refine ⟨_, rfl, ?_⟩; have n0_ := Aside0.mk (blk_below (g := gb183) (o := .cells #[.string a0_0, .int .i64 a0_1, .slice A0_2 l0_2.length c0_2, .int .i64 a0_3, .slice A0_4 l0_4.length c0_4, .int .i64 a0_5] 25 (0, 0)) (by (with_reducible repeat (first | refine blk_drewN ?_ _ | refine blk_drew ?_ | refine blk_alloc ?_ _)); exact BK183.out) hb); have n1_ := Aside0.mk (blk_below (g := gb184) (o := .cells #[.int .i64 a2_0, .int .i64 a2_1, .int .i64 a2_2] 34 (0, 0)) (by (with_reducible repeat (first | refine blk_drewN ?_ _ | refine blk_drew ?_ | refine blk_alloc ?_ _)); exact BK184.out) hb); have n2_ := Aside0.mk (below_step (by repeat (first | (with_reducible first | exact HB.out | apply below_alloc | apply pw_below_drewN | apply below_drew1 | refine below_set ?_ GE183.out | refine below_set ?_ GE184.out) | exact HB.out)) hb); clear BK183; clear BK184; clear HB; have BK183 := n0_; have BK184 := n1_; have HB := n2_; clear n0_ n1_ n2_; (try clear hb); (try clear hb2); (try clear hk); (try clear hi)))
   go_meet
   case rel => exact ⟨_, (decide ((l1.length : Int) > 60)), (by first | rfl | (simp; done) | (simp [*]; done)), H', ⟨by first | omega | exact Nat.le_refl _⟩, ⟨by (with_reducible repeat (first | refine blk_drewN ?_ _ | refine blk_drew ?_ | refine blk_alloc ?_ _)); exact BK183.out⟩, ⟨by (with_reducible repeat (first | refine blk_drewN ?_ _ | refine blk_drew ?_ | refine blk_alloc ?_ _)); exact BK184.out⟩, ⟨by repeat (first | (with_reducible first | exact HB.out | apply below_alloc | apply pw_below_drewN | apply below_drew1 | refine below_set ?_ GE183.out | refine below_set ?_ GE184.out) | exact HB.out)⟩⟩
  replace c8 := Bool.eq_false_iff.mpr c8
  subst c8
  have H1 : (forebaylaw07_MetricTags.j0 k l1 true a0_0 a0_1 l0_2 a0_3 l0_4 a0_5 a2_0 a2_1 a2_2) = some r := by rw [if_neg (show ¬ (false = true) by decide)] at H; exact H
  clear H
  have H := H1
  clear H1
  have H' := Aside0.mk H
  clear H
  have hnb12 := NB183_184.out
  have hnc12 := NB184_183.out
  have hcz13_0 : w6.cell? ⟨gb183, 0, none⟩ = some (.string a0_0) := (blk_cell BK183.out 0).trans rfl
  have hcz13_1 : w6.cell? ⟨gb183, 1, none⟩ = some (.int .i64 a0_1) := (blk_cell BK183.out 1).trans rfl
  have hcz13_2 : w6.cell? ⟨gb183, 2, none⟩ = some (.slice A0_2 l0_2.length c0_2) := (blk_cell BK183.out 2).trans rfl
  have hcz13_3 : w6.cell? ⟨gb183, 3, none⟩ = some (.int .i64 a0_3) := (blk_cell BK183.out 3).trans rfl
  have hcz13_4 : w6.cell? ⟨gb183, 4, none⟩ = some (.slice A0_4 l0_4.length c0_4) := (blk_cell BK183.out 4).trans rfl
  have hcz13_5 : w6.cell? ⟨gb183, 5, none⟩ = some (.int .i64 a0_5) := (blk_cell BK183.out 5).trans rfl
  have hfz13_0 := blk_frozen BK183.out 0
  have hfz13_1 := blk_frozen BK183.out 1
  have hfz13_2 := blk_frozen BK183.out 2
  have hfz13_3 := blk_frozen BK183.out 3
  have hfz13_4 := blk_frozen BK183.out 4
  have hfz13_5 := blk_frozen BK183.out 5
  go_wp2_with (first | ((with_reducible refine gate_callee (f := 14) rfl ?_); refine goesL_ (some 20) rfl rfl Try.func14 (by kernel_rfl) rfl #[.agg #[.string a0_0, .int .i64 a0_1, .slice A0_2 l0_2.length c0_2, .int .i64 a0_3, .slice A0_4 l0_4.length c0_4, .int .i64 a0_5]] rfl (by (try simp only [List.map_toArray, List.map_cons, List.map_nil]); first | done | rfl | (simp only [List.length_drop, List.length_take]; rfl)) ?_; (with_reducible refine (forebaylaw07_Few.calls k a0_0 a0_1 _ _ l0_2 a0_3 _ _ l0_4 a0_5 false _ ?side1 ?side2 ?side3 ?side4 A7.out).mono ?_); (case side1 => repeat (first | exact (Kd.C_below HR0_2.out HB.out) | (with_reducible refine Kd.C_alloc ?_ _) | (with_reducible refine Kd.C_drewN ?_ _) | (with_reducible refine Kd.C_drew ?_))); (case side2 => exact HC0_2.out); (case side3 => repeat (first | exact (Kd.C_below HR0_4.out HB.out) | (with_reducible refine Kd.C_alloc ?_ _) | (with_reducible refine Kd.C_drewN ?_ _) | (with_reducible refine Kd.C_drew ?_))); (case side4 => exact HC0_4.out); rintro e w14 ⟨rfl, hb⟩; refine ⟨_, rfl, ?_⟩; have n0_ := Aside0.mk (blk_below (g := gb183) (o := .cells #[.string a0_0, .int .i64 a0_1, .slice A0_2 l0_2.length c0_2, .int .i64 a0_3, .slice A0_4 l0_4.length c0_4, .int .i64 a0_5] 25 (0, 0)) (by (with_reducible repeat (first | refine blk_drewN ?_ _ | refine blk_drew ?_ | refine blk_alloc ?_ _)); exact BK183.out) hb); have n1_ := Aside0.mk (blk_below (g := gb184) (o := .cells #[.int .i64 a2_0, .int .i64 a2_1, .int .i64 a2_2] 34 (0, 0)) (by (with_reducible repeat (first | refine blk_drewN ?_ _ | refine blk_drew ?_ | refine blk_alloc ?_ _)); exact BK184.out) hb); have n2_ := Aside0.mk (below_step (by repeat (first | (with_reducible first | exact HB.out | apply below_alloc | apply pw_below_drewN | apply below_drew1 | refine below_set ?_ GE183.out | refine below_set ?_ GE184.out) | exact HB.out)) hb); clear BK183; clear BK184; clear HB; have BK183 := n0_; have BK184 := n1_; have HB := n2_; clear n0_ n1_ n2_; (try clear hb); (try clear hb2); (try clear hk); (try clear hi)))
  go_meet
  case rel => exact ⟨_, (true), (by first | rfl | (simp; done) | (simp [*]; done)), H', ⟨by first | omega | exact Nat.le_refl _⟩, ⟨by (with_reducible repeat (first | refine blk_drewN ?_ _ | refine blk_drew ?_ | refine blk_alloc ?_ _)); exact BK183.out⟩, ⟨by (with_reducible repeat (first | refine blk_drewN ?_ _ | refine blk_drew ?_ | refine blk_alloc ?_ _)); exact BK184.out⟩, ⟨by repeat (first | (with_reducible first | exact HB.out | apply below_alloc | apply pw_below_drewN | apply below_drew1 | refine below_set ?_ GE183.out | refine below_set ?_ GE184.out) | exact HB.out)⟩⟩
 clear HC4
 try clear c1
 try clear p2
 try clear c6
 try clear c8
 try clear c9
 try clear c12
 try clear c14
 try clear hcz10_0
 try clear hcz10_1
 try clear hcz10_2
 try clear hcz10_3
 try clear hcz10_4
 try clear hcz10_5
 try clear hcz13_0
 try clear hcz13_1
 try clear hcz13_2
 try clear hcz13_3
 try clear hcz13_4
 try clear hcz13_5
 try clear hfz10_0
 try clear hfz10_1
 try clear hfz10_2
 try clear hfz10_3
 try clear hfz10_4
 try clear hfz10_5
 try clear hfz13_0
 try clear hfz13_1
 try clear hfz13_2
 try clear hfz13_3
 try clear hfz13_4
 try clear hfz13_5
 obtain ⟨kq, x26_3, rfl, HA, HJ3, BK183, BK184, HB⟩ := hcut
 cases kq with
 | zero => exact absurd HA.out (by simp [forebaylaw07_MetricTags.j0])
 | succ kj3 =>
  have H := HA.out
  clear HA
  simp only [forebaylaw07_MetricTags.j0] at H
  by_cases c15 : x26_3 = true
  ·subst c15
   have H1 : ((forebaylaw07_awake.f kj3).bind fun t186 => (some t186)) = some r := by rw [if_pos rfl] at H; exact H
   clear H
   have H := H1
   clear H1
   replace H := Option.bind_eq_some_iff.mp H
   obtain ⟨t186, A160, H⟩ := H
   replace H : (some t186) = some r := H
   have A16 := Aside0.mk A160
   clear A160
   obtain rfl := Option.some.inj H
   go_wp2_with (first | ((with_reducible refine gate_callee (f := 15) rfl ?_); refine goesL_ (some 27) rfl rfl Try.func15 (by kernel_rfl) rfl #[] rfl (by (try simp only [List.map_toArray, List.map_cons, List.map_nil]); first | done | rfl | (simp only [List.length_drop, List.length_take]; rfl)) ?_; (with_reducible refine (forebaylaw07_awake.calls kj3  t186 _ A16.out).mono ?_); rintro e w17 ⟨rfl, hb⟩; refine ⟨_, rfl, ?_⟩; have n0_ := Aside0.mk (blk_below (g := gb183) (o := .cells #[.string a0_0, .int .i64 a0_1, .slice A0_2 l0_2.length c0_2, .int .i64 a0_3, .slice A0_4 l0_4.length c0_4, .int .i64 a0_5] 25 (0, 0)) (by (with_reducible repeat (first | refine blk_drewN ?_ _ | refine blk_drew ?_ | refine blk_alloc ?_ _)); exact BK183.out) hb); have n1_ := Aside0.mk (blk_below (g := gb184) (o := .cells #[.int .i64 a2_0, .int .i64 a2_1, .int .i64 a2_2] 34 (0, 0)) (by (with_reducible repeat (first | refine blk_drewN ?_ _ | refine blk_drew ?_ | refine blk_alloc ?_ _)); exact BK184.out) hb); have n2_ := Aside0.mk (below_step (by repeat (first | (with_reducible first | exact HB.out | apply below_alloc | apply pw_below_drewN | apply below_drew1 | refine below_set ?_ GE183.out | refine below_set ?_ GE184.out) | exact HB.out)) hb); clear BK183; clear BK184; clear HB; have BK183 := n0_; have BK184 := n1_; have HB := n2_; clear n0_ n1_ n2_; (try clear hb); (try clear hb2); (try clear hk); (try clear hi)))
   go_ret
   exact ⟨by first | rfl | (simp [errW_none, errW_some] <;> rfl) | (simp [*, errW_none, errW_some] <;> rfl), by repeat (first | (with_reducible first | exact HB.out | apply below_alloc | apply pw_below_drewN | apply below_drew1 | refine below_set ?_ GE183.out | refine below_set ?_ GE184.out) | exact HB.out)⟩
  replace c15 := Bool.eq_false_iff.mpr c15
  subst c15
  have H1 : ((metric_Clone.f a0_0 a0_1 l0_2 a0_3 l0_4 a0_5).bind fun bt187 => ((forebayref07_Equal.f kj3 bt187.1 bt187.2.1 bt187.2.2.1 bt187.2.2.2.1 bt187.2.2.2.2.1 bt187.2.2.2.2.2 a0_0 a0_1 l0_2 a0_3 l0_4 a0_5).bind fun t198 => (if t198 = true then (forebaylaw07_MetricTags.l0 kj3 l1 (bt187.2.2.2.2.1.length : Int) 0 a0_0 a0_1 l0_2 a0_3 l0_4 a0_5 a2_0 a2_1 a2_2 bt187.1 bt187.2.1 bt187.2.2.1 bt187.2.2.2.1 bt187.2.2.2.2.1 bt187.2.2.2.2.2) else (none)))) = some r := by rw [if_neg (show ¬ (false = true) by decide)] at H; exact H
  clear H
  have H := H1
  clear H1
  replace H := Option.bind_eq_some_iff.mp H
  obtain ⟨⟨t187, t188, t189, t192, t193, t196⟩, A180, H⟩ := H
  replace H : ((forebayref07_Equal.f kj3 t187 t188 t189 t192 t193 t196 a0_0 a0_1 l0_2 a0_3 l0_4 a0_5).bind fun t198 => (if t198 = true then (forebaylaw07_MetricTags.l0 kj3 l1 (t193.length : Int) 0 a0_0 a0_1 l0_2 a0_3 l0_4 a0_5 a2_0 a2_1 a2_2 t187 t188 t189 t192 t193 t196) else (none))) = some r := H
  have A18 := Aside0.mk A180
  clear A180
  replace H := Option.bind_eq_some_iff.mp H
  obtain ⟨t198, A190, H⟩ := H
  replace H : (if t198 = true then (forebaylaw07_MetricTags.l0 kj3 l1 (t193.length : Int) 0 a0_0 a0_1 l0_2 a0_3 l0_4 a0_5 a2_0 a2_1 a2_2 t187 t188 t189 t192 t193 t196) else (none)) = some r := H
  have A19 := Aside0.mk A190
  clear A190
  by_cases c20 : t198 = true
  rotate_left
  ·replace c20 := Bool.eq_false_iff.mpr c20
   subst c20
   have H1 : (none) = some r := by rw [if_neg (show ¬ (false = true) by decide)] at H; exact H
   clear H
   have H := H1
   clear H1
   exact absurd H (by simp)
  subst c20
  have H1 : (forebaylaw07_MetricTags.l0 kj3 l1 (t193.length : Int) 0 a0_0 a0_1 l0_2 a0_3 l0_4 a0_5 a2_0 a2_1 a2_2 t187 t188 t189 t192 t193 t196) = some r := by rw [if_pos rfl] at H; exact H
  clear H
  have H := H1
  clear H1
  have HC21 := Aside0.mk H
  clear H
  have hnb22 := NB183_184.out
  have hnc22 := NB184_183.out
  have hcz23_0 : wc.cell? ⟨gb183, 0, none⟩ = some (.string a0_0) := (blk_cell BK183.out 0).trans rfl
  have hcz23_1 : wc.cell? ⟨gb183, 1, none⟩ = some (.int .i64 a0_1) := (blk_cell BK183.out 1).trans rfl
  have hcz23_2 : wc.cell? ⟨gb183, 2, none⟩ = some (.slice A0_2 l0_2.length c0_2) := (blk_cell BK183.out 2).trans rfl
  have hcz23_3 : wc.cell? ⟨gb183, 3, none⟩ = some (.int .i64 a0_3) := (blk_cell BK183.out 3).trans rfl
  have hcz23_4 : wc.cell? ⟨gb183, 4, none⟩ = some (.slice A0_4 l0_4.length c0_4) := (blk_cell BK183.out 4).trans rfl
  have hcz23_5 : wc.cell? ⟨gb183, 5, none⟩ = some (.int .i64 a0_5) := (blk_cell BK183.out 5).trans rfl
  have hfz23_0 := blk_frozen BK183.out 0
  have hfz23_1 := blk_frozen BK183.out 1
  have hfz23_2 := blk_frozen BK183.out 2
  have hfz23_3 := blk_frozen BK183.out 3
  have hfz23_4 := blk_frozen BK183.out 4
  have hfz23_5 := blk_frozen BK183.out 5
  go_upto_block 0 with (first | ((with_reducible refine gate_callee (f := 24) rfl ?_); refine goesL_ (some 29) rfl rfl Try.func24 (by kernel_rfl) rfl #[.agg #[.string a0_0, .int .i64 a0_1, .slice A0_2 l0_2.length c0_2, .int .i64 a0_3, .slice A0_4 l0_4.length c0_4, .int .i64 a0_5]] rfl (by (try simp only [List.map_toArray, List.map_cons, List.map_nil]); first | done | rfl | (simp only [List.length_drop, List.length_take]; rfl)) ?_; (with_reducible refine (metric_Clone.calls a0_0 a0_1 _ _ l0_2 a0_3 _ _ l0_4 a0_5 t187 t188 t189 t192 t193 t196 _ ?side1 ?side2 ?side3 ?side4 A18.out).mono ?_); (case side1 => repeat (first | exact (Kd.C_below HR0_2.out HB.out) | (with_reducible refine Kd.C_alloc ?_ _) | (with_reducible refine Kd.C_drewN ?_ _) | (with_reducible refine Kd.C_drew ?_))); (case side2 => exact HC0_2.out); (case side3 => repeat (first | exact (Kd.C_below HR0_4.out HB.out) | (with_reducible refine Kd.C_alloc ?_ _) | (with_reducible refine Kd.C_drewN ?_ _) | (with_reducible refine Kd.C_drew ?_))); (case side4 => exact HC0_4.out); rintro e w24 ⟨v190, v194, rfl, ho0, ho1, hb⟩; refine ⟨_, rfl, ?_⟩; have n0_ := Aside0.mk (Kd.R_lower ho0 (below_size (by repeat (first | (with_reducible first | exact HB.out | apply below_alloc | apply pw_below_drewN | apply below_drew1 | refine below_set ?_ GE183.out | refine below_set ?_ GE184.out) | exact HB.out)))); have n1_ := Aside0.mk (Kd.R_lower ho1 (below_size (by repeat (first | (with_reducible first | exact HB.out | apply below_alloc | apply pw_below_drewN | apply below_drew1 | refine below_set ?_ GE183.out | refine below_set ?_ GE184.out) | exact HB.out)))); have n2_ := Aside0.mk (blk_below (g := gb183) (o := .cells #[.string a0_0, .int .i64 a0_1, .slice A0_2 l0_2.length c0_2, .int .i64 a0_3, .slice A0_4 l0_4.length c0_4, .int .i64 a0_5] 25 (0, 0)) (by (with_reducible repeat (first | refine blk_drewN ?_ _ | refine blk_drew ?_ | refine blk_alloc ?_ _)); exact BK183.out) hb); have n3_ := Aside0.mk (blk_below (g := gb184) (o := .cells #[.int .i64 a2_0, .int .i64 a2_1, .int .i64 a2_2] 34 (0, 0)) (by (with_reducible repeat (first | refine blk_drewN ?_ _ | refine blk_drew ?_ | refine blk_alloc ?_ _)); exact BK184.out) hb); have n4_ := Aside0.mk (below_step (by repeat (first | (with_reducible first | exact HB.out | apply below_alloc | apply pw_below_drewN | apply below_drew1 | refine below_set ?_ GE183.out | refine below_set ?_ GE184.out) | exact HB.out)) hb); clear BK183; clear BK184; clear HB; have HO191 := n0_; have HO195 := n1_; have BK183 := n2_; have BK184 := n3_; have HB := n4_; clear n0_ n1_ n2_ n3_ n4_; (try clear hb); (try clear hb2); (try clear hk); (try clear hi); (try clear ho0); (try clear ho1)) | ((with_reducible refine gate_dst (N := 7) rfl ?_); (try (refine gate_guard (by rfl) ?_; dsimp only)); refine box_event ?hg (N := 7) ?hd (cs := #[.string (⟨#[]⟩ : ByteArray), .int .i64 0, .slice none 0 0, .int .i64 0, .slice none 0 0, .int .i64 0]) (t := 25) ?hr ?_; (case hd => rfl); (case hg => rfl); (case hr => first | (go_simp; done) | (go_simp; rfl)); intro gb197 hg w25 hbox hb; have n0_ := Aside0.mk (Kd.R_below (by (with_reducible repeat (first | apply Kd.R_alloc | apply Kd.R_drewN | apply Kd.R_drew)); exact HO191.out) hb); have n1_ := Aside0.mk (Kd.R_below (by (with_reducible repeat (first | apply Kd.R_alloc | apply Kd.R_drewN | apply Kd.R_drew)); exact HO195.out) hb); have n2_ := Aside0.mk (blk_below (g := gb183) (o := .cells #[.string a0_0, .int .i64 a0_1, .slice A0_2 l0_2.length c0_2, .int .i64 a0_3, .slice A0_4 l0_4.length c0_4, .int .i64 a0_5] 25 (0, 0)) (by (with_reducible repeat (first | refine blk_drewN ?_ _ | refine blk_drew ?_ | refine blk_alloc ?_ _)); exact BK183.out) hb); have n3_ := Aside0.mk (blk_below (g := gb184) (o := .cells #[.int .i64 a2_0, .int .i64 a2_1, .int .i64 a2_2] 34 (0, 0)) (by (with_reducible repeat (first | refine blk_drewN ?_ _ | refine blk_drew ?_ | refine blk_alloc ?_ _)); exact BK184.out) hb); have n4_ := Aside0.mk (below_step (by repeat (first | (with_reducible first | exact HB.out | apply below_alloc | apply pw_below_drewN | apply below_drew1 | refine below_set ?_ GE183.out | refine below_set ?_ GE184.out) | exact HB.out)) hb); have n5_ := Aside0.mk (hbox); have n6_ := Aside0.mk ((by rw [hg]; exact (below_size (by repeat (first | (with_reducible first | exact HB.out | apply below_alloc | apply pw_below_drewN | apply below_drew1 | refine below_set ?_ GE183.out | refine below_set ?_ GE184.out) | exact HB.out))) : w.heap.size ≤ gb197)); have n7_ := Aside0.mk ((by rw [hg]; exact (below_size (by repeat (first | (with_reducible first | exact HB.out | apply below_alloc | apply pw_below_drewN | apply below_drew1 | refine below_set ?_ GE183.out | refine below_set ?_ GE184.out) | exact HB.out))) : w.heap.size ≤ gb197)); have n8_ := Aside0.mk ((by rw [hg]; exact Nat.ne_of_lt (blk_lt (g := gb183) (o := .cells #[.string a0_0, .int .i64 a0_1, .slice A0_2 l0_2.length c0_2, .int .i64 a0_3, .slice A0_4 l0_4.length c0_4, .int .i64 a0_5] 25 (0, 0)) (by (with_reducible repeat (first | refine blk_drewN ?_ _ | refine blk_drew ?_ | refine blk_alloc ?_ _)); exact BK183.out)) : gb183 ≠ gb197)); have n9_ := Aside0.mk ((by rw [hg]; exact Nat.ne_of_gt (blk_lt (g := gb183) (o := .cells #[.string a0_0, .int .i64 a0_1, .slice A0_2 l0_2.length c0_2, .int .i64 a0_3, .slice A0_4 l0_4.length c0_4, .int .i64 a0_5] 25 (0, 0)) (by (with_reducible repeat (first | refine blk_drewN ?_ _ | refine blk_drew ?_ | refine blk_alloc ?_ _)); exact BK183.out)) : gb197 ≠ gb183)); have n10_ := Aside0.mk ((by rw [hg]; exact Nat.ne_of_lt (blk_lt (g := gb184) (o := .cells #[.int .i64 a2_0, .int .i64 a2_1, .int .i64 a2_2] 34 (0, 0)) (by (with_reducible repeat (first | refine blk_drewN ?_ _ | refine blk_drew ?_ | refine blk_alloc ?_ _)); exact BK184.out)) : gb184 ≠ gb197)); have n11_ := Aside0.mk ((by rw [hg]; exact Nat.ne_of_gt (blk_lt (g := gb184) (o := .cells #[.int .i64 a2_0, .int .i64 a2_1, .int .i64 a2_2] 34 (0, 0)) (by (with_reducible repeat (first | refine blk_drewN ?_ _ | refine blk_drew ?_ | refine blk_alloc ?_ _)); exact BK184.out)) : gb197 ≠ gb184)); clear HO191; clear HO195; clear BK183; clear BK184; clear HB; have HO191 := n0_; have HO195 := n1_; have BK183 := n2_; have BK184 := n3_; have HB := n4_; have BK197 := n5_; have GW197 := n6_; have GE197 := n7_; have NB183_197 := n8_; have NB197_183 := n9_; have NB184_197 := n10_; have NB197_184 := n11_; clear n0_ n1_ n2_ n3_ n4_ n5_ n6_ n7_ n8_ n9_ n10_ n11_; clear hb hbox hg; have hnb26 := NB197_183.out; have hnc26 := NB183_197.out; have hnb27 := NB197_184.out; have hnc27 := NB184_197.out; have hcz28_0 : w25.cell? ⟨gb197, 0, none⟩ = some (.string (⟨#[]⟩ : ByteArray)) := (blk_cell BK197.out 0).trans rfl; have hcz28_1 : w25.cell? ⟨gb197, 1, none⟩ = some (.int .i64 0) := (blk_cell BK197.out 1).trans rfl; have hcz28_2 : w25.cell? ⟨gb197, 2, none⟩ = some (.slice none 0 0) := (blk_cell BK197.out 2).trans rfl; have hcz28_3 : w25.cell? ⟨gb197, 3, none⟩ = some (.int .i64 0) := (blk_cell BK197.out 3).trans rfl; have hcz28_4 : w25.cell? ⟨gb197, 4, none⟩ = some (.slice none 0 0) := (blk_cell BK197.out 4).trans rfl; have hcz28_5 : w25.cell? ⟨gb197, 5, none⟩ = some (.int .i64 0) := (blk_cell BK197.out 5).trans rfl; have hfz28_0 := blk_frozen BK197.out 0; have hfz28_1 := blk_frozen BK197.out 1; have hfz28_2 := blk_frozen BK197.out 2; have hfz28_3 := blk_frozen BK197.out 3; have hfz28_4 := blk_frozen BK197.out 4; have hfz28_5 := blk_frozen BK197.out 5; obtain ⟨Ao29, co29, eo29⟩ := Kd.R_slice HO191.out; subst eo29; obtain ⟨Ao30, co30, eo30⟩ := Kd.R_slice HO195.out; subst eo30; have hcz31_0 : w25.cell? ⟨gb183, 0, none⟩ = some (.string a0_0) := (blk_cell BK183.out 0).trans rfl; have hcz31_1 : w25.cell? ⟨gb183, 1, none⟩ = some (.int .i64 a0_1) := (blk_cell BK183.out 1).trans rfl; have hcz31_2 : w25.cell? ⟨gb183, 2, none⟩ = some (.slice A0_2 l0_2.length c0_2) := (blk_cell BK183.out 2).trans rfl; have hcz31_3 : w25.cell? ⟨gb183, 3, none⟩ = some (.int .i64 a0_3) := (blk_cell BK183.out 3).trans rfl; have hcz31_4 : w25.cell? ⟨gb183, 4, none⟩ = some (.slice A0_4 l0_4.length c0_4) := (blk_cell BK183.out 4).trans rfl; have hcz31_5 : w25.cell? ⟨gb183, 5, none⟩ = some (.int .i64 a0_5) := (blk_cell BK183.out 5).trans rfl; have hfz31_0 := blk_frozen BK183.out 0; have hfz31_1 := blk_frozen BK183.out 1; have hfz31_2 := blk_frozen BK183.out 2; have hfz31_3 := blk_frozen BK183.out 3; have hfz31_4 := blk_frozen BK183.out 4; have hfz31_5 := blk_frozen BK183.out 5) | ((with_reducible refine gate_callee (f := 20) rfl ?_); refine goesL_ (some 32) rfl rfl Try.func20 (by kernel_rfl) rfl #[.agg #[.string t187, .int .i64 t188, .slice Ao29 t189.length co29, .int .i64 t192, .slice Ao30 t193.length co30, .int .i64 t196], .agg #[.string a0_0, .int .i64 a0_1, .slice A0_2 l0_2.length c0_2, .int .i64 a0_3, .slice A0_4 l0_4.length c0_4, .int .i64 a0_5]] rfl (by (try simp only [List.map_toArray, List.map_cons, List.map_nil]); first | done | rfl | (simp only [List.length_drop, List.length_take]; rfl)) ?_; (with_reducible refine (forebayref07_Equal.calls kj3 t187 t188 _ _ t189 t192 _ _ t193 t196 a0_0 a0_1 _ _ l0_2 a0_3 _ _ l0_4 a0_5 true _ ?side1 ?side2 ?side3 ?side4 ?side5 ?side6 ?side7 ?side8 A19.out).mono ?_); (case side1 => refine (Kd.R_reads' (e := 40) (base := w.heap.size) (ok := fun k_ => True) (n := t189.length) (c := co29) ?_).2.2; exact (by (with_reducible repeat (first | apply Kd.R_alloc | apply Kd.R_drewN | apply Kd.R_drew)); exact (Kd.R_mono (R_far6 (g := gb197) (Kd.R_types HO191.out BK197.out (by decide)) (fun _ hk => hk.2)) (fun _ h_ => h_.1)))); (case side2 => exact (Kd.R_reads' HO191.out).2.1); (case side3 => refine (Kd.R_reads' (e := 37) (base := w.heap.size) (ok := fun k_ => True) (n := t193.length) (c := co30) ?_).2.2; exact (by (with_reducible repeat (first | apply Kd.R_alloc | apply Kd.R_drewN | apply Kd.R_drew)); exact (Kd.R_mono (R_far6 (g := gb197) (Kd.R_types HO195.out BK197.out (by decide)) (fun _ hk => hk.2)) (fun _ h_ => h_.1)))); (case side4 => exact (Kd.R_reads' HO195.out).2.1); (case side5 => exact Kd.C_below HR0_2.out (by repeat (first | (with_reducible first | exact HB.out | apply below_alloc | apply pw_below_drewN | apply below_drew1 | refine below_set ?_ GE183.out | refine below_set ?_ GE184.out | refine below_set ?_ GE197.out) | exact HB.out))); (case side6 => exact HC0_2.out); (case side7 => exact Kd.C_below HR0_4.out (by repeat (first | (with_reducible first | exact HB.out | apply below_alloc | apply pw_below_drewN | apply below_drew1 | refine below_set ?_ GE183.out | refine below_set ?_ GE184.out | refine below_set ?_ GE197.out) | exact HB.out))); (case side8 => exact HC0_4.out); rintro e w32 ⟨rfl, hb⟩; refine ⟨_, rfl, ?_⟩; have n0_ := Aside0.mk (Kd.R_below (by (with_reducible repeat (first | apply Kd.R_alloc | apply Kd.R_drewN | apply Kd.R_drew)); exact (Kd.R_mono (R_far6 (g := gb197) (Kd.R_types HO191.out BK197.out (by decide)) (fun _ hk => hk.2)) (fun _ h_ => h_.1))) hb); have n1_ := Aside0.mk (Kd.R_below (by (with_reducible repeat (first | apply Kd.R_alloc | apply Kd.R_drewN | apply Kd.R_drew)); exact (Kd.R_mono (R_far6 (g := gb197) (Kd.R_types HO195.out BK197.out (by decide)) (fun _ hk => hk.2)) (fun _ h_ => h_.1))) hb); have n2_ := Aside0.mk (blk_below (g := gb183) (o := .cells #[.string a0_0, .int .i64 a0_1, .slice A0_2 l0_2.length c0_2, .int .i64 a0_3, .slice A0_4 l0_4.length c0_4, .int .i64 a0_5] 25 (0, 0)) (by (with_reducible repeat (first | refine blk_far ?_ NB183_197.out _ | refine blk_drewN ?_ _ | refine blk_drew ?_ | refine blk_alloc ?_ _)); exact BK183.out) hb); have n3_ := Aside0.mk (blk_below (g := gb184) (o := .cells #[.int .i64 a2_0, .int .i64 a2_1, .int .i64 a2_2] 34 (0, 0)) (by (with_reducible repeat (first | refine blk_far ?_ NB184_197.out _ | refine blk_drewN ?_ _ | refine blk_drew ?_ | refine blk_alloc ?_ _)); exact BK184.out) hb); have n4_ := Aside0.mk (blk_below (g := gb197) (o := .cells #[.string t187, .int .i64 t188, .slice Ao29 t189.length co29, .int .i64 t192, .slice Ao30 t193.length co30, .int .i64 t196] 25 (0, 0)) (by (with_reducible repeat (first | refine blk_drewN ?_ _ | refine blk_drew ?_ | refine blk_alloc ?_ _)); refine blk_put (cs := #[.string t187, .int .i64 t188, .slice Ao29 t189.length co29, .int .i64 t192, .slice Ao30 t193.length co30, .int .i64 0]) ?_ 5 _ rfl; refine blk_put (cs := #[.string t187, .int .i64 t188, .slice Ao29 t189.length co29, .int .i64 t192, .slice none 0 0, .int .i64 0]) ?_ 4 _ rfl; refine blk_put (cs := #[.string t187, .int .i64 t188, .slice Ao29 t189.length co29, .int .i64 0, .slice none 0 0, .int .i64 0]) ?_ 3 _ rfl; refine blk_put (cs := #[.string t187, .int .i64 t188, .slice none 0 0, .int .i64 0, .slice none 0 0, .int .i64 0]) ?_ 2 _ rfl; refine blk_put (cs := #[.string t187, .int .i64 0, .slice none 0 0, .int .i64 0, .slice none 0 0, .int .i64 0]) ?_ 1 _ rfl; refine blk_put (cs := #[.string (⟨#[]⟩ : ByteArray), .int .i64 0, .slice none 0 0, .int .i64 0, .slice none 0 0, .int .i64 0]) ?_ 0 _ rfl; (with_reducible repeat (first | refine blk_drewN ?_ _ | refine blk_drew ?_ | refine blk_alloc ?_ _)); exact BK197.out) hb); have n5_ := Aside0.mk (below_step (by repeat (first | (with_reducible first | exact HB.out | apply below_alloc | apply pw_below_drewN | apply below_drew1 | refine below_set ?_ GE183.out | refine below_set ?_ GE184.out | refine below_set ?_ GE197.out) | exact HB.out)) hb); clear HO191; clear HO195; clear BK183; clear BK184; clear BK197; clear HB; have HO191 := n0_; have HO195 := n1_; have BK183 := n2_; have BK184 := n3_; have BK197 := n4_; have HB := n5_; clear n0_ n1_ n2_ n3_ n4_ n5_; (try clear hb); (try clear hb2); (try clear hk); (try clear hi); have hcz33_0 : w32.cell? ⟨gb197, 0, none⟩ = some (.string t187) := (blk_cell BK197.out 0).trans rfl; have hcz33_1 : w32.cell? ⟨gb197, 1, none⟩ = some (.int .i64 t188) := (blk_cell BK197.out 1).trans rfl; have hcz33_2 : w32.cell? ⟨gb197, 2, none⟩ = some (.slice Ao29 t189.length co29) := (blk_cell BK197.out 2).trans rfl; have hcz33_3 : w32.cell? ⟨gb197, 3, none⟩ = some (.int .i64 t192) := (blk_cell BK197.out 3).trans rfl; have hcz33_4 : w32.cell? ⟨gb197, 4, none⟩ = some (.slice Ao30 t193.length co30) := (blk_cell BK197.out 4).trans rfl; have hcz33_5 : w32.cell? ⟨gb197, 5, none⟩ = some (.int .i64 t196) := (blk_cell BK197.out 5).trans rfl; have hfz33_0 := blk_frozen BK197.out 0; have hfz33_1 := blk_frozen BK197.out 1; have hfz33_2 := blk_frozen BK197.out 2; have hfz33_3 := blk_frozen BK197.out 3; have hfz33_4 := blk_frozen BK197.out 4; have hfz33_5 := blk_frozen BK197.out 5))
  (try simp only [Act.put, List.setIfInBounds_toArray, List.set_cons_zero, List.set_cons_succ])
  go_cut [] (fun wc => ∃ (kq : Nat) (x198004_20 : List (S37)) (u198004 : Value), Aside0 (forebaylaw07_MetricTags.j2 kq (t193.length : Int) a0_0 a0_1 l0_2 a0_3 l0_4 a0_5 a2_0 a2_1 a2_2 t187 t188 t189 t192 x198004_20 t196 = some r) ∧ Aside0 (kq ≤ kj3) ∧ Aside0 (Kd.R k40 40 wc w.heap.size (fun _ => True) (.slice Ao29 t189.length co29) t189) ∧ Aside0 (Kd.R k37 37 wc w.heap.size (fun _ => True) u198004 x198004_20) ∧ Aside0 (wc.heap[gb183]? = some (.cells #[.string a0_0, .int .i64 a0_1, (.slice A0_2 l0_2.length c0_2), .int .i64 a0_3, (.slice A0_4 l0_4.length c0_4), .int .i64 a0_5] 25 (0, 0))) ∧ Aside0 (wc.heap[gb184]? = some (.cells #[.int .i64 a2_0, .int .i64 a2_1, .int .i64 a2_2] 34 (0, 0))) ∧ Aside0 (wc.heap[gb197]? = some (.cells #[.string t187, .int .i64 t188, (.slice Ao29 t189.length co29), .int .i64 t192, u198004, .int .i64 t196] 25 (0, 0))) ∧ Aside0 (Below w.heap.size w wc))
  case first =>
   have H := HC21.out
   clear HC21
   have H' := Aside0.mk H
   clear H
   go_wp2
   go_loopg [9] kj3 (fun kq v9 w' => ∃ (x9_2 : Int) (x198004_2 : List (S37)) (u198004 : Value), v9 = .int .i64 x9_2 ∧ Aside0 (forebaylaw07_MetricTags.l0 kq l1 (t193.length : Int) x9_2 a0_0 a0_1 l0_2 a0_3 l0_4 a0_5 a2_0 a2_1 a2_2 t187 t188 t189 t192 x198004_2 t196 = some r) ∧ Aside0 (kq ≤ kj3) ∧ Aside0 (Kd.R k40 40 w' w.heap.size (fun _ => True) (.slice Ao29 t189.length co29) t189) ∧ Aside0 (Kd.R k37 37 w' w.heap.size (fun _ => True) u198004 x198004_2) ∧ Aside0 (w'.heap[gb183]? = some (.cells #[.string a0_0, .int .i64 a0_1, (.slice A0_2 l0_2.length c0_2), .int .i64 a0_3, (.slice A0_4 l0_4.length c0_4), .int .i64 a0_5] 25 (0, 0))) ∧ Aside0 (w'.heap[gb184]? = some (.cells #[.int .i64 a2_0, .int .i64 a2_1, .int .i64 a2_2] 34 (0, 0))) ∧ Aside0 (w'.heap[gb197]? = some (.cells #[.string t187, .int .i64 t188, (.slice Ao29 t189.length co29), .int .i64 t192, u198004, .int .i64 t196] 25 (0, 0))) ∧ Aside0 (Below w.heap.size w w'))
   case atStart => exact ⟨(0), (t193), (.slice Ao30 t193.length co30), (by first | rfl | (simp; done) | (simp [*]; done)), H', ⟨Nat.le_refl _⟩, ⟨by (with_reducible repeat (first | apply Kd.R_alloc | apply Kd.R_drewN | apply Kd.R_drew)); exact HO191.out⟩, ⟨by (with_reducible repeat (first | apply Kd.R_alloc | apply Kd.R_drewN | apply Kd.R_drew)); exact HO195.out⟩, ⟨by (with_reducible repeat (first | refine blk_drewN ?_ _ | refine blk_drew ?_ | refine blk_alloc ?_ _)); exact BK183.out⟩, ⟨by (with_reducible repeat (first | refine blk_drewN ?_ _ | refine blk_drew ?_ | refine blk_alloc ?_ _)); exact BK184.out⟩, ⟨by (with_reducible repeat (first | refine blk_drewN ?_ _ | refine blk_drew ?_ | refine blk_alloc ?_ _)); exact BK197.out⟩, ⟨by repeat (first | (with_reducible first | exact HB.out | apply below_alloc | apply pw_below_drewN | apply below_drew1 | refine below_set ?_ GE183.out | refine below_set ?_ GE184.out | refine below_set ?_ GE197.out) | exact HB.out)⟩⟩
   case round =>
    clear H'
    try clear c1
    try clear c2
    try clear p2
    try clear c6
    try clear c8
    try clear c9
    try clear c12
    try clear c14
    try clear c15
    try clear c20
    try clear c22
    try clear c24
    try clear c26
    try clear c27
    try clear hcz10_0
    try clear hcz10_1
    try clear hcz10_2
    try clear hcz10_3
    try clear hcz10_4
    try clear hcz10_5
    try clear hcz13_0
    try clear hcz13_1
    try clear hcz13_2
    try clear hcz13_3
    try clear hcz13_4
    try clear hcz13_5
    try clear hcz23_0
    try clear hcz23_1
    try clear hcz23_2
    try clear hcz23_3
    try clear hcz23_4
    try clear hcz23_5
    try clear hcz28_0
    try clear hcz28_1
    try clear hcz28_2
    try clear hcz28_3
    try clear hcz28_4
    try clear hcz28_5
    try clear hcz31_0
    try clear hcz31_1
    try clear hcz31_2
    try clear hcz31_3
    try clear hcz31_4
    try clear hcz31_5
    try clear hcz33_0
    try clear hcz33_1
    try clear hcz33_2
    try clear hcz33_3
    try clear hcz33_4
    try clear hcz33_5
    try clear hfz10_0
    try clear hfz10_1
    try clear hfz10_2
    try clear hfz10_3
    try clear hfz10_4
    try clear hfz10_5
    try clear hfz13_0
    try clear hfz13_1
    try clear hfz13_2
    try clear hfz13_3
    try clear hfz13_4
    try clear hfz13_5
    try clear hfz23_0
    try clear hfz23_1
    try clear hfz23_2
    try clear hfz23_3
    try clear hfz23_4
    try clear hfz23_5
    try clear hfz28_0
    try clear hfz28_1
    try clear hfz28_2
    try clear hfz28_3
    try clear hfz28_4
    try clear hfz28_5
    try clear hfz31_0
    try clear hfz31_1
    try clear hfz31_2
    try clear hfz31_3
    try clear hfz31_4
    try clear hfz31_5
    try clear hfz33_0
    try clear hfz33_1
    try clear hfz33_2
    try clear hfz33_3
    try clear hfz33_4
    try clear hfz33_5
    try clear p2
    obtain ⟨x9_2, x198004_2, u198004, rfl, HA, HK2, HO_198002, HO_198004, BK183, BK184, BK197, HB⟩ := hrel
    cases gk with
    | zero => exact absurd HA.out (by simp [forebaylaw07_MetricTags.l0])
    | succ k2 =>
     have H := HA.out
     clear HA
     simp only [forebaylaw07_MetricTags.l0] at H
     by_cases c34 : (wrap64 (x9_2 + 1)) < (l1.length : Int)
     rotate_left
     ·rw [if_neg c34] at H
      have c34b0 : decide ((wrap64 (x9_2 + 1)) < (l1.length : Int)) = false := decide_eq_false c34
      clear c34
      (first | rw [c34b0] | (simp only [i64_w, i32_w]; rw [c34b0]) | skip)
      have H' := Aside0.mk H
      clear H
      go_wp2
      go_meet
      case rel => exact ⟨_, (x198004_2), (u198004), H', ⟨by have := HJ3.out; have := HK2.out; first | omega | exact Nat.le_refl _⟩, ⟨by (with_reducible repeat (first | apply Kd.R_alloc | apply Kd.R_drewN | apply Kd.R_drew)); exact HO_198002.out⟩, ⟨by (with_reducible repeat (first | apply Kd.R_alloc | apply Kd.R_drewN | apply Kd.R_drew)); exact HO_198004.out⟩, ⟨by (with_reducible repeat (first | refine blk_drewN ?_ _ | refine blk_drew ?_ | refine blk_alloc ?_ _)); exact BK183.out⟩, ⟨by (with_reducible repeat (first | refine blk_drewN ?_ _ | refine blk_drew ?_ | refine blk_alloc ?_ _)); exact BK184.out⟩, ⟨by (with_reducible repeat (first | refine blk_drewN ?_ _ | refine blk_drew ?_ | refine blk_alloc ?_ _)); exact BK197.out⟩, ⟨by repeat (first | (with_reducible first | exact HB.out | apply below_alloc | apply pw_below_drewN | apply below_drew1 | refine below_set ?_ GE183.out | refine below_set ?_ GE184.out | refine below_set ?_ GE197.out) | exact HB.out)⟩⟩
     rw [if_pos c34] at H
     have c34b0 : decide ((wrap64 (x9_2 + 1)) < (l1.length : Int)) = true := decide_eq_true c34
     clear c34
     (first | rw [c34b0] | (simp only [i64_w, i32_w]; rw [c34b0]) | skip)
     by_cases c35 : (t193.length : Int) > 0
     rotate_left
     ·rw [if_neg c35] at H
      have c35b0 : decide (0 < (t193.length : Int)) = false := decide_eq_false c35
      have c35b1 : decide (0 < t193.length) = false := decide_eq_false (by omega)
      clear c35
      have H' := Aside0.mk H
      clear H
      go_wp2
      go_meet
      case rel => exact ⟨_, (x198004_2), (u198004), H', ⟨by have := HJ3.out; have := HK2.out; first | omega | exact Nat.le_refl _⟩, ⟨by (with_reducible repeat (first | apply Kd.R_alloc | apply Kd.R_drewN | apply Kd.R_drew)); exact HO_198002.out⟩, ⟨by (with_reducible repeat (first | apply Kd.R_alloc | apply Kd.R_drewN | apply Kd.R_drew)); exact HO_198004.out⟩, ⟨by (with_reducible repeat (first | refine blk_drewN ?_ _ | refine blk_drew ?_ | refine blk_alloc ?_ _)); exact BK183.out⟩, ⟨by (with_reducible repeat (first | refine blk_drewN ?_ _ | refine blk_drew ?_ | refine blk_alloc ?_ _)); exact BK184.out⟩, ⟨by (with_reducible repeat (first | refine blk_drewN ?_ _ | refine blk_drew ?_ | refine blk_alloc ?_ _)); exact BK197.out⟩, ⟨by repeat (first | (with_reducible first | exact HB.out | apply below_alloc | apply pw_below_drewN | apply below_drew1 | refine below_set ?_ GE183.out | refine below_set ?_ GE184.out | refine below_set ?_ GE197.out) | exact HB.out)⟩⟩
     rw [if_pos c35] at H
     have c35b0 : decide (0 < (t193.length : Int)) = true := decide_eq_true c35
     have c35b1 : decide (0 < t193.length) = true := decide_eq_true (by omega)
     clear c35
     by_cases c36 : 0 ≤ x9_2
     rotate_left
     ·rw [if_neg c36] at H
      exact absurd H (by simp)
     rw [if_pos c36] at H
     have c36b0 : decide (0 ≤ x9_2) = true := decide_eq_true c36
     clear c36
     by_cases c37 : x9_2 < (l1.length : Int)
     rotate_left
     ·rw [if_neg c37] at H
      exact absurd H (by simp)
     rw [if_pos c37] at H
     have c37b0 : decide (x9_2 < (l1.length : Int)) = true := decide_eq_true c37
     clear c37
     by_cases c38 : (t193.length : Int) = 0
     ·rw [if_pos c38] at H
      exact absurd H (by simp)
     rw [if_neg c38] at H
     have c38b0 : ((t193.length : Int) == 0) = false := beq_eq_false_iff_ne.mpr c38
     have c38b1 : ((t193.length : Int) != 0) = true := bne_iff_ne.mpr c38
     have c38b2 : ¬ (t193 = []) := fun h_ => c38 (by rw [h_]; rfl)
     obtain ⟨ji39, hji39⟩ : ∃ j_ : Int, (wrap64 (x9_2 + 1)) = j_ := ⟨_, rfl⟩
     replace H : (if 0 ≤ (ji39) then (if 0 ≤ (Int.tmod (wrap64 ((Int.tmod (rd l1 (ji39)) (t193.length : Int)) + (t193.length : Int))) (t193.length : Int)) then (if (Int.tmod (wrap64 ((Int.tmod (rd l1 (ji39)) (t193.length : Int)) + (t193.length : Int))) (t193.length : Int)) < (x198004_2.length : Int) then (if 0 ≤ (Int.tmod (wrap64 ((Int.tmod (rd l1 x9_2) (t193.length : Int)) + (t193.length : Int))) (t193.length : Int)) then (if (Int.tmod (wrap64 ((Int.tmod (rd l1 x9_2) (t193.length : Int)) + (t193.length : Int))) (t193.length : Int)) < (x198004_2.length : Int) then (forebaylaw07_MetricTags.l0 k2 l1 (t193.length : Int) (wrap64 (x9_2 + 2)) a0_0 a0_1 l0_2 a0_3 l0_4 a0_5 a2_0 a2_1 a2_2 t187 t188 t189 t192 ((x198004_2.set ((Int.tmod (wrap64 ((Int.tmod (rd l1 x9_2) (t193.length : Int)) + (t193.length : Int))) (t193.length : Int)) : Int).toNat (⟨(rd_T37 x198004_2 (Int.tmod (wrap64 ((Int.tmod (rd l1 (ji39)) (t193.length : Int)) + (t193.length : Int))) (t193.length : Int))).f0, (rd_T37 x198004_2 (Int.tmod (wrap64 ((Int.tmod (rd l1 (ji39)) (t193.length : Int)) + (t193.length : Int))) (t193.length : Int))).f1⟩ : S37)).set ((Int.tmod (wrap64 ((Int.tmod (rd l1 (ji39)) (t193.length : Int)) + (t193.length : Int))) (t193.length : Int)) : Int).toNat (⟨(rd_T37 x198004_2 (Int.tmod (wrap64 ((Int.tmod (rd l1 x9_2) (t193.length : Int)) + (t193.length : Int))) (t193.length : Int))).f0, (rd_T37 x198004_2 (Int.tmod (wrap64 ((Int.tmod (rd l1 x9_2) (t193.length : Int)) + (t193.length : Int))) (t193.length : Int))).f1⟩ : S37)) t196) else (none)) else (none)) else (none)) else (none)) else (none)) = some r := by first | (rw [hji39] at H; exact H) | (simp only [hji39] at H ⊢; exact H)
     (try rw [hji39] at c34b0)
     have hji39w : (IntKind.i64.wrap (x9_2 + 1)) = ji39 := (i64_w _).trans hji39
     by_cases c40 : 0 ≤ (ji39)
     rotate_left
     ·rw [if_neg c40] at H
      exact absurd H (by simp)
     rw [if_pos c40] at H
     have c40b0 : decide (0 ≤ (ji39)) = true := decide_eq_true c40
     clear c40
     obtain ⟨ji41, hji41⟩ : ∃ j_ : Int, (Int.tmod (wrap64 ((Int.tmod (rd l1 (ji39)) (t193.length : Int)) + (t193.length : Int))) (t193.length : Int)) = j_ := ⟨_, rfl⟩
     replace H : (if 0 ≤ (ji41) then (if (ji41) < (x198004_2.length : Int) then (if 0 ≤ (Int.tmod (wrap64 ((Int.tmod (rd l1 x9_2) (t193.length : Int)) + (t193.length : Int))) (t193.length : Int)) then (if (Int.tmod (wrap64 ((Int.tmod (rd l1 x9_2) (t193.length : Int)) + (t193.length : Int))) (t193.length : Int)) < (x198004_2.length : Int) then (forebaylaw07_MetricTags.l0 k2 l1 (t193.length : Int) (wrap64 (x9_2 + 2)) a0_0 a0_1 l0_2 a0_3 l0_4 a0_5 a2_0 a2_1 a2_2 t187 t188 t189 t192 ((x198004_2.set ((Int.tmod (wrap64 ((Int.tmod (rd l1 x9_2) (t193.length : Int)) + (t193.length : Int))) (t193.length : Int)) : Int).toNat (⟨(rd_T37 x198004_2 (ji41)).f0, (rd_T37 x198004_2 (ji41)).f1⟩ : S37)).set ((ji41) : Int).toNat (⟨(rd_T37 x198004_2 (Int.tmod (wrap64 ((Int.tmod (rd l1 x9_2) (t193.length : Int)) + (t193.length : Int))) (t193.length : Int))).f0, (rd_T37 x198004_2 (Int.tmod (wrap64 ((Int.tmod (rd l1 x9_2) (t193.length : Int)) + (t193.length : Int))) (t193.length : Int))).f1⟩ : S37)) t196) else (none)) else (none)) else (none)) else (none)) = some r := by first | (rw [hji41] at H; exact H) | (simp only [hji41] at H ⊢; exact H)
     by_cases c42 : 0 ≤ (ji41)
     rotate_left
     ·rw [if_neg c42] at H
      exact absurd H (by simp)
     rw [if_pos c42] at H
     have c42b0 : decide (0 ≤ (ji41)) = true := decide_eq_true c42
     clear c42
     by_cases c43 : (ji41) < (x198004_2.length : Int)
     rotate_left
     ·rw [if_neg c43] at H
      exact absurd H (by simp)
     rw [if_pos c43] at H
     have c43b0 : decide ((ji41) < (x198004_2.length : Int)) = true := decide_eq_true c43
     clear c43
     obtain ⟨ji44, hji44⟩ : ∃ j_ : Int, (Int.tmod (wrap64 ((Int.tmod (rd l1 x9_2) (t193.length : Int)) + (t193.length : Int))) (t193.length : Int)) = j_ := ⟨_, rfl⟩
     replace H : (if 0 ≤ (ji44) then (if (ji44) < (x198004_2.length : Int) then (forebaylaw07_MetricTags.l0 k2 l1 (t193.length : Int) (wrap64 (x9_2 + 2)) a0_0 a0_1 l0_2 a0_3 l0_4 a0_5 a2_0 a2_1 a2_2 t187 t188 t189 t192 ((x198004_2.set ((ji44) : Int).toNat (⟨(rd_T37 x198004_2 (ji41)).f0, (rd_T37 x198004_2 (ji41)).f1⟩ : S37)).set ((ji41) : Int).toNat (⟨(rd_T37 x198004_2 (ji44)).f0, (rd_T37 x198004_2 (ji44)).f1⟩ : S37)) t196) else (none)) else (none)) = some r := by first | (rw [hji44] at H; exact H) | (simp only [hji44] at H ⊢; exact H)
     by_cases c45 : 0 ≤ (ji44)
     rotate_left
     ·rw [if_neg c45] at H
      exact absurd H (by simp)
     rw [if_pos c45] at H
     have c45b0 : decide (0 ≤ (ji44)) = true := decide_eq_true c45
     clear c45
     by_cases c46 : (ji44) < (x198004_2.length : Int)
     rotate_left
     ·rw [if_neg c46] at H
      exact absurd H (by simp)
     rw [if_pos c46] at H
     have c46b0 : decide ((ji44) < (x198004_2.length : Int)) = true := decide_eq_true c46
     clear c46
     obtain ⟨y203, hy203⟩ : ∃ y_ : List (S37), y_ = (x198004_2.set ((ji44) : Int).toNat (⟨(rd_T37 x198004_2 (ji41)).f0, (rd_T37 x198004_2 (ji41)).f1⟩ : S37)) := ⟨_, rfl⟩
     replace H : (forebaylaw07_MetricTags.l0 k2 l1 (t193.length : Int) (wrap64 (x9_2 + 2)) a0_0 a0_1 l0_2 a0_3 l0_4 a0_5 a2_0 a2_1 a2_2 t187 t188 t189 t192 (y203.set ((ji41) : Int).toNat (⟨(rd_T37 x198004_2 (ji44)).f0, (rd_T37 x198004_2 (ji44)).f1⟩ : S37)) t196) = some r := by first | (rw [hy203]; with_reducible exact H) | (have H2_ := (Option.bind_some _ _).symm.trans H; rw [hy203]; with_reducible exact H2_) | (have H2_ := (Option.bind_some _ _).symm.trans H; with_reducible exact H2_) | with_reducible exact H | (rw [hy203]; exact H) | exact H
     have Ny203 := Aside0.mk hy203
     clear hy203
     obtain ⟨y204, hy204⟩ : ∃ y_ : List (S37), y_ = (y203.set ((ji41) : Int).toNat (⟨(rd_T37 x198004_2 (ji44)).f0, (rd_T37 x198004_2 (ji44)).f1⟩ : S37)) := ⟨_, rfl⟩
     replace H : (forebaylaw07_MetricTags.l0 k2 l1 (t193.length : Int) (wrap64 (x9_2 + 2)) a0_0 a0_1 l0_2 a0_3 l0_4 a0_5 a2_0 a2_1 a2_2 t187 t188 t189 t192 y204 t196) = some r := by first | (rw [hy204]; with_reducible exact H) | (have H2_ := (Option.bind_some _ _).symm.trans H; rw [hy204]; with_reducible exact H2_) | (have H2_ := (Option.bind_some _ _).symm.trans H; with_reducible exact H2_) | with_reducible exact H | (rw [hy204]; exact H) | exact H
     have Ny204 := Aside0.mk hy204
     clear hy204
     have H' := Aside0.mk H
     clear H
     have p199 : 0 ≤ (x9_2 : Int) := of_decide_eq_true (by first | (with_reducible assumption) | assumption)
     have q199 : x9_2 < (l1.length : Int) := of_decide_eq_true (by first | (with_reducible assumption) | assumption)
     obtain ⟨ad199, e199, hx199_0⟩ := Kd.at_int HR1.out x9_2 p199 q199
     cases e199
     replace hx199_0 := (HB.out.cell (World.block_lt_of_cell? w _ hx199_0)).trans hx199_0
     replace p199 := eq_true p199
     replace q199 := eq_true q199
     have p200 : 0 ≤ ((ji39) : Int) := of_decide_eq_true (by first | (with_reducible assumption) | assumption)
     have q200 : (ji39) < (l1.length : Int) := of_decide_eq_true (by first | (with_reducible assumption) | assumption)
     obtain ⟨ad200, e200, hx200_0⟩ := Kd.at_int HR1.out (ji39) p200 q200
     obtain rfl : ad199 = ad200 := (by injection e200)
     replace hx200_0 := (HB.out.cell (World.block_lt_of_cell? w _ hx200_0)).trans hx200_0
     replace p200 := eq_true p200
     replace q200 := eq_true q200
     try go_wp2
     have n0_ := Aside0.mk (Kd.R_drew HO_198002.out)
     have n1_ := Aside0.mk (Kd.R_drew HO_198004.out)
     have n2_ := Aside0.mk (blk_drew BK183.out)
     have n3_ := Aside0.mk (blk_drew BK184.out)
     have n4_ := Aside0.mk (blk_drew BK197.out)
     have n5_ := Aside0.mk (below_drew1 HB.out)
     clear HO_198002
     clear HO_198004
     clear BK183
     clear BK184
     clear BK197
     clear HB
     have HO_198002 := n0_
     have HO_198004 := n1_
     have BK183 := n2_
     have BK184 := n3_
     have BK197 := n4_
     have HB := n5_
     clear n0_ n1_ n2_ n3_ n4_ n5_
     obtain ⟨Ao50, co50, eo50⟩ := Kd.R_slice HO_198004.out
     (first | subst eo50 | (injection eo50 with f1_ f2_ f3_; have f4_ := f1_.symm; have f5_ := f3_.symm; clear f1_ f2_ f3_; subst f4_; subst f5_))
     have p201 : 0 ≤ ((ji41) : Int) := of_decide_eq_true (by first | (with_reducible assumption) | assumption)
     have q201 : (ji41) < (x198004_2.length : Int) := of_decide_eq_true (by first | (with_reducible assumption) | assumption)
     obtain ⟨ad201, e201, hx201_0, hx201_1⟩ := at_T37 (Kd.R_reads' HO_198004.out).2.2 (ji41) p201 q201
     cases e201
     replace p201 := eq_true p201
     replace q201 := eq_true q201
     have p202 : 0 ≤ ((ji44) : Int) := of_decide_eq_true (by first | (with_reducible assumption) | assumption)
     have q202 : (ji44) < (x198004_2.length : Int) := of_decide_eq_true (by first | (with_reducible assumption) | assumption)
     obtain ⟨ad202, e202, hx202_0, hx202_1⟩ := at_T37 (Kd.R_reads' HO_198004.out).2.2 (ji44) p202 q202
     obtain rfl : ad201 = ad202 := (by injection e202)
     replace p202 := eq_true p202
     replace q202 := eq_true q202
     have p47 : 0 ≤ ((ji44) : Int) := of_decide_eq_true (by first | (with_reducible assumption) | assumption)
     have q47 : ((ji44) : Int) < ((x198004_2.length : Int) : Int) := of_decide_eq_true (by first | (with_reducible assumption) | assumption)
     obtain ⟨go47, co47, eo47, gb47, gl47, cl47, HG47⟩ := Kd.R_form HO_198004.out (by omega)
     (first | cases eo47 | (injection eo47 with ea_ en_ ec_; (first | subst ea_ | (injection ea_ with ea_; subst ea_)); subst ec_; clear en_))
     have GB47 := Aside0.mk gb47
     have GG47 := Aside0.mk HG47
     clear gb47 gl47 HG47
     (first | simp only [add_plain] at hx201_0 | skip)
     (first | simp only [add_plain] at hx201_1 | skip)
     (first | simp only [add_plain] at hx202_0 | skip)
     (first | simp only [add_plain] at hx202_1 | skip)
     obtain ⟨ce47, hcl47, hM47, hcc47, hfr47⟩ := Kd.R_elem HO_198004.out z37 ((ji44) : Int) p47 q47
     obtain rfl := k37_openM hM47
     have hx47_0 : World.cell? _ ⟨go47, ((ji44) : Int).toNat * 2, none⟩ = some (.string ((rd_T37 x198004_2 (ji44)).f0)) := hcc47 0 _ rfl
     have hx47_1 : World.cell? _ ⟨go47, ((ji44) : Int).toNat * 2 + 1, none⟩ = some (.string ((rd_T37 x198004_2 (ji44)).f1)) := hcc47 1 _ rfl
     have hf47_0 : World.frozen? _ ⟨go47, ((ji44) : Int).toNat * 2, none⟩ = false := hfr47 0
     have hf47_1 : World.frozen? _ ⟨go47, ((ji44) : Int).toNat * 2 + 1, none⟩ = false := hfr47 1
     clear hcl47 hcc47 hfr47 hM47
     replace p47 := eq_true p47
     replace q47 := eq_true q47
     obtain ⟨ce51, hcl51, hM51, hcc51, hfr51⟩ := Kd.R_elem HO_198004.out z37 ((ji44) : Int) (of_decide_eq_true (by first | (with_reducible assumption) | assumption)) (by have h_ : ((ji44) : Int) < ((x198004_2.length : Int) : Int) := of_decide_eq_true (by first | (with_reducible assumption) | assumption); first | exact h_ | (have e_ := (Kd.R_reads' HO_198004.out).1; omega) | simpa using h_)
     obtain rfl := k37_openM hM51
     have HP51 := (Kd.R_seg HO_198004.out ((ji44) : Int) (of_decide_eq_true (by first | (with_reducible assumption) | assumption)) (by have h_ : ((ji44) : Int) < ((x198004_2.length : Int) : Int) := of_decide_eq_true (by first | (with_reducible assumption) | assumption); first | exact h_ | (have e_ := (Kd.R_reads' HO_198004.out).1; omega) | simpa using h_) (seg := [.string ((rd_T37 x198004_2 (ji41)).f0), .string ((rd_T37 x198004_2 (ji41)).f1)]) (j := 0) hcl51 hcc51 (show 2 ≤ 2 from by decide) (x' := (⟨(rd_T37 x198004_2 (ji41)).f0, (rd_T37 x198004_2 (ji41)).f1⟩ : S37)) (k37_mkM _ _ _ (⟨(rd_T37 x198004_2 (ji41)).f0, (rd_T37 x198004_2 (ji41)).f1⟩ : S37) ) (fun _ hk => hk)).1
     rw [← Ny203.out] at HP51
     have HQ51 := Aside0.mk HP51
     clear hcl51 hcc51 hfr51 hM51 HP51
     have p48 : 0 ≤ ((ji41) : Int) := of_decide_eq_true (by first | (with_reducible assumption) | assumption)
     have q48 : ((ji41) : Int) < ((x198004_2.length : Int) : Int) := of_decide_eq_true (by first | (with_reducible assumption) | assumption)
     obtain ⟨ce48, hcl48, hM48, hcc48, hfr48⟩ := Kd.R_elem HQ51.out z37 ((ji41) : Int) p48 q48
     obtain rfl := k37_openM hM48
     have hx48_0 : World.cell? _ ⟨go47, ((ji41) : Int).toNat * 2, none⟩ = some (.string ((rd_T37 y203 (ji41)).f0)) := hcc48 0 _ rfl
     have hx48_1 : World.cell? _ ⟨go47, ((ji41) : Int).toNat * 2 + 1, none⟩ = some (.string ((rd_T37 y203 (ji41)).f1)) := hcc48 1 _ rfl
     have hf48_0 : World.frozen? _ ⟨go47, ((ji41) : Int).toNat * 2, none⟩ = false := hfr48 0
     have hf48_1 : World.frozen? _ ⟨go47, ((ji41) : Int).toNat * 2 + 1, none⟩ = false := hfr48 1
     clear hcl48 hcc48 hfr48 hM48
     replace p48 := eq_true p48
     replace q48 := eq_true q48
     obtain ⟨ce52, hcl52, hM52, hcc52, hfr52⟩ := Kd.R_elem HQ51.out z37 ((ji41) : Int) (of_decide_eq_true (by first | (with_reducible assumption) | assumption)) (by have h_ : ((ji41) : Int) < ((x198004_2.length : Int) : Int) := of_decide_eq_true (by first | (with_reducible assumption) | assumption); first | exact h_ | (have e_ := (Kd.R_reads' HO_198004.out).1; omega) | simpa using h_)
     obtain rfl := k37_openM hM52
     have HP52 := (Kd.R_seg HQ51.out ((ji41) : Int) (of_decide_eq_true (by first | (with_reducible assumption) | assumption)) (by have h_ : ((ji41) : Int) < ((x198004_2.length : Int) : Int) := of_decide_eq_true (by first | (with_reducible assumption) | assumption); first | exact h_ | (have e_ := (Kd.R_reads' HO_198004.out).1; omega) | simpa using h_) (seg := [.string ((rd_T37 x198004_2 (ji44)).f0), .string ((rd_T37 x198004_2 (ji44)).f1)]) (j := 0) hcl52 hcc52 (show 2 ≤ 2 from by decide) (x' := (⟨(rd_T37 x198004_2 (ji44)).f0, (rd_T37 x198004_2 (ji44)).f1⟩ : S37)) (k37_mkM _ _ _ (⟨(rd_T37 x198004_2 (ji44)).f0, (rd_T37 x198004_2 (ji44)).f1⟩ : S37) ) (fun _ hk => hk)).1
     rw [← Ny204.out] at HP52
     have HQ52 := Aside0.mk HP52
     clear hcl52 hcc52 hfr52 hM52 HP52
     refine start_ (n := 20) (S := fun w' => w'.cell? ⟨gb197, 0, none⟩ = some (.string t187) ∧ w'.cell? ⟨gb197, 1, none⟩ = some (.int .i64 t188) ∧ w'.cell? ⟨gb197, 2, none⟩ = some (.slice Ao29 t189.length co29) ∧ w'.cell? ⟨gb197, 3, none⟩ = some (.int .i64 t192) ∧ w'.cell? ⟨gb197, 4, none⟩ = some (.slice (some ⟨go47, 0, none⟩) x198004_2.length co50) ∧ w'.cell? ⟨gb197, 5, none⟩ = some (.int .i64 t196) ∧ w'.cell? ⟨go47, ((ji41)).toNat * 2, none⟩ = some (.string ((rd_T37 x198004_2 (ji41)).f0)) ∧ w'.cell? ⟨go47, ((ji41)).toNat * 2 + 1, none⟩ = some (.string ((rd_T37 x198004_2 (ji41)).f1)) ∧ w'.cell? ⟨go47, ((ji44)).toNat * 2, none⟩ = some (.string ((rd_T37 x198004_2 (ji44)).f0)) ∧ w'.cell? ⟨go47, ((ji44)).toNat * 2 + 1, none⟩ = some (.string ((rd_T37 x198004_2 (ji44)).f1))) (ds := [17, 19]) #[false,false,false,false,false,false,false,false,false,false,false,false,false,false,false,false,false,false,false,false] (by kernel_rfl) rfl rfl ⟨(blk_cell BK197.out 0).trans rfl, (blk_cell BK197.out 1).trans rfl, (blk_cell BK197.out 2).trans rfl, (blk_cell BK197.out 3).trans rfl, (blk_cell BK197.out 4).trans rfl, (blk_cell BK197.out 5).trans rfl, hx201_0, hx201_1, hx202_0, hx202_1⟩ (fun hHeld => ?_); refine with_tabW forebaylaw07_MetricTags.tab12 forebaylaw07_MetricTags.bits12 (fun HT_ HW_ => ?_)
     generalize wr.drew = w49 at HO_198002 HO_198004 BK183 BK184 BK197 HB GG47 HQ51 HQ52 hf47_0 hf47_1 hf48_0 hf48_1 hx201_0 hx201_1 hx202_0 hx202_1 hx47_0 hx47_1 hx48_0 hx48_1 hHeld ⊢
     have hne_ : go47 ≠ gb197 := ((Kd.R_types HO_198004.out BK197.out (by decide)).1 _ rfl).2
     have hz5_ : ((w49.setCell ⟨go47, ((ji44)).toNat * 2, none⟩ (.string (rd_T37 x198004_2 (ji41)).f0)).setCell ⟨go47, ((ji44)).toNat * 2 + 1, none⟩ (.string (rd_T37 x198004_2 (ji41)).f1)).cell? ⟨gb197, 4, none⟩ = some (.slice (some ⟨go47, 0, none⟩) x198004_2.length co50) := (cell_oth (fun e => hne_ (congrArg Addr.block e))).trans ((cell_oth (fun e => hne_ (congrArg Addr.block e))).trans ((blk_cell BK197.out 4).trans rfl))
     have hz0_ : (w49.setCell ⟨go47, ((ji44)).toNat * 2, none⟩ (.string (rd_T37 x198004_2 (ji41)).f0)).cell? ⟨go47, ((ji41)).toNat * 2, none⟩ = some (.string (rd_T37 y203 (ji41)).f0) := (cell_oth (w := w49.setCell ⟨go47, ((ji44)).toNat * 2, none⟩ (.string (rd_T37 x198004_2 (ji41)).f0)) (a := ⟨go47, ((ji44)).toNat * 2 + 1, none⟩) (v := (.string (rd_T37 x198004_2 (ji41)).f1)) (b := ⟨go47, ((ji41)).toNat * 2, none⟩) (fun e => by have e1_ := congrArg Addr.off e; dsimp only at e1_; omega)).symm.trans hx48_0
     have hz1_ : (w49.setCell ⟨go47, ((ji44)).toNat * 2 + 1, none⟩ (.string (rd_T37 x198004_2 (ji41)).f1)).cell? ⟨go47, ((ji41)).toNat * 2 + 1, none⟩ = some (.string (rd_T37 y203 (ji41)).f1) := (cell_two (p := ⟨go47, ((ji44)).toNat * 2, none⟩) (x := (.string (rd_T37 x198004_2 (ji41)).f0)) (fun e => by have e1_ := congrArg Addr.off e; dsimp only at e1_; omega) hx201_1).trans hx48_1
     have hz4_ : ((w49.setCell ⟨go47, ((ji44)).toNat * 2, none⟩ (.string (rd_T37 x198004_2 (ji41)).f0)).setCell ⟨go47, ((ji44)).toNat * 2 + 1, none⟩ (.string (rd_T37 x198004_2 (ji41)).f1)).cell? ⟨go47, ((ji41)).toNat * 2 + 1, none⟩ = some (.string (rd_T37 y203 (ji41)).f1) := hx48_1
     have hz2_ : w49.frozen? ⟨go47, ((ji41)).toNat * 2, none⟩ = false := by have h_ := hf48_0; simpa [World.frozen?_setCells] using h_
     have hz3_ : w49.frozen? ⟨go47, ((ji41)).toNat * 2 + 1, none⟩ = false := by have h_ := hf48_1; simpa [World.frozen?_setCells] using h_
     refine pure_ (i := 0) (N := some 69) (v := ?_) (a' := ?_) #[true,false,false,false,false,false,false,false,false,false,false,false,false,false,false,false,false,false,false,false] rfl rfl (any_of HT_.out (by kernel_rfl)) (fun _ _ _ h => h) (Or.inl ⟨by rfl, ?_⟩) ?_ ?_
     rotate_left
     ·intro w'
      go_simp
      with_reducible rfl
     rotate_left
     ·simp only [Act.put, List.setIfInBounds_toArray, List.set_cons_zero, List.set_cons_succ, i64_w, i32_w]
      rfl
     refine pure_ (i := 2) (N := some 71) (v := ?_) (a' := ?_) #[true,false,true,false,false,false,false,false,false,false,false,false,false,false,false,false,false,false,false,false] rfl rfl (any_of HT_.out (by kernel_rfl)) (fun _ _ _ h => h) (Or.inl ⟨by rfl, ?_⟩) ?_ ?_
     rotate_left
     ·intro w'
      go_simp
      with_reducible rfl
     rotate_left
     ·simp only [Act.put, List.setIfInBounds_toArray, List.set_cons_zero, List.set_cons_succ, i64_w, i32_w]
      rfl
     refine pure_ (i := 3) (N := some 72) (v := ?_) (a' := ?_) #[true,false,true,true,false,false,false,false,false,false,false,false,false,false,false,false,false,false,false,false] rfl rfl (any_of HT_.out (by kernel_rfl)) (fun _ _ _ h => h) (Or.inl ⟨by rfl, ?_⟩) ?_ ?_
     rotate_left
     ·intro w'
      go_simp
      with_reducible rfl
     rotate_left
     ·simp only [Act.put, List.setIfInBounds_toArray, List.set_cons_zero, List.set_cons_succ, i64_w, i32_w]
      rfl
     refine pure_ (i := 5) (N := some 74) (v := ?_) (a' := ?_) #[true,false,true,true,false,true,false,false,false,false,false,false,false,false,false,false,false,false,false,false] rfl rfl (any_of HT_.out (by kernel_rfl)) (fun _ _ _ h => h) (Or.inl ⟨by rfl, ?_⟩) ?_ ?_
     rotate_left
     ·intro w'
      go_simp
      with_reducible rfl
     rotate_left
     ·simp only [Act.put, List.setIfInBounds_toArray, List.set_cons_zero, List.set_cons_succ, i64_w, i32_w]
      rfl
     refine pure_ (i := 6) (N := some 75) (v := ?_) (a' := ?_) #[true,false,true,true,false,true,true,false,false,false,false,false,false,false,false,false,false,false,false,false] rfl rfl (any_of HT_.out (by kernel_rfl)) (fun _ _ _ h => h) (Or.inl ⟨by rfl, ?_⟩) ?_ ?_
     rotate_left
     ·intro w'
      go_simp
      with_reducible rfl
     rotate_left
     ·simp only [Act.put, List.setIfInBounds_toArray, List.set_cons_zero, List.set_cons_succ, i64_w, i32_w]
      rfl
     refine pure_ (i := 8) (N := some 77) (v := ?_) (a' := ?_) #[true,false,true,true,false,true,true,false,true,false,false,false,false,false,false,false,false,false,false,false] rfl rfl (any_of HT_.out (by kernel_rfl)) (fun _ _ _ h => h) (Or.inl ⟨by rfl, ?_⟩) ?_ ?_
     rotate_left
     ·intro w'
      go_simp
      with_reducible rfl
     rotate_left
     ·simp only [Act.put, List.setIfInBounds_toArray, List.set_cons_zero, List.set_cons_succ, i64_w, i32_w]
      rfl
     refine pure_ (i := 11) (N := some 80) (v := ?_) (a' := ?_) #[true,false,true,true,false,true,true,false,true,false,false,true,false,false,false,false,false,false,false,false] rfl rfl (any_of HT_.out (by kernel_rfl)) (fun _ _ _ h => h) (Or.inl ⟨by rfl, ?_⟩) ?_ ?_
     rotate_left
     ·intro w'
      go_simp
      with_reducible rfl
     rotate_left
     ·simp only [Act.put, List.setIfInBounds_toArray, List.set_cons_zero, List.set_cons_succ, i64_w, i32_w]
      rfl
     refine pure_ (i := 13) (N := some 82) (v := ?_) (a' := ?_) #[true,false,true,true,false,true,true,false,true,false,false,true,false,true,false,false,false,false,false,false] rfl rfl (any_of HT_.out (by kernel_rfl)) (fun _ _ _ h => h) (Or.inl ⟨by rfl, ?_⟩) ?_ ?_
     rotate_left
     ·intro w'
      go_simp
      with_reducible rfl
     rotate_left
     ·simp only [Act.put, List.setIfInBounds_toArray, List.set_cons_zero, List.set_cons_succ, i64_w, i32_w]
      rfl
     refine take_ (i := 1) (N := some 70) (v := ?_) (a' := ?_) #[true,true,true,true,false,true,true,false,true,false,false,true,false,true,false,false,false,false,false,false] rfl rfl (take_ofW HT_.out HW_.out (by kernel_rfl)) (fun _ _ _ h => h) (Or.inl ⟨by rfl, ?_⟩) hHeld ?_ ?_
     rotate_left
     ·rintro w' ⟨s0, s1, s2, s3, s4, s5, s6, s7, s8, s9⟩
      go_simp
      with_reducible rfl
     rotate_left
     ·simp only [Act.put, List.setIfInBounds_toArray, List.set_cons_zero, List.set_cons_succ, i64_w, i32_w]
      rfl
     refine take_ (i := 7) (N := some 76) (v := ?_) (a' := ?_) #[true,true,true,true,false,true,true,true,true,false,false,true,false,true,false,false,false,false,false,false] rfl rfl (take_ofW HT_.out HW_.out (by kernel_rfl)) (fun _ _ _ h => h) (Or.inl ⟨by rfl, ?_⟩) hHeld ?_ ?_
     rotate_left
     ·rintro w' ⟨s0, s1, s2, s3, s4, s5, s6, s7, s8, s9⟩
      go_simp
      with_reducible rfl
     rotate_left
     ·simp only [Act.put, List.setIfInBounds_toArray, List.set_cons_zero, List.set_cons_succ, i64_w, i32_w]
      rfl
     refine pure_ (i := 9) (N := some 78) (v := ?_) (a' := ?_) #[true,true,true,true,false,true,true,true,true,true,false,true,false,true,false,false,false,false,false,false] rfl rfl (any_of HT_.out (by kernel_rfl)) (fun _ _ _ h => h) (Or.inl ⟨by rfl, ?_⟩) ?_ ?_
     rotate_left
     ·intro w'
      go_simp
      with_reducible rfl
     rotate_left
     ·simp only [Act.put, List.setIfInBounds_toArray, List.set_cons_zero, List.set_cons_succ, i64_w, i32_w]
      rfl
     refine take_ (i := 10) (N := some 79) (v := ?_) (a' := ?_) #[true,true,true,true,false,true,true,true,true,true,true,true,false,true,false,false,false,false,false,false] rfl rfl (take_ofW HT_.out HW_.out (by kernel_rfl)) (fun _ _ _ h => h) (Or.inl ⟨by rfl, ?_⟩) hHeld ?_ ?_
     rotate_left
     ·rintro w' ⟨s0, s1, s2, s3, s4, s5, s6, s7, s8, s9⟩
      go_simp
      with_reducible rfl
     rotate_left
     ·simp only [Act.put, List.setIfInBounds_toArray, List.set_cons_zero, List.set_cons_succ, i64_w, i32_w]
      rfl
     refine take_ (i := 12) (N := some 81) (v := ?_) (a' := ?_) #[true,true,true,true,false,true,true,true,true,true,true,true,true,true,false,false,false,false,false,false] rfl rfl (take_ofW HT_.out HW_.out (by kernel_rfl)) (fun _ _ _ h => h) (Or.inl ⟨by rfl, ?_⟩) hHeld ?_ ?_
     rotate_left
     ·rintro w' ⟨s0, s1, s2, s3, s4, s5, s6, s7, s8, s9⟩
      go_simp
      with_reducible rfl
     rotate_left
     ·simp only [Act.put, List.setIfInBounds_toArray, List.set_cons_zero, List.set_cons_succ, i64_w, i32_w]
      rfl
     refine pure_ (i := 14) (N := some 83) (v := ?_) (a' := ?_) #[true,true,true,true,false,true,true,true,true,true,true,true,true,true,true,false,false,false,false,false] rfl rfl (any_of HT_.out (by kernel_rfl)) (fun _ _ _ h => h) (Or.inl ⟨by rfl, ?_⟩) ?_ ?_
     rotate_left
     ·intro w'
      go_simp
      with_reducible rfl
     rotate_left
     ·simp only [Act.put, List.setIfInBounds_toArray, List.set_cons_zero, List.set_cons_succ, i64_w, i32_w]
      rfl
     refine take_ (i := 15) (N := some 84) (v := ?_) (a' := ?_) #[true,true,true,true,false,true,true,true,true,true,true,true,true,true,true,true,false,false,false,false] rfl rfl (take_ofW HT_.out HW_.out (by kernel_rfl)) (fun _ _ _ h => h) (Or.inl ⟨by rfl, ?_⟩) hHeld ?_ ?_
     rotate_left
     ·rintro w' ⟨s0, s1, s2, s3, s4, s5, s6, s7, s8, s9⟩
      go_simp
      with_reducible rfl
     rotate_left
     ·simp only [Act.put, List.setIfInBounds_toArray, List.set_cons_zero, List.set_cons_succ, i64_w, i32_w]
      rfl
     refine pure_ (i := 16) (N := some 85) (v := ?_) (a' := ?_) #[true,true,true,true,false,true,true,true,true,true,true,true,true,true,true,true,true,false,false,false] rfl rfl (any_of HT_.out (by kernel_rfl)) (fun _ _ _ h => h) (Or.inl ⟨by rfl, ?_⟩) ?_ ?_
     rotate_left
     ·intro w'
      go_simp
      with_reducible rfl
     rotate_left
     ·simp only [Act.put, List.setIfInBounds_toArray, List.set_cons_zero, List.set_cons_succ, i64_w, i32_w]
      rfl
     refine readstore_ (i := 4) (j := 17) (N := some 73) (v := ?rsv) (w1 := ?rsw) #[true,true,true,true,true,true,true,true,true,true,true,true,true,true,true,true,true,true,false,false] rfl rfl rfl rfl (by kernel_rfl) (by decide) (by rfl) (by rfl) (by rfl) ?rs1 ?rs2 ?rs3 ?rs4 (a' := ?rsa) ?rs5 ?_
     case rs1 => go_simp; with_reducible rfl
     case rs2 => go_simp; rfl
     case rs3 => go_simp; try rfl
     case rs4 => go_simp; try (with_reducible rfl)
     case rs5 => simp only [Act.put, List.setIfInBounds_toArray, List.set_cons_zero, List.set_cons_succ, i64_w, i32_w]; rfl
     refine pure_ (i := 18) (N := some 86) (v := ?_) (a' := ?_) #[true,true,true,true,true,true,true,true,true,true,true,true,true,true,true,true,true,true,true,false] rfl rfl (any_of HT_.out (by kernel_rfl)) (fun _ _ _ h => h) (Or.inl ⟨by rfl, ?_⟩) ?_ ?_
     rotate_left
     ·intro w'
      go_simp
      with_reducible rfl
     rotate_left
     ·simp only [Act.put, List.setIfInBounds_toArray, List.set_cons_zero, List.set_cons_succ, i64_w, i32_w]
      rfl
     refine last_ (i := 19) (N := none) #[true,true,true,true,true,true,true,true,true,true,true,true,true,true,true,true,true,true,true,true] rfl rfl (one_of HT_.out (by kernel_rfl)) (by decide) (fun K hK => ?_)
     refine skip_ (w1 := ?_) (by rfl) rfl ?_ ?_
     rotate_left
     ·go_simp
      rfl
     refine hK.out _ _ ?_
     clear hK K
     refine done_ (done_of HT_.out (by kernel_rfl)) ?_
     try go_wp2
     go_roundg k2
     case measure => have := HJ3.out; have := HK2.out; omega
     case rel => exact ⟨(wrap64 (x9_2 + 2)), (y204), (.slice (some ⟨go47, 0, none⟩) x198004_2.length co50), (by first | rfl | (simp; done) | (simp [*]; done)), H', ⟨by have := HJ3.out; have := HK2.out; omega⟩, ⟨by (with_reducible repeat (first | apply Kd.R_alloc | apply Kd.R_drewN | apply Kd.R_drew)); exact Kd.R_mono (Kd.R_far (p := ⟨go47, ((ji41) : Int).toNat * 2 + 1, none⟩) (Kd.R_far (p := ⟨go47, ((ji41) : Int).toNat * 2, none⟩) (Kd.R_far (p := ⟨go47, ((ji44) : Int).toNat * 2 + 1, none⟩) (Kd.R_far (p := ⟨go47, ((ji44) : Int).toNat * 2, none⟩) (Kd.R_types HO_198002.out GG47.out (by decide)) (fun _ hk => hk.2) (.string ((rd_T37 x198004_2 (ji41)).f0))) (fun _ hk => hk.2) (.string ((rd_T37 x198004_2 (ji41)).f1))) (fun _ hk => hk.2) (.string ((rd_T37 x198004_2 (ji44)).f0))) (fun _ hk => hk.2) (.string ((rd_T37 x198004_2 (ji44)).f1))) (fun _ hk => trivial)⟩, ⟨by (with_reducible repeat (first | apply Kd.R_alloc | apply Kd.R_drewN | apply Kd.R_drew)); exact HQ52.out⟩, ⟨by (with_reducible repeat (first | refine blk_drewN ?_ _ | refine blk_drew ?_ | refine blk_alloc ?_ _)); refine blk_far ?_ (by have h_ := Kd.R_ne HO_198004.out BK183.out (by decide); intro e_; exact h_ (by rw [e_]; rfl)) _; (with_reducible repeat (first | refine blk_drewN ?_ _ | refine blk_drew ?_ | refine blk_alloc ?_ _)); refine blk_far ?_ (by have h_ := Kd.R_ne HO_198004.out BK183.out (by decide); intro e_; exact h_ (by rw [e_]; rfl)) _; (with_reducible repeat (first | refine blk_drewN ?_ _ | refine blk_drew ?_ | refine blk_alloc ?_ _)); refine blk_far ?_ (by have h_ := Kd.R_ne HO_198004.out BK183.out (by decide); intro e_; exact h_ (by rw [e_]; rfl)) _; (with_reducible repeat (first | refine blk_drewN ?_ _ | refine blk_drew ?_ | refine blk_alloc ?_ _)); refine blk_far ?_ (by have h_ := Kd.R_ne HO_198004.out BK183.out (by decide); intro e_; exact h_ (by rw [e_]; rfl)) _; (with_reducible repeat (first | refine blk_drewN ?_ _ | refine blk_drew ?_ | refine blk_alloc ?_ _)); exact BK183.out⟩, ⟨by (with_reducible repeat (first | refine blk_drewN ?_ _ | refine blk_drew ?_ | refine blk_alloc ?_ _)); refine blk_far ?_ (by have h_ := Kd.R_ne HO_198004.out BK184.out (by decide); intro e_; exact h_ (by rw [e_]; rfl)) _; (with_reducible repeat (first | refine blk_drewN ?_ _ | refine blk_drew ?_ | refine blk_alloc ?_ _)); refine blk_far ?_ (by have h_ := Kd.R_ne HO_198004.out BK184.out (by decide); intro e_; exact h_ (by rw [e_]; rfl)) _; (with_reducible repeat (first | refine blk_drewN ?_ _ | refine blk_drew ?_ | refine blk_alloc ?_ _)); refine blk_far ?_ (by have h_ := Kd.R_ne HO_198004.out BK184.out (by decide); intro e_; exact h_ (by rw [e_]; rfl)) _; (with_reducible repeat (first | refine blk_drewN ?_ _ | refine blk_drew ?_ | refine blk_alloc ?_ _)); refine blk_far ?_ (by have h_ := Kd.R_ne HO_198004.out BK184.out (by decide); intro e_; exact h_ (by rw [e_]; rfl)) _; (with_reducible repeat (first | refine blk_drewN ?_ _ | refine blk_drew ?_ | refine blk_alloc ?_ _)); exact BK184.out⟩, ⟨by (with_reducible repeat (first | refine blk_drewN ?_ _ | refine blk_drew ?_ | refine blk_alloc ?_ _)); refine blk_far ?_ (by have h_ := Kd.R_ne HO_198004.out BK197.out (by decide); intro e_; exact h_ (by rw [e_]; rfl)) _; (with_reducible repeat (first | refine blk_drewN ?_ _ | refine blk_drew ?_ | refine blk_alloc ?_ _)); refine blk_far ?_ (by have h_ := Kd.R_ne HO_198004.out BK197.out (by decide); intro e_; exact h_ (by rw [e_]; rfl)) _; (with_reducible repeat (first | refine blk_drewN ?_ _ | refine blk_drew ?_ | refine blk_alloc ?_ _)); refine blk_far ?_ (by have h_ := Kd.R_ne HO_198004.out BK197.out (by decide); intro e_; exact h_ (by rw [e_]; rfl)) _; (with_reducible repeat (first | refine blk_drewN ?_ _ | refine blk_drew ?_ | refine blk_alloc ?_ _)); refine blk_far ?_ (by have h_ := Kd.R_ne HO_198004.out BK197.out (by decide); intro e_; exact h_ (by rw [e_]; rfl)) _; (with_reducible repeat (first | refine blk_drewN ?_ _ | refine blk_drew ?_ | refine blk_alloc ?_ _)); exact BK197.out⟩, ⟨by repeat (first | (with_reducible first | exact HB.out | apply below_alloc | apply pw_below_drewN | apply below_drew1 | refine below_set ?_ GB47.out | refine below_set ?_ GB47.out | refine below_set ?_ GB47.out | refine below_set ?_ GB47.out | refine below_set ?_ GE183.out | refine below_set ?_ GE184.out | refine below_set ?_ GE197.out) | exact HB.out)⟩⟩
  clear HC21
  try clear c1
  try clear p1
  try clear q1
  try clear hx1
  try clear c2
  try clear p2
  try clear q2
  try clear hx2
  try clear c3
  try clear c4
  try clear p4
  try clear q4
  try clear hx4
  try clear hf4
  try clear c5
  try clear c6
  try clear p6
  try clear c8
  try clear c9
  try clear c12
  try clear c14
  try clear c15
  try clear p19
  try clear q19
  try clear hx19
  try clear c20
  try clear p20
  try clear q20
  try clear hx20
  try clear c22
  try clear c24
  try clear c26
  try clear c27
  try clear c34
  try clear c34b0
  try clear c35
  try clear c35b0
  try clear c35b1
  try clear c36
  try clear c36b0
  try clear c37
  try clear c37b0
  try clear c38
  try clear c38b0
  try clear c38b1
  try clear c38b2
  try clear c40
  try clear c40b0
  try clear c42
  try clear c42b0
  try clear c43
  try clear c43b0
  try clear c45
  try clear c45b0
  try clear c46
  try clear c46b0
  try clear c47
  try clear p47
  try clear q47
  try clear hx47
  try clear hf47
  try clear c48
  try clear p48
  try clear q48
  try clear hx48
  try clear hf48
  try clear c51
  try clear c52
  try clear hcz10_0
  try clear hcz10_1
  try clear hcz10_2
  try clear hcz10_3
  try clear hcz10_4
  try clear hcz10_5
  try clear hcz13_0
  try clear hcz13_1
  try clear hcz13_2
  try clear hcz13_3
  try clear hcz13_4
  try clear hcz13_5
  try clear hcz23_0
  try clear hcz23_1
  try clear hcz23_2
  try clear hcz23_3
  try clear hcz23_4
  try clear hcz23_5
  try clear hcz28_0
  try clear hcz28_1
  try clear hcz28_2
  try clear hcz28_3
  try clear hcz28_4
  try clear hcz28_5
  try clear hcz31_0
  try clear hcz31_1
  try clear hcz31_2
  try clear hcz31_3
  try clear hcz31_4
  try clear hcz31_5
  try clear hcz33_0
  try clear hcz33_1
  try clear hcz33_2
  try clear hcz33_3
  try clear hcz33_4
  try clear hcz33_5
  try clear hfz10_0
  try clear hfz10_1
  try clear hfz10_2
  try clear hfz10_3
  try clear hfz10_4
  try clear hfz10_5
  try clear hfz13_0
  try clear hfz13_1
  try clear hfz13_2
  try clear hfz13_3
  try clear hfz13_4
  try clear hfz13_5
  try clear hfz23_0
  try clear hfz23_1
  try clear hfz23_2
  try clear hfz23_3
  try clear hfz23_4
  try clear hfz23_5
  try clear hfz28_0
  try clear hfz28_1
  try clear hfz28_2
  try clear hfz28_3
  try clear hfz28_4
  try clear hfz28_5
  try clear hfz31_0
  try clear hfz31_1
  try clear hfz31_2
  try clear hfz31_3
  try clear hfz31_4
  try clear hfz31_5
  try clear hfz33_0
  try clear hfz33_1
  try clear hfz33_2
  try clear hfz33_3
  try clear hfz33_4
  try clear hfz33_5
  try clear hx199_0
  try clear hx200_0
  try clear hx201_0
  try clear hx201_1
  try clear hx202_0
  try clear hx202_1
  try clear hx47_0
  try clear hx47_1
  try clear hx48_0
  try clear hx48_1
  try clear p199
  try clear p2
  try clear p200
  try clear p201
  try clear p202
  try clear p47
  try clear p48
  try clear q199
  try clear q200
  try clear q201
  try clear q202
  try clear q47
  try clear q48
  obtain ⟨kq, x198004_20, u198004, HA, HJ20, HO_198002, HO_198004, BK183, BK184, BK197, HB⟩ := hcut
  cases kq with
  | zero => exact absurd HA.out (by simp [forebaylaw07_MetricTags.j2])
  | succ kj20 =>
   have H := HA.out
   clear HA
   simp only [forebaylaw07_MetricTags.j2] at H
   have HC53 := Aside0.mk H
   clear H
   go_upto_region 13 with (fail)
   go_cut [92] (fun v92 wc => ∃ (kq : Nat) (x92_52 : Bool), v92 = .bool x92_52 ∧ Aside0 (forebaylaw07_MetricTags.j3 kq (t193.length : Int) x92_52 a0_0 a0_1 l0_2 a0_3 l0_4 a0_5 a2_0 a2_1 a2_2 t187 t188 t189 t192 x198004_20 t196 = some r) ∧ Aside0 (kq ≤ kj20) ∧ Aside0 (Kd.R k40 40 wc w.heap.size (fun _ => True) (.slice Ao29 t189.length co29) t189) ∧ Aside0 (Kd.R k37 37 wc w.heap.size (fun _ => True) u198004 x198004_20) ∧ Aside0 (wc.heap[gb183]? = some (.cells #[.string a0_0, .int .i64 a0_1, (.slice A0_2 l0_2.length c0_2), .int .i64 a0_3, (.slice A0_4 l0_4.length c0_4), .int .i64 a0_5] 25 (0, 0))) ∧ Aside0 (wc.heap[gb184]? = some (.cells #[.int .i64 a2_0, .int .i64 a2_1, .int .i64 a2_2] 34 (0, 0))) ∧ Aside0 (wc.heap[gb197]? = some (.cells #[.string t187, .int .i64 t188, (.slice Ao29 t189.length co29), .int .i64 t192, u198004, .int .i64 t196] 25 (0, 0))) ∧ Aside0 (Below w.heap.size w wc))
   case first =>
    have H := HC53.out
    clear HC53
    by_cases c54 : (t193.length : Int) > 0
    ·rw [if_pos c54] at H
     have c54b0 : decide (0 < (t193.length : Int)) = true := decide_eq_true c54
     have c54b1 : decide (0 < t193.length) = true := decide_eq_true (by omega)
     clear c54
     (first | rw [c54b0] | (simp only [i64_w, i32_w]; rw [c54b0]) | skip)
     have H' := Aside0.mk H
     clear H
     go_wp2
     go_meet
     case rel => exact ⟨_, (decide ((t193.length : Int) < 32)), (by first | rfl | (simp; done) | (simp [*]; done)), H', ⟨by have := HJ3.out; have := HJ20.out; first | omega | exact Nat.le_refl _⟩, ⟨by (with_reducible repeat (first | apply Kd.R_alloc | apply Kd.R_drewN | apply Kd.R_drew)); exact HO_198002.out⟩, ⟨by (with_reducible repeat (first | apply Kd.R_alloc | apply Kd.R_drewN | apply Kd.R_drew)); exact HO_198004.out⟩, ⟨by (with_reducible repeat (first | refine blk_drewN ?_ _ | refine blk_drew ?_ | refine blk_alloc ?_ _)); exact BK183.out⟩, ⟨by (with_reducible repeat (first | refine blk_drewN ?_ _ | refine blk_drew ?_ | refine blk_alloc ?_ _)); exact BK184.out⟩, ⟨by (with_reducible repeat (first | refine blk_drewN ?_ _ | refine blk_drew ?_ | refine blk_alloc ?_ _)); exact BK197.out⟩, ⟨by repeat (first | (with_reducible first | exact HB.out | apply below_alloc | apply pw_below_drewN | apply below_drew1 | refine below_set ?_ GE183.out | refine below_set ?_ GE184.out | refine below_set ?_ GE197.out) | exact HB.out)⟩⟩
    rw [if_neg c54] at H
    have c54b0 : decide (0 < (t193.length : Int)) = false := decide_eq_false c54
    have c54b1 : decide (0 < t193.length) = false := decide_eq_false (by omega)
    clear c54
    (first | rw [c54b0] | (simp only [i64_w, i32_w]; rw [c54b0]) | skip)
    have H' := Aside0.mk H
    clear H
    go_wp2
    go_meet
    case rel => exact ⟨_, (false), (by first | rfl | (simp; done) | (simp [*]; done)), H', ⟨by have := HJ3.out; have := HJ20.out; first | omega | exact Nat.le_refl _⟩, ⟨by (with_reducible repeat (first | apply Kd.R_alloc | apply Kd.R_drewN | apply Kd.R_drew)); exact HO_198002.out⟩, ⟨by (with_reducible repeat (first | apply Kd.R_alloc | apply Kd.R_drewN | apply Kd.R_drew)); exact HO_198004.out⟩, ⟨by (with_reducible repeat (first | refine blk_drewN ?_ _ | refine blk_drew ?_ | refine blk_alloc ?_ _)); exact BK183.out⟩, ⟨by (with_reducible repeat (first | refine blk_drewN ?_ _ | refine blk_drew ?_ | refine blk_alloc ?_ _)); exact BK184.out⟩, ⟨by (with_reducible repeat (first | refine blk_drewN ?_ _ | refine blk_drew ?_ | refine blk_alloc ?_ _)); exact BK197.out⟩, ⟨by repeat (first | (with_reducible first | exact HB.out | apply below_alloc | apply pw_below_drewN | apply below_drew1 | refine below_set ?_ GE183.out | refine below_set ?_ GE184.out | refine below_set ?_ GE197.out) | exact HB.out)⟩⟩
   clear HC53
   try clear c1
   try clear p1
   try clear q1
   try clear hx1
   try clear c2
   try clear p2
   try clear q2
   try clear hx2
   try clear c3
   try clear c4
   try clear p4
   try clear q4
   try clear hx4
   try clear hf4
   try clear c5
   try clear c6
   try clear p6
   try clear c8
   try clear c9
   try clear c12
   try clear c14
   try clear c15
   try clear p19
   try clear q19
   try clear hx19
   try clear c20
   try clear p20
   try clear q20
   try clear hx20
   try clear c22
   try clear c24
   try clear c26
   try clear c27
   try clear c34
   try clear c34b0
   try clear c35
   try clear c35b0
   try clear c35b1
   try clear c36
   try clear c36b0
   try clear c37
   try clear c37b0
   try clear c38
   try clear c38b0
   try clear c38b1
   try clear c38b2
   try clear c40
   try clear c40b0
   try clear c42
   try clear c42b0
   try clear c43
   try clear c43b0
   try clear c45
   try clear c45b0
   try clear c46
   try clear c46b0
   try clear c47
   try clear p47
   try clear q47
   try clear hx47
   try clear hf47
   try clear c48
   try clear p48
   try clear q48
   try clear hx48
   try clear hf48
   try clear c51
   try clear c52
   try clear c54
   try clear c54b0
   try clear c54b1
   try clear hcz10_0
   try clear hcz10_1
   try clear hcz10_2
   try clear hcz10_3
   try clear hcz10_4
   try clear hcz10_5
   try clear hcz13_0
   try clear hcz13_1
   try clear hcz13_2
   try clear hcz13_3
   try clear hcz13_4
   try clear hcz13_5
   try clear hcz23_0
   try clear hcz23_1
   try clear hcz23_2
   try clear hcz23_3
   try clear hcz23_4
   try clear hcz23_5
   try clear hcz28_0
   try clear hcz28_1
   try clear hcz28_2
   try clear hcz28_3
   try clear hcz28_4
   try clear hcz28_5
   try clear hcz31_0
   try clear hcz31_1
   try clear hcz31_2
   try clear hcz31_3
   try clear hcz31_4
   try clear hcz31_5
   try clear hcz33_0
   try clear hcz33_1
   try clear hcz33_2
   try clear hcz33_3
   try clear hcz33_4
   try clear hcz33_5
   try clear hfz10_0
   try clear hfz10_1
   try clear hfz10_2
   try clear hfz10_3
   try clear hfz10_4
   try clear hfz10_5
   try clear hfz13_0
   try clear hfz13_1
   try clear hfz13_2
   try clear hfz13_3
   try clear hfz13_4
   try clear hfz13_5
   try clear hfz23_0
   try clear hfz23_1
   try clear hfz23_2
   try clear hfz23_3
   try clear hfz23_4
   try clear hfz23_5
   try clear hfz28_0
   try clear hfz28_1
   try clear hfz28_2
   try clear hfz28_3
   try clear hfz28_4
   try clear hfz28_5
   try clear hfz31_0
   try clear hfz31_1
   try clear hfz31_2
   try clear hfz31_3
   try clear hfz31_4
   try clear hfz31_5
   try clear hfz33_0
   try clear hfz33_1
   try clear hfz33_2
   try clear hfz33_3
   try clear hfz33_4
   try clear hfz33_5
   try clear hx199_0
   try clear hx200_0
   try clear hx201_0
   try clear hx201_1
   try clear hx202_0
   try clear hx202_1
   try clear hx47_0
   try clear hx47_1
   try clear hx48_0
   try clear hx48_1
   try clear p1
   try clear p19
   try clear p199
   try clear p2
   try clear p20
   try clear p200
   try clear p201
   try clear p202
   try clear p4
   try clear p47
   try clear p48
   try clear p6
   try clear q1
   try clear q19
   try clear q199
   try clear q2
   try clear q20
   try clear q200
   try clear q201
   try clear q202
   try clear q4
   try clear q47
   try clear q48
   obtain ⟨kq, x92_52, rfl, HA, HJ52, HO_198002, HO_198004, BK183, BK184, BK197, HB⟩ := hcut
   cases kq with
   | zero => exact absurd HA.out (by simp [forebaylaw07_MetricTags.j3])
   | succ kj52 =>
    have H := HA.out
    clear HA
    simp only [forebaylaw07_MetricTags.j3] at H
    have HC55 := Aside0.mk H
    clear H
    go_upto_if 92 with (fail)
    go_cut [] (fun wc => ∃ (kq : Nat) (x198004_54 : List (S37)) (u198004 : Value), Aside0 (forebaylaw07_MetricTags.j4 kq a0_0 a0_1 l0_2 a0_3 l0_4 a0_5 a2_0 a2_1 a2_2 t187 t188 t189 t192 x198004_54 t196 = some r) ∧ Aside0 (kq ≤ kj52) ∧ Aside0 (Kd.R k40 40 wc w.heap.size (fun _ => True) (.slice Ao29 t189.length co29) t189) ∧ Aside0 (Kd.R k37 37 wc w.heap.size (fun _ => True) u198004 x198004_54) ∧ Aside0 (wc.heap[gb183]? = some (.cells #[.string a0_0, .int .i64 a0_1, (.slice A0_2 l0_2.length c0_2), .int .i64 a0_3, (.slice A0_4 l0_4.length c0_4), .int .i64 a0_5] 25 (0, 0))) ∧ Aside0 (wc.heap[gb184]? = some (.cells #[.int .i64 a2_0, .int .i64 a2_1, .int .i64 a2_2] 34 (0, 0))) ∧ Aside0 (wc.heap[gb197]? = some (.cells #[.string t187, .int .i64 t188, (.slice Ao29 t189.length co29), .int .i64 t192, u198004, .int .i64 t196] 25 (0, 0))) ∧ Aside0 (Below w.heap.size w wc))
    case first =>
     have H := HC55.out
     clear HC55
     by_cases c56 : x92_52 = true
     rotate_left
     ·replace c56 := Bool.eq_false_iff.mpr c56
      subst c56
      have H1 : (forebaylaw07_MetricTags.j4 kj52 a0_0 a0_1 l0_2 a0_3 l0_4 a0_5 a2_0 a2_1 a2_2 t187 t188 t189 t192 x198004_20 t196) = some r := by rw [if_neg (show ¬ (false = true) by decide)] at H; exact H
      clear H
      have H := H1
      clear H1
      have H' := Aside0.mk H
      clear H
      go_wp2
      go_meet
      case rel => exact ⟨_, (x198004_20), (u198004), H', ⟨by have := HJ3.out; have := HJ20.out; have := HJ52.out; first | omega | exact Nat.le_refl _⟩, ⟨by (with_reducible repeat (first | apply Kd.R_alloc | apply Kd.R_drewN | apply Kd.R_drew)); exact HO_198002.out⟩, ⟨by (with_reducible repeat (first | apply Kd.R_alloc | apply Kd.R_drewN | apply Kd.R_drew)); exact HO_198004.out⟩, ⟨by (with_reducible repeat (first | refine blk_drewN ?_ _ | refine blk_drew ?_ | refine blk_alloc ?_ _)); exact BK183.out⟩, ⟨by (with_reducible repeat (first | refine blk_drewN ?_ _ | refine blk_drew ?_ | refine blk_alloc ?_ _)); exact BK184.out⟩, ⟨by (with_reducible repeat (first | refine blk_drewN ?_ _ | refine blk_drew ?_ | refine blk_alloc ?_ _)); exact BK197.out⟩, ⟨by repeat (first | (with_reducible first | exact HB.out | apply below_alloc | apply pw_below_drewN | apply below_drew1 | refine below_set ?_ GE183.out | refine below_set ?_ GE184.out | refine below_set ?_ GE197.out) | exact HB.out)⟩⟩
     subst c56
     have H1 : (if (t193.length : Int) = 0 then (none) else (if 0 ≤ (Int.tmod (wrap64 ((Int.tmod a2_0 (t193.length : Int)) + (t193.length : Int))) (t193.length : Int)) then (if (Int.tmod (wrap64 ((Int.tmod a2_0 (t193.length : Int)) + (t193.length : Int))) (t193.length : Int)) < (x198004_20.length : Int) then (if x198004_20.length < 4398046511104 then (forebaylaw07_MetricTags.j4 kj52 a0_0 a0_1 l0_2 a0_3 l0_4 a0_5 a2_0 a2_1 a2_2 t187 t188 t189 t192 (x198004_20 ++ [(⟨(rd_T37 x198004_20 (Int.tmod (wrap64 ((Int.tmod a2_0 (t193.length : Int)) + (t193.length : Int))) (t193.length : Int))).f0, (rd_T37 x198004_20 (Int.tmod (wrap64 ((Int.tmod a2_0 (t193.length : Int)) + (t193.length : Int))) (t193.length : Int))).f1⟩ : S37)]) t196) else (none)) else (none)) else (none))) = some r := by rw [if_pos rfl] at H; exact H
     clear H
     have H := H1
     clear H1
     by_cases c57 : (t193.length : Int) = 0
     ·rw [if_pos c57] at H
      exact absurd H (by simp)
     rw [if_neg c57] at H
     have c57b0 : ((t193.length : Int) == 0) = false := beq_eq_false_iff_ne.mpr c57
     have c57b1 : ((t193.length : Int) != 0) = true := bne_iff_ne.mpr c57
     have c57b2 : ¬ (t193 = []) := fun h_ => c57 (by rw [h_]; rfl)
     (first | rw [c57b0] | (simp only [i64_w, i32_w]; rw [c57b0]) | skip)
     obtain ⟨ji58, hji58⟩ : ∃ j_ : Int, (Int.tmod (wrap64 ((Int.tmod a2_0 (t193.length : Int)) + (t193.length : Int))) (t193.length : Int)) = j_ := ⟨_, rfl⟩
     replace H : (if 0 ≤ (ji58) then (if (ji58) < (x198004_20.length : Int) then (if x198004_20.length < 4398046511104 then (forebaylaw07_MetricTags.j4 kj52 a0_0 a0_1 l0_2 a0_3 l0_4 a0_5 a2_0 a2_1 a2_2 t187 t188 t189 t192 (x198004_20 ++ [(⟨(rd_T37 x198004_20 (ji58)).f0, (rd_T37 x198004_20 (ji58)).f1⟩ : S37)]) t196) else (none)) else (none)) else (none)) = some r := by first | (rw [hji58] at H; exact H) | (simp only [hji58] at H ⊢; exact H)
     by_cases c59 : 0 ≤ (ji58)
     rotate_left
     ·rw [if_neg c59] at H
      exact absurd H (by simp)
     rw [if_pos c59] at H
     have c59b0 : decide (0 ≤ (ji58)) = true := decide_eq_true c59
     clear c59
     by_cases c60 : (ji58) < (x198004_20.length : Int)
     rotate_left
     ·rw [if_neg c60] at H
      exact absurd H (by simp)
     rw [if_pos c60] at H
     have c60b0 : decide ((ji58) < (x198004_20.length : Int)) = true := decide_eq_true c60
     clear c60
     by_cases c61 : x198004_20.length < 4398046511104
     rotate_left
     ·rw [if_neg c61] at H
      exact absurd H (by simp)
     rw [if_pos c61] at H
     have LMc61 := Aside0.mk c61
     clear c61
     obtain ⟨y206, hy206⟩ : ∃ y_ : List (S37), y_ = (x198004_20 ++ [(⟨(rd_T37 x198004_20 (ji58)).f0, (rd_T37 x198004_20 (ji58)).f1⟩ : S37)]) := ⟨_, rfl⟩
     replace H : (forebaylaw07_MetricTags.j4 kj52 a0_0 a0_1 l0_2 a0_3 l0_4 a0_5 a2_0 a2_1 a2_2 t187 t188 t189 t192 y206 t196) = some r := by first | (rw [hy206]; with_reducible exact H) | (have H2_ := (Option.bind_some _ _).symm.trans H; rw [hy206]; with_reducible exact H2_) | (have H2_ := (Option.bind_some _ _).symm.trans H; with_reducible exact H2_) | with_reducible exact H | (rw [hy206]; exact H) | exact H
     have Ny206 := Aside0.mk hy206
     clear hy206
     have H' := Aside0.mk H
     clear H
     try go_wp2
     have n0_ := Aside0.mk (Kd.R_drew HO_198002.out)
     have n1_ := Aside0.mk (Kd.R_drew HO_198004.out)
     have n2_ := Aside0.mk (blk_drew BK183.out)
     have n3_ := Aside0.mk (blk_drew BK184.out)
     have n4_ := Aside0.mk (blk_drew BK197.out)
     have n5_ := Aside0.mk (below_drew1 HB.out)
     clear HO_198002
     clear HO_198004
     clear BK183
     clear BK184
     clear BK197
     clear HB
     have HO_198002 := n0_
     have HO_198004 := n1_
     have BK183 := n2_
     have BK184 := n3_
     have BK197 := n4_
     have HB := n5_
     clear n0_ n1_ n2_ n3_ n4_ n5_
     obtain ⟨Ao63, co63, eo63⟩ := Kd.R_slice HO_198004.out
     (first | subst eo63 | (injection eo63 with f1_ f2_ f3_; have f4_ := f1_.symm; have f5_ := f3_.symm; clear f1_ f2_ f3_; subst f4_; subst f5_))
     have p205 : 0 ≤ ((ji58) : Int) := of_decide_eq_true (by first | (with_reducible assumption) | assumption)
     have q205 : (ji58) < (x198004_20.length : Int) := of_decide_eq_true (by first | (with_reducible assumption) | assumption)
     obtain ⟨ad205, e205, hx205_0, hx205_1⟩ := at_T37 (Kd.R_reads' HO_198004.out).2.2 (ji58) p205 q205
     cases e205
     replace p205 := eq_true p205
     replace q205 := eq_true q205
     refine start_ (n := 18) (S := fun w' => w'.cell? ⟨gb197, 0, none⟩ = some (.string t187) ∧ w'.cell? ⟨gb197, 1, none⟩ = some (.int .i64 t188) ∧ w'.cell? ⟨gb197, 2, none⟩ = some (.slice Ao29 t189.length co29) ∧ w'.cell? ⟨gb197, 3, none⟩ = some (.int .i64 t192) ∧ w'.cell? ⟨gb197, 4, none⟩ = some (.slice (some ad205) x198004_20.length co63) ∧ w'.cell? ⟨gb197, 5, none⟩ = some (.int .i64 t196) ∧ w'.cell? ⟨gb184, 0, none⟩ = some (.int .i64 a2_0) ∧ w'.cell? ⟨gb184, 1, none⟩ = some (.int .i64 a2_1) ∧ w'.cell? ⟨gb184, 2, none⟩ = some (.int .i64 a2_2) ∧ w'.cell? (ad205.add (((ji58)).toNat * 2)) = some (.string ((rd_T37 x198004_20 (ji58)).f0)) ∧ w'.cell? ⟨(ad205.add (((ji58)).toNat * 2)).block, (ad205.add (((ji58)).toNat * 2)).off + 1, none⟩ = some (.string ((rd_T37 x198004_20 (ji58)).f1))) (ds := [15, 17]) #[false,false,false,false,false,false,false,false,false,false,false,false,false,false,false,false,false,false] (by kernel_rfl) rfl rfl ⟨(blk_cell BK197.out 0).trans rfl, (blk_cell BK197.out 1).trans rfl, (blk_cell BK197.out 2).trans rfl, (blk_cell BK197.out 3).trans rfl, (blk_cell BK197.out 4).trans rfl, (blk_cell BK197.out 5).trans rfl, (blk_cell BK184.out 0).trans rfl, (blk_cell BK184.out 1).trans rfl, (blk_cell BK184.out 2).trans rfl, hx205_0, hx205_1⟩ (fun hHeld => ?_); refine with_tabW forebaylaw07_MetricTags.tab14 forebaylaw07_MetricTags.bits14 (fun HT_ HW_ => ?_)
     generalize wc.drew = w62 at HO_198002 HO_198004 BK183 BK184 BK197 HB hx205_0 hx205_1 hHeld ⊢
     refine pure_ (i := 0) (N := some 93) (v := ?_) (a' := ?_) #[true,false,false,false,false,false,false,false,false,false,false,false,false,false,false,false,false,false] rfl rfl (any_of HT_.out (by kernel_rfl)) (fun _ _ _ h => h) (Or.inl ⟨by rfl, ?_⟩) ?_ ?_
     rotate_left
     ·intro w'
      go_simp
      with_reducible rfl
     rotate_left
     ·simp only [Act.put, List.setIfInBounds_toArray, List.set_cons_zero, List.set_cons_succ, i64_w, i32_w]
      rfl
     refine pure_ (i := 2) (N := some 95) (v := ?_) (a' := ?_) #[true,false,true,false,false,false,false,false,false,false,false,false,false,false,false,false,false,false] rfl rfl (any_of HT_.out (by kernel_rfl)) (fun _ _ _ h => h) (Or.inl ⟨by rfl, ?_⟩) ?_ ?_
     rotate_left
     ·intro w'
      go_simp
      with_reducible rfl
     rotate_left
     ·simp only [Act.put, List.setIfInBounds_toArray, List.set_cons_zero, List.set_cons_succ, i64_w, i32_w]
      rfl
     refine pure_ (i := 4) (N := some 97) (v := ?_) (a' := ?_) #[true,false,true,false,true,false,false,false,false,false,false,false,false,false,false,false,false,false] rfl rfl (any_of HT_.out (by kernel_rfl)) (fun _ _ _ h => h) (Or.inl ⟨by rfl, ?_⟩) ?_ ?_
     rotate_left
     ·intro w'
      go_simp
      with_reducible rfl
     rotate_left
     ·simp only [Act.put, List.setIfInBounds_toArray, List.set_cons_zero, List.set_cons_succ, i64_w, i32_w]
      rfl
     refine pure_ (i := 6) (N := some 99) (v := ?_) (a' := ?_) #[true,false,true,false,true,false,true,false,false,false,false,false,false,false,false,false,false,false] rfl rfl (any_of HT_.out (by kernel_rfl)) (fun _ _ _ h => h) (Or.inl ⟨by rfl, ?_⟩) ?_ ?_
     rotate_left
     ·intro w'
      go_simp
      with_reducible rfl
     rotate_left
     ·simp only [Act.put, List.setIfInBounds_toArray, List.set_cons_zero, List.set_cons_succ, i64_w, i32_w]
      rfl
     refine pure_ (i := 8) (N := some 101) (v := ?_) (a' := ?_) #[true,false,true,false,true,false,true,false,true,false,false,false,false,false,false,false,false,false] rfl rfl (any_of HT_.out (by kernel_rfl)) (fun _ _ _ h => h) (Or.inl ⟨by rfl, ?_⟩) ?_ ?_
     rotate_left
     ·intro w'
      go_simp
      with_reducible rfl
     rotate_left
     ·simp only [Act.put, List.setIfInBounds_toArray, List.set_cons_zero, List.set_cons_succ, i64_w, i32_w]
      rfl
     refine pure_ (i := 10) (N := some 103) (v := ?_) (a' := ?_) #[true,false,true,false,true,false,true,false,true,false,true,false,false,false,false,false,false,false] rfl rfl (any_of HT_.out (by kernel_rfl)) (fun _ _ _ h => h) (Or.inl ⟨by rfl, ?_⟩) ?_ ?_
     rotate_left
     ·intro w'
      go_simp
      with_reducible rfl
     rotate_left
     ·simp only [Act.put, List.setIfInBounds_toArray, List.set_cons_zero, List.set_cons_succ, i64_w, i32_w]
      rfl
     refine take_ (i := 1) (N := some 94) (v := ?_) (a' := ?_) #[true,true,true,false,true,false,true,false,true,false,true,false,false,false,false,false,false,false] rfl rfl (take_ofW HT_.out HW_.out (by kernel_rfl)) (fun _ _ _ h => h) (Or.inl ⟨by rfl, ?_⟩) hHeld ?_ ?_
     rotate_left
     ·rintro w' ⟨s0, s1, s2, s3, s4, s5, s6, s7, s8, s9, s10⟩
      go_simp
      with_reducible rfl
     rotate_left
     ·simp only [Act.put, List.setIfInBounds_toArray, List.set_cons_zero, List.set_cons_succ, i64_w, i32_w]
      rfl
     refine take_ (i := 3) (N := some 96) (v := ?_) (a' := ?_) #[true,true,true,true,true,false,true,false,true,false,true,false,false,false,false,false,false,false] rfl rfl (take_ofW HT_.out HW_.out (by kernel_rfl)) (fun _ _ _ h => h) (Or.inl ⟨by rfl, ?_⟩) hHeld ?_ ?_
     rotate_left
     ·rintro w' ⟨s0, s1, s2, s3, s4, s5, s6, s7, s8, s9, s10⟩
      go_simp
      with_reducible rfl
     rotate_left
     ·simp only [Act.put, List.setIfInBounds_toArray, List.set_cons_zero, List.set_cons_succ, i64_w, i32_w]
      rfl
     refine take_ (i := 5) (N := some 98) (v := ?_) (a' := ?_) #[true,true,true,true,true,true,true,false,true,false,true,false,false,false,false,false,false,false] rfl rfl (take_ofW HT_.out HW_.out (by kernel_rfl)) (fun _ _ _ h => h) (Or.inl ⟨by rfl, ?_⟩) hHeld ?_ ?_
     rotate_left
     ·rintro w' ⟨s0, s1, s2, s3, s4, s5, s6, s7, s8, s9, s10⟩
      go_simp
      with_reducible rfl
     rotate_left
     ·simp only [Act.put, List.setIfInBounds_toArray, List.set_cons_zero, List.set_cons_succ, i64_w, i32_w]
      rfl
     refine pure_ (i := 7) (N := some 100) (v := ?_) (a' := ?_) #[true,true,true,true,true,true,true,true,true,false,true,false,false,false,false,false,false,false] rfl rfl (any_of HT_.out (by kernel_rfl)) (fun _ _ _ h => h) (Or.inl ⟨by rfl, ?_⟩) ?_ ?_
     rotate_left
     ·intro w'
      go_simp
      with_reducible rfl
     rotate_left
     ·simp only [Act.put, List.setIfInBounds_toArray, List.set_cons_zero, List.set_cons_succ, i64_w, i32_w]
      rfl
     refine pure_ (i := 9) (N := some 102) (v := ?_) (a' := ?_) #[true,true,true,true,true,true,true,true,true,true,true,false,false,false,false,false,false,false] rfl rfl (any_of HT_.out (by kernel_rfl)) (fun _ _ _ h => h) (Or.inl ⟨by rfl, ?_⟩) ?_ ?_
     rotate_left
     ·intro w'
      go_simp
      with_reducible rfl
     rotate_left
     ·simp only [Act.put, List.setIfInBounds_toArray, List.set_cons_zero, List.set_cons_succ, i64_w, i32_w]
      rfl
     refine pure_ (i := 11) (N := some 104) (v := ?_) (a' := ?_) #[true,true,true,true,true,true,true,true,true,true,true,true,false,false,false,false,false,false] rfl rfl (any_of HT_.out (by kernel_rfl)) (fun _ _ _ h => h) (Or.inl ⟨by rfl, ?_⟩) ?_ ?_
     rotate_left
     ·intro w'
      go_simp
      with_reducible rfl
     rotate_left
     ·simp only [Act.put, List.setIfInBounds_toArray, List.set_cons_zero, List.set_cons_succ, i64_w, i32_w]
      rfl
     refine pure_ (i := 12) (N := some 105) (v := ?_) (a' := ?_) #[true,true,true,true,true,true,true,true,true,true,true,true,true,false,false,false,false,false] rfl rfl (any_of HT_.out (by kernel_rfl)) (fun _ _ _ h => h) (Or.inl ⟨by rfl, ?_⟩) ?_ ?_
     rotate_left
     ·intro w'
      go_simp
      with_reducible rfl
     rotate_left
     ·simp only [Act.put, List.setIfInBounds_toArray, List.set_cons_zero, List.set_cons_succ, i64_w, i32_w]
      rfl
     refine take_ (i := 13) (N := some 106) (v := ?_) (a' := ?_) #[true,true,true,true,true,true,true,true,true,true,true,true,true,true,false,false,false,false] rfl rfl (take_ofW HT_.out HW_.out (by kernel_rfl)) (fun _ _ _ h => h) (Or.inl ⟨by rfl, ?_⟩) hHeld ?_ ?_
     rotate_left
     ·rintro w' ⟨s0, s1, s2, s3, s4, s5, s6, s7, s8, s9, s10⟩
      go_simp
      with_reducible rfl
     rotate_left
     ·simp only [Act.put, List.setIfInBounds_toArray, List.set_cons_zero, List.set_cons_succ, i64_w, i32_w]
      rfl
     refine one_ (i := 14) (N := some 107) #[true,true,true,true,true,true,true,true,true,true,true,true,true,true,true,false,false,false] rfl rfl (one_of HT_.out (by kernel_rfl)) (by decide) (fun K hK => ?_)
     refine value_ (w1 := ?_) (v := ?_) (by rfl) rfl ?_ ?_
     rotate_left 2
     ·go_simp
      constructor
      ·rfl
      rfl
     refine hK.out _ _ ⟨(blk_cell (blk_alloc BK197.out _) 0).trans rfl, (blk_cell (blk_alloc BK197.out _) 1).trans rfl, (blk_cell (blk_alloc BK197.out _) 2).trans rfl, (blk_cell (blk_alloc BK197.out _) 3).trans rfl, (blk_cell (blk_alloc BK197.out _) 4).trans rfl, (blk_cell (blk_alloc BK197.out _) 5).trans rfl, (blk_cell (blk_alloc BK184.out _) 0).trans rfl, (blk_cell (blk_alloc BK184.out _) 1).trans rfl, (blk_cell (blk_alloc BK184.out _) 2).trans rfl, (World.cell?_alloc_lt _ _ _ (World.block_lt_of_cell? _ _ (hHeld.2.2.2.2.2.2.2.2.2.1))).trans (hHeld.2.2.2.2.2.2.2.2.2.1), (World.cell?_alloc_lt _ _ _ (World.block_lt_of_cell? _ _ (hHeld.2.2.2.2.2.2.2.2.2.2))).trans (hHeld.2.2.2.2.2.2.2.2.2.2)⟩ (fun hHeld => ?_)
     clear hK K
     refine norm_ (a' := ?_) ?_ ?_
     rotate_left
     ·show Act.put _ (some 107) _ = _
      simp only [Act.put, List.setIfInBounds_toArray, List.set_cons_zero, List.set_cons_succ, i64_w, i32_w]
      rfl
     refine last_ (i := 15) (N := some 108) #[true,true,true,true,true,true,true,true,true,true,true,true,true,true,true,true,false,false] rfl rfl (one_of HT_.out (by kernel_rfl)) (by decide) (fun K hK => ?_)
     refine Kd.R_append_step k37 (w0 := w) w.heap.size (by rfl) (.tmp 94) (.tmp 107) 23 37 (.agg #[(.string ⟨#[]⟩), (.string ⟨#[]⟩)]) 32 rfl Try.underlying23 info37 rfl (by decide) (by omega) (.slice (some ad205) x198004_20.length co63) x198004_20 (⟨(rd_T37 x198004_20 (ji58)).f0, (rd_T37 x198004_20 (ji58)).f1⟩ : S37) [.string ((rd_T37 x198004_20 (ji58)).f0), .string ((rd_T37 x198004_20 (ji58)).f1)] (fun _ => True) (fun _ => False) rfl rfl ?aP (fun _ hk => hk.elim) ?aF ?aO ?aB ?aS ?aL ?_
     (case aP => exact k37_mkM _ _ _ (⟨(rd_T37 x198004_20 (ji58)).f0, (rd_T37 x198004_20 (ji58)).f1⟩ : S37))
     (case aB => exact (by repeat (first | (with_reducible first | exact HB.out | apply below_alloc | apply pw_below_drewN | apply below_drew1 | refine below_set ?_ GE183.out | refine below_set ?_ GE184.out | refine below_set ?_ GE197.out) | exact HB.out)))
     (case aF => exact (fun _ _ => trivial))
     (case aO => exact (by (with_reducible repeat (first | apply Kd.R_alloc | apply Kd.R_drewN | apply Kd.R_drew)); exact HO_198004.out))
     (case aS => exact (below_size (by repeat (first | (with_reducible first | exact HB.out | apply below_alloc | apply pw_below_drewN | apply below_drew1 | refine below_set ?_ GE183.out | refine below_set ?_ GE184.out | refine below_set ?_ GE197.out) | exact HB.out))))
     (case aL => have := LMc61.out; omega)
     intro v207 w64 ho hb hg hat
     rw [← Ny206.out] at ho
     have n0_ := Aside0.mk (Kd.R_over' (by (with_reducible repeat (first | apply Kd.R_alloc | apply Kd.R_drewN | apply Kd.R_drew)); exact HO_198002.out) (Kd.R_typed (by (with_reducible repeat (first | apply Kd.R_alloc | apply Kd.R_drewN | apply Kd.R_drew)); exact HO_198004.out)) (by decide) hg)
     have n1_ := Aside0.mk (blk_grown (g := gb183) (o := .cells #[.string a0_0, .int .i64 a0_1, .slice A0_2 l0_2.length c0_2, .int .i64 a0_3, .slice A0_4 l0_4.length c0_4, .int .i64 a0_5] 25 (0, 0)) (by (with_reducible repeat (first | refine blk_drewN ?_ _ | refine blk_drew ?_ | refine blk_alloc ?_ _)); exact BK183.out) hg (Kd.R_ne HO_198004.out BK183.out (by decide)))
     have n2_ := Aside0.mk (blk_grown (g := gb184) (o := .cells #[.int .i64 a2_0, .int .i64 a2_1, .int .i64 a2_2] 34 (0, 0)) (by (with_reducible repeat (first | refine blk_drewN ?_ _ | refine blk_drew ?_ | refine blk_alloc ?_ _)); exact BK184.out) hg (Kd.R_ne HO_198004.out BK184.out (by decide)))
     have n3_ := Aside0.mk (blk_grown (g := gb197) (o := .cells #[.string t187, .int .i64 t188, .slice Ao29 t189.length co29, .int .i64 t192, .slice (some ad205) x198004_20.length co63, .int .i64 t196] 25 (0, 0)) (by (with_reducible repeat (first | refine blk_drewN ?_ _ | refine blk_drew ?_ | refine blk_alloc ?_ _)); exact BK197.out) hg (Kd.R_ne HO_198004.out BK197.out (by decide)))
     have n4_ := Aside0.mk (hb)
     have n5_ := Aside0.mk (ho)
     clear HO_198002
     clear BK183
     clear BK184
     clear BK197
     clear HB
     clear HO_198004
     have HO_198002 := n0_
     have BK183 := n1_
     have BK184 := n2_
     have BK197 := n3_
     have HB := n4_
     have HO208 := n5_
     clear n0_ n1_ n2_ n3_ n4_ n5_
     clear ho hb hg hat
     obtain ⟨Ao65, co65, eo65⟩ := Kd.R_slice HO208.out
     (first | subst eo65 | (injection eo65 with f1_ f2_ f3_; have f4_ := f1_.symm; have f5_ := f3_.symm; clear f1_ f2_ f3_; subst f4_; subst f5_))
     refine hK.out _ _ ?_
     clear hK K
     refine norm_ (a' := ?_) ?_ ?_
     rotate_left
     ·show Act.put _ (some 108) _ = _
      simp only [Act.put, List.setIfInBounds_toArray, List.set_cons_zero, List.set_cons_succ, i64_w, i32_w]
      rfl
     refine pure_ (i := 16) (N := some 109) (v := ?_) (a' := ?_) #[true,true,true,true,true,true,true,true,true,true,true,true,true,true,true,true,true,false] rfl rfl (any_of HT_.out (by kernel_rfl)) (fun _ _ _ h => h) (Or.inl ⟨by rfl, ?_⟩) ?_ ?_
     rotate_left
     ·intro w'
      go_simp
      with_reducible rfl
     rotate_left
     ·simp only [Act.put, List.setIfInBounds_toArray, List.set_cons_zero, List.set_cons_succ, i64_w, i32_w]
      rfl
     refine last_ (i := 17) (N := none) #[true,true,true,true,true,true,true,true,true,true,true,true,true,true,true,true,true,true] rfl rfl (one_of HT_.out (by kernel_rfl)) (by decide) (fun K hK => ?_)
     have hs66 : w64.cell? ⟨gb197, 4, none⟩ = some (.slice (some ad205) x198004_20.length co63) := (blk_cell BK197.out 4).trans rfl
     have hfs66 := blk_frozen BK197.out 4
     have hns66_0 := NB183_197.out
     have hns66_1 := NB184_197.out
     have hms66_0 := NB197_183.out
     have hms66_1 := NB197_184.out
     refine skip_ (w1 := ?_) (by rfl) rfl ?_ ?_
     rotate_left
     ·go_simp
      rfl
     refine hK.out _ _ ?_
     clear hK K
     refine done_ (done_of HT_.out (by kernel_rfl)) ?_
     try go_wp2
     go_meet
     case rel => exact ⟨_, (y206), (.slice Ao65 y206.length co65), H', ⟨by have := HJ3.out; have := HJ20.out; have := HJ52.out; first | omega | exact Nat.le_refl _⟩, ⟨by (with_reducible repeat (first | apply Kd.R_alloc | apply Kd.R_drewN | apply Kd.R_drew)); exact Kd.R_mono (Kd.R_far (p := ⟨gb197, 4, none⟩) (Kd.R_types HO_198002.out BK197.out (by decide)) (fun _ hk => hk.2) (.slice Ao65 y206.length co65)) (fun _ hk => trivial)⟩, ⟨by (with_reducible repeat (first | apply Kd.R_alloc | apply Kd.R_drewN | apply Kd.R_drew)); exact Kd.R_mono (Kd.R_far (p := ⟨gb197, 4, none⟩) (Kd.R_types HO208.out BK197.out (by decide)) (fun _ hk => hk.2) (.slice Ao65 y206.length co65)) (fun _ hk => trivial)⟩, ⟨by (with_reducible repeat (first | refine blk_drewN ?_ _ | refine blk_drew ?_ | refine blk_alloc ?_ _)); refine blk_far ?_ NB183_197.out _; (with_reducible repeat (first | refine blk_drewN ?_ _ | refine blk_drew ?_ | refine blk_alloc ?_ _)); exact BK183.out⟩, ⟨by (with_reducible repeat (first | refine blk_drewN ?_ _ | refine blk_drew ?_ | refine blk_alloc ?_ _)); refine blk_far ?_ NB184_197.out _; (with_reducible repeat (first | refine blk_drewN ?_ _ | refine blk_drew ?_ | refine blk_alloc ?_ _)); exact BK184.out⟩, ⟨by (with_reducible repeat (first | refine blk_drewN ?_ _ | refine blk_drew ?_ | refine blk_alloc ?_ _)); refine blk_put (cs := #[.string t187, .int .i64 t188, .slice Ao29 t189.length co29, .int .i64 t192, .slice (some ad205) x198004_20.length co63, .int .i64 t196]) ?_ 4 _ rfl; (with_reducible repeat (first | refine blk_drewN ?_ _ | refine blk_drew ?_ | refine blk_alloc ?_ _)); exact BK197.out⟩, ⟨by repeat (first | (with_reducible first | exact HB.out | apply below_alloc | apply pw_below_drewN | apply below_drew1 | refine below_set ?_ GE183.out | refine below_set ?_ GE184.out | refine below_set ?_ GE197.out) | exact HB.out)⟩⟩
    clear HC55
    try clear c1
    try clear p1
    try clear q1
    try clear hx1
    try clear c2
    try clear p2
    try clear q2
    try clear hx2
    try clear c3
    try clear c4
    try clear p4
    try clear q4
    try clear hx4
    try clear hf4
    try clear c5
    try clear c6
    try clear p6
    try clear c8
    try clear c9
    try clear c12
    try clear c14
    try clear c15
    try clear p19
    try clear q19
    try clear hx19
    try clear c20
    try clear p20
    try clear q20
    try clear hx20
    try clear c22
    try clear c24
    try clear c26
    try clear c27
    try clear c34
    try clear c34b0
    try clear c35
    try clear c35b0
    try clear c35b1
    try clear c36
    try clear c36b0
    try clear c37
    try clear c37b0
    try clear c38
    try clear c38b0
    try clear c38b1
    try clear c38b2
    try clear c40
    try clear c40b0
    try clear c42
    try clear c42b0
    try clear c43
    try clear c43b0
    try clear c45
    try clear c45b0
    try clear c46
    try clear c46b0
    try clear c47
    try clear p47
    try clear q47
    try clear hx47
    try clear hf47
    try clear c48
    try clear p48
    try clear q48
    try clear hx48
    try clear hf48
    try clear c51
    try clear c52
    try clear c54
    try clear c54b0
    try clear c54b1
    try clear c56
    try clear c57
    try clear c57b0
    try clear c57b1
    try clear c57b2
    try clear c59
    try clear c59b0
    try clear c60
    try clear c60b0
    try clear c61
    try clear p64
    try clear hcz10_0
    try clear hcz10_1
    try clear hcz10_2
    try clear hcz10_3
    try clear hcz10_4
    try clear hcz10_5
    try clear hcz13_0
    try clear hcz13_1
    try clear hcz13_2
    try clear hcz13_3
    try clear hcz13_4
    try clear hcz13_5
    try clear hcz23_0
    try clear hcz23_1
    try clear hcz23_2
    try clear hcz23_3
    try clear hcz23_4
    try clear hcz23_5
    try clear hcz28_0
    try clear hcz28_1
    try clear hcz28_2
    try clear hcz28_3
    try clear hcz28_4
    try clear hcz28_5
    try clear hcz31_0
    try clear hcz31_1
    try clear hcz31_2
    try clear hcz31_3
    try clear hcz31_4
    try clear hcz31_5
    try clear hcz33_0
    try clear hcz33_1
    try clear hcz33_2
    try clear hcz33_3
    try clear hcz33_4
    try clear hcz33_5
    try clear hfz10_0
    try clear hfz10_1
    try clear hfz10_2
    try clear hfz10_3
    try clear hfz10_4
    try clear hfz10_5
    try clear hfz13_0
    try clear hfz13_1
    try clear hfz13_2
    try clear hfz13_3
    try clear hfz13_4
    try clear hfz13_5
    try clear hfz23_0
    try clear hfz23_1
    try clear hfz23_2
    try clear hfz23_3
    try clear hfz23_4
    try clear hfz23_5
    try clear hfz28_0
    try clear hfz28_1
    try clear hfz28_2
    try clear hfz28_3
    try clear hfz28_4
    try clear hfz28_5
    try clear hfz31_0
    try clear hfz31_1
    try clear hfz31_2
    try clear hfz31_3
    try clear hfz31_4
    try clear hfz31_5
    try clear hfz33_0
    try clear hfz33_1
    try clear hfz33_2
    try clear hfz33_3
    try clear hfz33_4
    try clear hfz33_5
    try clear hx199_0
    try clear hx200_0
    try clear hx201_0
    try clear hx201_1
    try clear hx202_0
    try clear hx202_1
    try clear hx205_0
    try clear hx205_1
    try clear hx47_0
    try clear hx47_1
    try clear hx48_0
    try clear hx48_1
    try clear p1
    try clear p19
    try clear p199
    try clear p2
    try clear p20
    try clear p200
    try clear p201
    try clear p202
    try clear p205
    try clear p4
    try clear p47
    try clear p48
    try clear p6
    try clear q1
    try clear q19
    try clear q199
    try clear q2
    try clear q20
    try clear q200
    try clear q201
    try clear q202
    try clear q205
    try clear q4
    try clear q47
    try clear q48
    obtain ⟨kq, x198004_54, u198004, HA, HJ54, HO_198002, HO_198004, BK183, BK184, BK197, HB⟩ := hcut
    cases kq with
    | zero => exact absurd HA.out (by simp [forebaylaw07_MetricTags.j4])
    | succ kj54 =>
     have H := HA.out
     clear HA
     simp only [forebaylaw07_MetricTags.j4] at H
     replace H := Option.bind_eq_some_iff.mp H
     obtain ⟨⟨t209, t210, t211, t214, t215, t218, t219⟩, A670, H⟩ := H
     replace H : ((metric_Same.f kj54 a0_0 a0_1 l0_2 a0_3 l0_4 a0_5 t187 t188 t189 t192 x198004_54 t196).bind fun t221 => (if (t221 != (t219 == 0)) = true then (none) else (if t219 = 0 then (forebaylaw07_MetricTags.j5 kj54 (t189.length : Int) (decide ((t189.length : Int) < 2)) a0_0 a0_1 l0_2 a0_3 l0_4 a0_5 a2_0 a2_1 a2_2 t187 t188 t189 t192 x198004_54 t196) else (forebaylaw07_MetricTags.j5 kj54 (t189.length : Int) true a0_0 a0_1 l0_2 a0_3 l0_4 a0_5 a2_0 a2_1 a2_2 t187 t188 t189 t192 x198004_54 t196)))) = some r := H
     have A67 := Aside0.mk A670
     clear A670
     replace H := Option.bind_eq_some_iff.mp H
     obtain ⟨t221, A680, H⟩ := H
     replace H : (if (t221 != (t219 == 0)) = true then (none) else (if t219 = 0 then (forebaylaw07_MetricTags.j5 kj54 (t189.length : Int) (decide ((t189.length : Int) < 2)) a0_0 a0_1 l0_2 a0_3 l0_4 a0_5 a2_0 a2_1 a2_2 t187 t188 t189 t192 x198004_54 t196) else (forebaylaw07_MetricTags.j5 kj54 (t189.length : Int) true a0_0 a0_1 l0_2 a0_3 l0_4 a0_5 a2_0 a2_1 a2_2 t187 t188 t189 t192 x198004_54 t196))) = some r := H
     have A68 := Aside0.mk A680
     clear A680
     by_cases c69 : (t221 != (t219 == 0)) = true
     ·rw [if_pos c69] at H
      exact absurd H (by simp)
     rw [if_neg c69] at H
     have c69b0 : (t221 != (t219 == 0)) = false := by simpa using c69
     (try (have c69b1 : decide (t221 = (t219 == 0)) = true := by simpa using c69))
     (try (have c69b2 : (t221 == (t219 == 0)) = true := by simpa using c69))
     clear c69
     have HC70 := Aside0.mk H
     clear H
     have hnb71 := NB183_184.out
     have hnc71 := NB184_183.out
     have hnb72 := NB183_197.out
     have hnc72 := NB197_183.out
     have hcz73_0 : wc.cell? ⟨gb183, 0, none⟩ = some (.string a0_0) := (blk_cell BK183.out 0).trans rfl
     have hcz73_1 : wc.cell? ⟨gb183, 1, none⟩ = some (.int .i64 a0_1) := (blk_cell BK183.out 1).trans rfl
     have hcz73_2 : wc.cell? ⟨gb183, 2, none⟩ = some (.slice A0_2 l0_2.length c0_2) := (blk_cell BK183.out 2).trans rfl
     have hcz73_3 : wc.cell? ⟨gb183, 3, none⟩ = some (.int .i64 a0_3) := (blk_cell BK183.out 3).trans rfl
     have hcz73_4 : wc.cell? ⟨gb183, 4, none⟩ = some (.slice A0_4 l0_4.length c0_4) := (blk_cell BK183.out 4).trans rfl
     have hcz73_5 : wc.cell? ⟨gb183, 5, none⟩ = some (.int .i64 a0_5) := (blk_cell BK183.out 5).trans rfl
     have hfz73_0 := blk_frozen BK183.out 0
     have hfz73_1 := blk_frozen BK183.out 1
     have hfz73_2 := blk_frozen BK183.out 2
     have hfz73_3 := blk_frozen BK183.out 3
     have hfz73_4 := blk_frozen BK183.out 4
     have hfz73_5 := blk_frozen BK183.out 5
     go_upto_region 19 with (first | ((with_reducible refine gate_callee (f := 18) rfl ?_); refine goesL_ (some 112) rfl rfl Try.func18 (by kernel_rfl) rfl #[.agg #[.string a0_0, .int .i64 a0_1, .slice A0_2 l0_2.length c0_2, .int .i64 a0_3, .slice A0_4 l0_4.length c0_4, .int .i64 a0_5]] rfl (by (try simp only [List.map_toArray, List.map_cons, List.map_nil]); first | done | rfl | (simp only [List.length_drop, List.length_take]; rfl)) ?_; (with_reducible refine (metric_Normal.calls a0_0 a0_1 _ _ l0_2 a0_3 _ _ l0_4 a0_5 t209 t210 t211 t214 t215 t218 t219 _ ?side1 ?side2 ?side3 ?side4 A67.out).mono ?_); (case side1 => repeat (first | exact (Kd.C_below HR0_2.out HB.out) | (with_reducible refine Kd.C_alloc ?_ _) | (with_reducible refine Kd.C_drewN ?_ _) | (with_reducible refine Kd.C_drew ?_))); (case side2 => exact HC0_2.out); (case side3 => repeat (first | exact (Kd.C_below HR0_4.out HB.out) | (with_reducible refine Kd.C_alloc ?_ _) | (with_reducible refine Kd.C_drewN ?_ _) | (with_reducible refine Kd.C_drew ?_))); (case side4 => exact HC0_4.out); rintro e w74 ⟨v212, v216, rfl, ho0, ho1, hb⟩; refine ⟨_, rfl, ?_⟩; have n0_ := Aside0.mk (Kd.R_elder' (by (with_reducible repeat (first | apply Kd.R_alloc | apply Kd.R_drewN | apply Kd.R_drew)); exact HO_198002.out) (Kd.R_base ho0) hb); have n1_ := Aside0.mk (Kd.R_below (by (with_reducible repeat (first | apply Kd.R_alloc | apply Kd.R_drewN | apply Kd.R_drew)); exact HO_198004.out) hb); have n2_ := Aside0.mk (Kd.R_lower (Kd.R_new' (Kd.R_mono (ok' := fun k_ => True) ho0 (fun _ hk_ => trivial)) (Kd.R_lt (by (with_reducible repeat (first | apply Kd.R_alloc | apply Kd.R_drewN | apply Kd.R_drew)); exact HO_198002.out))) (below_size (by repeat (first | (with_reducible first | exact HB.out | apply below_alloc | apply pw_below_drewN | apply below_drew1 | refine below_set ?_ GE183.out | refine below_set ?_ GE184.out | refine below_set ?_ GE197.out) | exact HB.out)))); have n3_ := Aside0.mk (Kd.V_lower (Kd.V_mono (ok' := fun k_ => some k_ ≠ (v212 : Value).ownBlock ∧ some k_ ≠ (.slice Ao29 t189.length co29 : Value).ownBlock ∧ some k_ ≠ (u198004 : Value).ownBlock ∧ k_ ≠ gb183 ∧ k_ ≠ gb184 ∧ k_ ≠ gb197) ho1 (fun k_ hk_ => ⟨hk_.2, (Kd.fresh' (Kd.R_lt (by (with_reducible repeat (first | apply Kd.R_alloc | apply Kd.R_drewN | apply Kd.R_drew)); exact HO_198002.out)) k_ hk_.1), (Kd.fresh' (Kd.R_lt (by (with_reducible repeat (first | apply Kd.R_alloc | apply Kd.R_drewN | apply Kd.R_drew)); exact HO_198004.out)) k_ hk_.1), (Kd.freshB (g := gb183) (o := .cells #[.string a0_0, .int .i64 a0_1, .slice A0_2 l0_2.length c0_2, .int .i64 a0_3, .slice A0_4 l0_4.length c0_4, .int .i64 a0_5] 25 (0, 0)) (by (with_reducible repeat (first | refine blk_drewN ?_ _ | refine blk_drew ?_ | refine blk_alloc ?_ _)); exact BK183.out) k_ hk_.1), (Kd.freshB (g := gb184) (o := .cells #[.int .i64 a2_0, .int .i64 a2_1, .int .i64 a2_2] 34 (0, 0)) (by (with_reducible repeat (first | refine blk_drewN ?_ _ | refine blk_drew ?_ | refine blk_alloc ?_ _)); exact BK184.out) k_ hk_.1), (Kd.freshB (g := gb197) (o := .cells #[.string t187, .int .i64 t188, .slice Ao29 t189.length co29, .int .i64 t192, u198004, .int .i64 t196] 25 (0, 0)) (by (with_reducible repeat (first | refine blk_drewN ?_ _ | refine blk_drew ?_ | refine blk_alloc ?_ _)); exact BK197.out) k_ hk_.1)⟩)) (below_size (by repeat (first | (with_reducible first | exact HB.out | apply below_alloc | apply pw_below_drewN | apply below_drew1 | refine below_set ?_ GE183.out | refine below_set ?_ GE184.out | refine below_set ?_ GE197.out) | exact HB.out)))); have n4_ := Aside0.mk (blk_below (g := gb183) (o := .cells #[.string a0_0, .int .i64 a0_1, .slice A0_2 l0_2.length c0_2, .int .i64 a0_3, .slice A0_4 l0_4.length c0_4, .int .i64 a0_5] 25 (0, 0)) (by (with_reducible repeat (first | refine blk_drewN ?_ _ | refine blk_drew ?_ | refine blk_alloc ?_ _)); exact BK183.out) hb); have n5_ := Aside0.mk (blk_below (g := gb184) (o := .cells #[.int .i64 a2_0, .int .i64 a2_1, .int .i64 a2_2] 34 (0, 0)) (by (with_reducible repeat (first | refine blk_drewN ?_ _ | refine blk_drew ?_ | refine blk_alloc ?_ _)); exact BK184.out) hb); have n6_ := Aside0.mk (blk_below (g := gb197) (o := .cells #[.string t187, .int .i64 t188, .slice Ao29 t189.length co29, .int .i64 t192, u198004, .int .i64 t196] 25 (0, 0)) (by (with_reducible repeat (first | refine blk_drewN ?_ _ | refine blk_drew ?_ | refine blk_alloc ?_ _)); exact BK197.out) hb); have n7_ := Aside0.mk (below_step (by repeat (first | (with_reducible first | exact HB.out | apply below_alloc | apply pw_below_drewN | apply below_drew1 | refine below_set ?_ GE183.out | refine below_set ?_ GE184.out | refine below_set ?_ GE197.out) | exact HB.out)) hb); clear HO_198002; clear HO_198004; clear BK183; clear BK184; clear BK197; clear HB; have HO_198002 := n0_; have HO_198004 := n1_; have HO213 := n2_; have HO217 := n3_; have BK183 := n4_; have BK184 := n5_; have BK197 := n6_; have HB := n7_; clear n0_ n1_ n2_ n3_ n4_ n5_ n6_ n7_; (try clear hb); (try clear hb2); (try clear hk); (try clear hi); (try clear ho0); (try clear ho1)) | ((with_reducible refine gate_dst (N := 12) rfl ?_); (try (refine gate_guard (by rfl) ?_; dsimp only)); refine box_event ?hg (N := 12) ?hd (cs := #[.string (⟨#[]⟩ : ByteArray), .int .i64 0, .slice none 0 0, .int .i64 0, .slice none 0 0, .int .i64 0]) (t := 25) ?hr ?_; (case hd => rfl); (case hg => rfl); (case hr => first | (go_simp; done) | (go_simp; rfl)); intro gb220 hg w75 hbox hb; have n0_ := Aside0.mk (Kd.R_below (by (with_reducible repeat (first | apply Kd.R_alloc | apply Kd.R_drewN | apply Kd.R_drew)); exact HO_198002.out) hb); have n1_ := Aside0.mk (Kd.R_below (by (with_reducible repeat (first | apply Kd.R_alloc | apply Kd.R_drewN | apply Kd.R_drew)); exact HO_198004.out) hb); have n2_ := Aside0.mk (Kd.R_below (by (with_reducible repeat (first | apply Kd.R_alloc | apply Kd.R_drewN | apply Kd.R_drew)); exact HO213.out) hb); have n3_ := Aside0.mk (Kd.V_below (Kd.V_elderB (by (with_reducible repeat (first | apply Kd.V_alloc | apply Kd.V_drewN | apply Kd.V_drew)); exact HO217.out) gb220 (Nat.le_of_eq hg.symm)) hb); have n4_ := Aside0.mk (blk_below (g := gb183) (o := .cells #[.string a0_0, .int .i64 a0_1, .slice A0_2 l0_2.length c0_2, .int .i64 a0_3, .slice A0_4 l0_4.length c0_4, .int .i64 a0_5] 25 (0, 0)) (by (with_reducible repeat (first | refine blk_drewN ?_ _ | refine blk_drew ?_ | refine blk_alloc ?_ _)); exact BK183.out) hb); have n5_ := Aside0.mk (blk_below (g := gb184) (o := .cells #[.int .i64 a2_0, .int .i64 a2_1, .int .i64 a2_2] 34 (0, 0)) (by (with_reducible repeat (first | refine blk_drewN ?_ _ | refine blk_drew ?_ | refine blk_alloc ?_ _)); exact BK184.out) hb); have n6_ := Aside0.mk (blk_below (g := gb197) (o := .cells #[.string t187, .int .i64 t188, .slice Ao29 t189.length co29, .int .i64 t192, u198004, .int .i64 t196] 25 (0, 0)) (by (with_reducible repeat (first | refine blk_drewN ?_ _ | refine blk_drew ?_ | refine blk_alloc ?_ _)); exact BK197.out) hb); have n7_ := Aside0.mk (below_step (by repeat (first | (with_reducible first | exact HB.out | apply below_alloc | apply pw_below_drewN | apply below_drew1 | refine below_set ?_ GE183.out | refine below_set ?_ GE184.out | refine below_set ?_ GE197.out) | exact HB.out)) hb); have n8_ := Aside0.mk (hbox); have n9_ := Aside0.mk ((by rw [hg]; exact (below_size (by repeat (first | (with_reducible first | exact HB.out | apply below_alloc | apply pw_below_drewN | apply below_drew1 | refine below_set ?_ GE183.out | refine below_set ?_ GE184.out | refine below_set ?_ GE197.out) | exact HB.out))) : w.heap.size ≤ gb220)); have n10_ := Aside0.mk ((by rw [hg]; exact (below_size (by repeat (first | (with_reducible first | exact HB.out | apply below_alloc | apply pw_below_drewN | apply below_drew1 | refine below_set ?_ GE183.out | refine below_set ?_ GE184.out | refine below_set ?_ GE197.out) | exact HB.out))) : w.heap.size ≤ gb220)); have n11_ := Aside0.mk ((by rw [hg]; exact Nat.ne_of_lt (blk_lt (g := gb183) (o := .cells #[.string a0_0, .int .i64 a0_1, .slice A0_2 l0_2.length c0_2, .int .i64 a0_3, .slice A0_4 l0_4.length c0_4, .int .i64 a0_5] 25 (0, 0)) (by (with_reducible repeat (first | refine blk_drewN ?_ _ | refine blk_drew ?_ | refine blk_alloc ?_ _)); exact BK183.out)) : gb183 ≠ gb220)); have n12_ := Aside0.mk ((by rw [hg]; exact Nat.ne_of_gt (blk_lt (g := gb183) (o := .cells #[.string a0_0, .int .i64 a0_1, .slice A0_2 l0_2.length c0_2, .int .i64 a0_3, .slice A0_4 l0_4.length c0_4, .int .i64 a0_5] 25 (0, 0)) (by (with_reducible repeat (first | refine blk_drewN ?_ _ | refine blk_drew ?_ | refine blk_alloc ?_ _)); exact BK183.out)) : gb220 ≠ gb183)); have n13_ := Aside0.mk ((by rw [hg]; exact Nat.ne_of_lt (blk_lt (g := gb184) (o := .cells #[.int .i64 a2_0, .int .i64 a2_1, .int .i64 a2_2] 34 (0, 0)) (by (with_reducible repeat (first | refine blk_drewN ?_ _ | refine blk_drew ?_ | refine blk_alloc ?_ _)); exact BK184.out)) : gb184 ≠ gb220)); have n14_ := Aside0.mk ((by rw [hg]; exact Nat.ne_of_gt (blk_lt (g := gb184) (o := .cells #[.int .i64 a2_0, .int .i64 a2_1, .int .i64 a2_2] 34 (0, 0)) (by (with_reducible repeat (first | refine blk_drewN ?_ _ | refine blk_drew ?_ | refine blk_alloc ?_ _)); exact BK184.out)) : gb220 ≠ gb184)); have n15_ := Aside0.mk ((by rw [hg]; exact Nat.ne_of_lt (blk_lt (g := gb197) (o := .cells #[.string t187, .int .i64 t188, .slice Ao29 t189.length co29, .int .i64 t192, u198004, .int .i64 t196] 25 (0, 0)) (by (with_reducible repeat (first | refine blk_drewN ?_ _ | refine blk_drew ?_ | refine blk_alloc ?_ _)); exact BK197.out)) : gb197 ≠ gb220)); have n16_ := Aside0.mk ((by rw [hg]; exact Nat.ne_of_gt (blk_lt (g := gb197) (o := .cells #[.string t187, .int .i64 t188, .slice Ao29 t189.length co29, .int .i64 t192, u198004, .int .i64 t196] 25 (0, 0)) (by (with_reducible repeat (first | refine blk_drewN ?_ _ | refine blk_drew ?_ | refine blk_alloc ?_ _)); exact BK197.out)) : gb220 ≠ gb197)); clear HO_198002; clear HO_198004; clear HO213; clear HO217; clear BK183; clear BK184; clear BK197; clear HB; have HO_198002 := n0_; have HO_198004 := n1_; have HO213 := n2_; have HO217 := n3_; have BK183 := n4_; have BK184 := n5_; have BK197 := n6_; have HB := n7_; have BK220 := n8_; have GW220 := n9_; have GE220 := n10_; have NB183_220 := n11_; have NB220_183 := n12_; have NB184_220 := n13_; have NB220_184 := n14_; have NB197_220 := n15_; have NB220_197 := n16_; clear n0_ n1_ n2_ n3_ n4_ n5_ n6_ n7_ n8_ n9_ n10_ n11_ n12_ n13_ n14_ n15_ n16_; clear hb hbox hg; have hnb76 := NB220_183.out; have hnc76 := NB183_220.out; have hnb77 := NB220_184.out; have hnc77 := NB184_220.out; have hnb78 := NB220_197.out; have hnc78 := NB197_220.out; have hcz79_0 : w75.cell? ⟨gb220, 0, none⟩ = some (.string (⟨#[]⟩ : ByteArray)) := (blk_cell BK220.out 0).trans rfl; have hcz79_1 : w75.cell? ⟨gb220, 1, none⟩ = some (.int .i64 0) := (blk_cell BK220.out 1).trans rfl; have hcz79_2 : w75.cell? ⟨gb220, 2, none⟩ = some (.slice none 0 0) := (blk_cell BK220.out 2).trans rfl; have hcz79_3 : w75.cell? ⟨gb220, 3, none⟩ = some (.int .i64 0) := (blk_cell BK220.out 3).trans rfl; have hcz79_4 : w75.cell? ⟨gb220, 4, none⟩ = some (.slice none 0 0) := (blk_cell BK220.out 4).trans rfl; have hcz79_5 : w75.cell? ⟨gb220, 5, none⟩ = some (.int .i64 0) := (blk_cell BK220.out 5).trans rfl; have hfz79_0 := blk_frozen BK220.out 0; have hfz79_1 := blk_frozen BK220.out 1; have hfz79_2 := blk_frozen BK220.out 2; have hfz79_3 := blk_frozen BK220.out 3; have hfz79_4 := blk_frozen BK220.out 4; have hfz79_5 := blk_frozen BK220.out 5; obtain ⟨Ao80, co80, eo80⟩ := Kd.R_slice HO213.out; subst eo80; obtain ⟨Ao81, co81, eo81⟩ := Kd.V_slice HO217.out; subst eo81; have hcz82_0 : w75.cell? ⟨gb183, 0, none⟩ = some (.string a0_0) := (blk_cell BK183.out 0).trans rfl; have hcz82_1 : w75.cell? ⟨gb183, 1, none⟩ = some (.int .i64 a0_1) := (blk_cell BK183.out 1).trans rfl; have hcz82_2 : w75.cell? ⟨gb183, 2, none⟩ = some (.slice A0_2 l0_2.length c0_2) := (blk_cell BK183.out 2).trans rfl; have hcz82_3 : w75.cell? ⟨gb183, 3, none⟩ = some (.int .i64 a0_3) := (blk_cell BK183.out 3).trans rfl; have hcz82_4 : w75.cell? ⟨gb183, 4, none⟩ = some (.slice A0_4 l0_4.length c0_4) := (blk_cell BK183.out 4).trans rfl; have hcz82_5 : w75.cell? ⟨gb183, 5, none⟩ = some (.int .i64 a0_5) := (blk_cell BK183.out 5).trans rfl; have hfz82_0 := blk_frozen BK183.out 0; have hfz82_1 := blk_frozen BK183.out 1; have hfz82_2 := blk_frozen BK183.out 2; have hfz82_3 := blk_frozen BK183.out 3; have hfz82_4 := blk_frozen BK183.out 4; have hfz82_5 := blk_frozen BK183.out 5; have hnb83 := NB197_184.out; have hnc83 := NB184_197.out; have hcz84_0 : w75.cell? ⟨gb197, 0, none⟩ = some (.string t187) := (blk_cell BK197.out 0).trans rfl; have hcz84_1 : w75.cell? ⟨gb197, 1, none⟩ = some (.int .i64 t188) := (blk_cell BK197.out 1).trans rfl; have hcz84_2 : w75.cell? ⟨gb197, 2, none⟩ = some (.slice Ao29 t189.length co29) := (blk_cell BK197.out 2).trans rfl; have hcz84_3 : w75.cell? ⟨gb197, 3, none⟩ = some (.int .i64 t192) := (blk_cell BK197.out 3).trans rfl; have hcz84_4 : w75.cell? ⟨gb197, 4, none⟩ = some (u198004) := (blk_cell BK197.out 4).trans rfl; have hcz84_5 : w75.cell? ⟨gb197, 5, none⟩ = some (.int .i64 t196) := (blk_cell BK197.out 5).trans rfl; have hfz84_0 := blk_frozen BK197.out 0; have hfz84_1 := blk_frozen BK197.out 1; have hfz84_2 := blk_frozen BK197.out 2; have hfz84_3 := blk_frozen BK197.out 3; have hfz84_4 := blk_frozen BK197.out 4; have hfz84_5 := blk_frozen BK197.out 5; obtain ⟨Ao85, co85, eo85⟩ := Kd.R_slice HO_198004.out; subst eo85) | ((with_reducible refine gate_callee (f := 23) rfl ?_); refine goesL_ (some 117) rfl rfl Try.func23 (by kernel_rfl) rfl #[.agg #[.string a0_0, .int .i64 a0_1, .slice A0_2 l0_2.length c0_2, .int .i64 a0_3, .slice A0_4 l0_4.length c0_4, .int .i64 a0_5], .agg #[.string t187, .int .i64 t188, .slice Ao29 t189.length co29, .int .i64 t192, .slice Ao85 x198004_54.length co85, .int .i64 t196]] rfl (by (try simp only [List.map_toArray, List.map_cons, List.map_nil]); first | done | rfl | (simp only [List.length_drop, List.length_take]; rfl)) ?_; (with_reducible refine (metric_Same.calls kj54 a0_0 a0_1 _ _ l0_2 a0_3 _ _ l0_4 a0_5 t187 t188 _ _ t189 t192 _ _ x198004_54 t196 t221 _ ?side1 ?side2 ?side3 ?side4 ?side5 ?side6 ?side7 ?side8 A68.out).mono ?_); (case side1 => exact Kd.C_below HR0_2.out (by repeat (first | (with_reducible first | exact HB.out | apply below_alloc | apply pw_below_drewN | apply below_drew1 | refine below_set ?_ GE183.out | refine below_set ?_ GE184.out | refine below_set ?_ GE197.out | refine below_set ?_ GE220.out) | exact HB.out))); (case side2 => exact HC0_2.out); (case side3 => exact Kd.C_below HR0_4.out (by repeat (first | (with_reducible first | exact HB.out | apply below_alloc | apply pw_below_drewN | apply below_drew1 | refine below_set ?_ GE183.out | refine below_set ?_ GE184.out | refine below_set ?_ GE197.out | refine below_set ?_ GE220.out) | exact HB.out))); (case side4 => exact HC0_4.out); (case side5 => refine (Kd.R_reads' (e := 40) (base := w.heap.size) (ok := fun k_ => (True ∧ some k_ ≠ (.slice Ao80 t211.length co80 : Value).ownBlock)) (n := t189.length) (c := co29) ?_).2.2; exact (by (with_reducible repeat (first | apply Kd.R_alloc | apply Kd.R_drewN | apply Kd.R_drew)); exact (Kd.R_mono (R_far6 (g := gb220) (Kd.R_types HO_198002.out BK220.out (by decide)) (fun _ hk => hk.2)) (fun _ h_ => h_.1)))); (case side6 => exact (Kd.R_reads' HO_198002.out).2.1); (case side7 => refine (Kd.R_reads' (e := 37) (base := w.heap.size) (ok := fun k_ => True) (n := x198004_54.length) (c := co85) ?_).2.2; exact (by (with_reducible repeat (first | apply Kd.R_alloc | apply Kd.R_drewN | apply Kd.R_drew)); exact (Kd.R_mono (R_far6 (g := gb220) (Kd.R_types HO_198004.out BK220.out (by decide)) (fun _ hk => hk.2)) (fun _ h_ => h_.1)))); (case side8 => exact (Kd.R_reads' HO_198004.out).2.1); rintro e w86 ⟨rfl, hb⟩; refine ⟨_, rfl, ?_⟩; have n0_ := Aside0.mk (Kd.R_below (by (with_reducible repeat (first | apply Kd.R_alloc | apply Kd.R_drewN | apply Kd.R_drew)); exact (Kd.R_mono (R_far6 (g := gb220) (Kd.R_types HO_198002.out BK220.out (by decide)) (fun _ hk => hk.2)) (fun _ h_ => h_.1))) hb); have n1_ := Aside0.mk (Kd.R_below (by (with_reducible repeat (first | apply Kd.R_alloc | apply Kd.R_drewN | apply Kd.R_drew)); exact (Kd.R_mono (R_far6 (g := gb220) (Kd.R_types HO_198004.out BK220.out (by decide)) (fun _ hk => hk.2)) (fun _ h_ => h_.1))) hb); have n2_ := Aside0.mk (Kd.R_below (by (with_reducible repeat (first | apply Kd.R_alloc | apply Kd.R_drewN | apply Kd.R_drew)); exact (Kd.R_mono (R_far6 (g := gb220) (Kd.R_types HO213.out BK220.out (by decide)) (fun _ hk => hk.2)) (fun _ h_ => h_.1))) hb); have n3_ := Aside0.mk (Kd.V_below (by (with_reducible repeat (first | apply Kd.V_alloc | apply Kd.V_drewN | apply Kd.V_drew)); exact (Kd.V_mono (V_far6 (g := gb220) (Kd.V_mono HO217.out (fun k_ hk => (⟨hk, hk.2⟩ : _ ∧ k_ ≠ gb220))) (fun _ hk => hk.2)) (fun _ h_ => h_.1))) hb); have n4_ := Aside0.mk (blk_below (g := gb183) (o := .cells #[.string a0_0, .int .i64 a0_1, .slice A0_2 l0_2.length c0_2, .int .i64 a0_3, .slice A0_4 l0_4.length c0_4, .int .i64 a0_5] 25 (0, 0)) (by (with_reducible repeat (first | refine blk_far ?_ NB183_220.out _ | refine blk_drewN ?_ _ | refine blk_drew ?_ | refine blk_alloc ?_ _)); exact BK183.out) hb); have n5_ := Aside0.mk (blk_below (g := gb184) (o := .cells #[.int .i64 a2_0, .int .i64 a2_1, .int .i64 a2_2] 34 (0, 0)) (by (with_reducible repeat (first | refine blk_far ?_ NB184_220.out _ | refine blk_drewN ?_ _ | refine blk_drew ?_ | refine blk_alloc ?_ _)); exact BK184.out) hb); have n6_ := Aside0.mk (blk_below (g := gb197) (o := .cells #[.string t187, .int .i64 t188, .slice Ao29 t189.length co29, .int .i64 t192, .slice Ao85 x198004_54.length co85, .int .i64 t196] 25 (0, 0)) (by (with_reducible repeat (first | refine blk_far ?_ NB197_220.out _ | refine blk_drewN ?_ _ | refine blk_drew ?_ | refine blk_alloc ?_ _)); exact BK197.out) hb); have n7_ := Aside0.mk (blk_below (g := gb220) (o := .cells #[.string t209, .int .i64 t210, .slice Ao80 t211.length co80, .int .i64 t214, .slice Ao81 t215.length co81, .int .i64 t218] 25 (0, 0)) (by (with_reducible repeat (first | refine blk_drewN ?_ _ | refine blk_drew ?_ | refine blk_alloc ?_ _)); refine blk_put (cs := #[.string t209, .int .i64 t210, .slice Ao80 t211.length co80, .int .i64 t214, .slice Ao81 t215.length co81, .int .i64 0]) ?_ 5 _ rfl; refine blk_put (cs := #[.string t209, .int .i64 t210, .slice Ao80 t211.length co80, .int .i64 t214, .slice none 0 0, .int .i64 0]) ?_ 4 _ rfl; refine blk_put (cs := #[.string t209, .int .i64 t210, .slice Ao80 t211.length co80, .int .i64 0, .slice none 0 0, .int .i64 0]) ?_ 3 _ rfl; refine blk_put (cs := #[.string t209, .int .i64 t210, .slice none 0 0, .int .i64 0, .slice none 0 0, .int .i64 0]) ?_ 2 _ rfl; refine blk_put (cs := #[.string t209, .int .i64 0, .slice none 0 0, .int .i64 0, .slice none 0 0, .int .i64 0]) ?_ 1 _ rfl; refine blk_put (cs := #[.string (⟨#[]⟩ : ByteArray), .int .i64 0, .slice none 0 0, .int .i64 0, .slice none 0 0, .int .i64 0]) ?_ 0 _ rfl; (with_reducible repeat (first | refine blk_drewN ?_ _ | refine blk_drew ?_ | refine blk_alloc ?_ _)); exact BK220.out) hb); have n8_ := Aside0.mk (below_step (by repeat (first | (with_reducible first | exact HB.out | apply below_alloc | apply pw_below_drewN | apply below_drew1 | refine below_set ?_ GE183.out | refine below_set ?_ GE184.out | refine below_set ?_ GE197.out | refine below_set ?_ GE220.out) | exact HB.out)) hb); clear HO_198002; clear HO_198004; clear HO213; clear HO217; clear BK183; clear BK184; clear BK197; clear BK220; clear HB; have HO_198002 := n0_; have HO_198004 := n1_; have HO213 := n2_; have HO217 := n3_; have BK183 := n4_; have BK184 := n5_; have BK197 := n6_; have BK220 := n7_; have HB := n8_; clear n0_ n1_ n2_ n3_ n4_ n5_ n6_ n7_ n8_; (try clear hb); (try clear hb2); (try clear hk); (try clear hi); have hcz87_0 : w86.cell? ⟨gb197, 0, none⟩ = some (.string t187) := (blk_cell BK197.out 0).trans rfl; have hcz87_1 : w86.cell? ⟨gb197, 1, none⟩ = some (.int .i64 t188) := (blk_cell BK197.out 1).trans rfl; have hcz87_2 : w86.cell? ⟨gb197, 2, none⟩ = some (.slice Ao29 t189.length co29) := (blk_cell BK197.out 2).trans rfl; have hcz87_3 : w86.cell? ⟨gb197, 3, none⟩ = some (.int .i64 t192) := (blk_cell BK197.out 3).trans rfl; have hcz87_4 : w86.cell? ⟨gb197, 4, none⟩ = some (.slice Ao85 x198004_54.length co85) := (blk_cell BK197.out 4).trans rfl; have hcz87_5 : w86.cell? ⟨gb197, 5, none⟩ = some (.int .i64 t196) := (blk_cell BK197.out 5).trans rfl; have hfz87_0 := blk_frozen BK197.out 0; have hfz87_1 := blk_frozen BK197.out 1; have hfz87_2 := blk_frozen BK197.out 2; have hfz87_3 := blk_frozen BK197.out 3; have hfz87_4 := blk_frozen BK197.out 4; have hfz87_5 := blk_frozen BK197.out 5))
     (try simp only [Act.put, List.setIfInBounds_toArray, List.set_cons_zero, List.set_cons_succ])
     go_cut [129] (fun v129 wc => ∃ (kq : Nat) (x129_69 : Bool), v129 = .bool x129_69 ∧ Aside0 (forebaylaw07_MetricTags.j5 kq (t189.length : Int) x129_69 a0_0 a0_1 l0_2 a0_3 l0_4 a0_5 a2_0 a2_1 a2_2 t187 t188 t189 t192 x198004_54 t196 = some r) ∧ Aside0 (kq ≤ kj54) ∧ Aside0 (Kd.R k40 40 wc w.heap.size (fun k_ => some k_ ≠ ((.slice Ao80 t211.length co80) : Value).ownBlock) (.slice Ao29 t189.length co29) t189) ∧ Aside0 (Kd.R k37 37 wc w.heap.size (fun _ => True) (.slice Ao85 x198004_54.length co85) x198004_54) ∧ Aside0 (Kd.R k40 40 wc w.heap.size (fun k_ => some k_ ≠ ((.slice Ao29 t189.length co29) : Value).ownBlock) (.slice Ao80 t211.length co80) t211) ∧ Aside0 (Kd.V k37 37 wc w.heap.size (fun k_ => some k_ ≠ ((.slice Ao29 t189.length co29) : Value).ownBlock ∧ some k_ ≠ ((.slice Ao85 x198004_54.length co85) : Value).ownBlock ∧ some k_ ≠ ((.slice Ao80 t211.length co80) : Value).ownBlock ∧ k_ ≠ gb183 ∧ k_ ≠ gb184 ∧ k_ ≠ gb197 ∧ k_ ≠ gb220) (.slice Ao81 t215.length co81) t215) ∧ Aside0 (wc.heap[gb183]? = some (.cells #[.string a0_0, .int .i64 a0_1, (.slice A0_2 l0_2.length c0_2), .int .i64 a0_3, (.slice A0_4 l0_4.length c0_4), .int .i64 a0_5] 25 (0, 0))) ∧ Aside0 (wc.heap[gb184]? = some (.cells #[.int .i64 a2_0, .int .i64 a2_1, .int .i64 a2_2] 34 (0, 0))) ∧ Aside0 (wc.heap[gb197]? = some (.cells #[.string t187, .int .i64 t188, (.slice Ao29 t189.length co29), .int .i64 t192, (.slice Ao85 x198004_54.length co85), .int .i64 t196] 25 (0, 0))) ∧ Aside0 (wc.heap[gb220]? = some (.cells #[.string t209, .int .i64 t210, (.slice Ao80 t211.length co80), .int .i64 t214, (.slice Ao81 t215.length co81), .int .i64 t218] 25 (0, 0))) ∧ Aside0 (Below w.heap.size w wc))
     case first =>
      have H := HC70.out
      clear HC70
      by_cases c88 : t219 = 0
      rotate_left
      ·rw [if_neg c88] at H
       have c88b0 : (t219 == 0) = false := beq_eq_false_iff_ne.mpr c88
       have c88b1 : (t219 != 0) = true := bne_iff_ne.mpr c88
       (first | rw [c88b0] | (simp only [i64_w, i32_w]; rw [c88b0]) | skip)
       have H' := Aside0.mk H
       clear H
       go_wp2
       go_meet
       case rel => exact ⟨_, (true), (by first | rfl | (simp; done) | (simp [*]; done)), H', ⟨by have := HJ3.out; have := HJ20.out; have := HJ52.out; have := HJ54.out; first | omega | exact Nat.le_refl _⟩, ⟨by (with_reducible repeat (first | apply Kd.R_alloc | apply Kd.R_drewN | apply Kd.R_drew)); exact Kd.R_mono HO_198002.out (fun _ hk => hk.2)⟩, ⟨by (with_reducible repeat (first | apply Kd.R_alloc | apply Kd.R_drewN | apply Kd.R_drew)); exact HO_198004.out⟩, ⟨by (with_reducible repeat (first | apply Kd.R_alloc | apply Kd.R_drewN | apply Kd.R_drew)); exact Kd.R_mono HO213.out (fun _ hk => hk.2)⟩, ⟨by (with_reducible repeat (first | apply Kd.V_alloc | apply Kd.V_drewN | apply Kd.V_drew)); exact Kd.V_mono HO217.out (fun _ hk => ⟨hk.1.2.1, ⟨hk.1.2.2.1, ⟨hk.1.1, ⟨hk.1.2.2.2.1, ⟨hk.1.2.2.2.2.1, ⟨hk.1.2.2.2.2.2, hk.2⟩⟩⟩⟩⟩⟩)⟩, ⟨by (with_reducible repeat (first | refine blk_drewN ?_ _ | refine blk_drew ?_ | refine blk_alloc ?_ _)); exact BK183.out⟩, ⟨by (with_reducible repeat (first | refine blk_drewN ?_ _ | refine blk_drew ?_ | refine blk_alloc ?_ _)); exact BK184.out⟩, ⟨by (with_reducible repeat (first | refine blk_drewN ?_ _ | refine blk_drew ?_ | refine blk_alloc ?_ _)); exact BK197.out⟩, ⟨by (with_reducible repeat (first | refine blk_drewN ?_ _ | refine blk_drew ?_ | refine blk_alloc ?_ _)); exact BK220.out⟩, ⟨by repeat (first | (with_reducible first | exact HB.out | apply below_alloc | apply pw_below_drewN | apply below_drew1 | refine below_set ?_ GE183.out | refine below_set ?_ GE184.out | refine below_set ?_ GE197.out | refine below_set ?_ GE220.out) | exact HB.out)⟩⟩
      rw [if_pos c88] at H
      have c88b0 : (t219 == 0) = true := beq_iff_eq.mpr c88
      have c88b1 : (t219 != 0) = false := bne_eq_false_iff_eq.mpr c88
      clear c88
      (first | rw [c88b0] | (simp only [i64_w, i32_w]; rw [c88b0]) | skip)
      have H' := Aside0.mk H
      clear H
      go_wp2
      go_meet
      case rel => exact ⟨_, (decide ((t189.length : Int) < 2)), (by first | rfl | (simp; done) | (simp [*]; done)), H', ⟨by have := HJ3.out; have := HJ20.out; have := HJ52.out; have := HJ54.out; first | omega | exact Nat.le_refl _⟩, ⟨by (with_reducible repeat (first | apply Kd.R_alloc | apply Kd.R_drewN | apply Kd.R_drew)); exact Kd.R_mono HO_198002.out (fun _ hk => hk.2)⟩, ⟨by (with_reducible repeat (first | apply Kd.R_alloc | apply Kd.R_drewN | apply Kd.R_drew)); exact HO_198004.out⟩, ⟨by (with_reducible repeat (first | apply Kd.R_alloc | apply Kd.R_drewN | apply Kd.R_drew)); exact Kd.R_mono HO213.out (fun _ hk => hk.2)⟩, ⟨by (with_reducible repeat (first | apply Kd.V_alloc | apply Kd.V_drewN | apply Kd.V_drew)); exact Kd.V_mono HO217.out (fun _ hk => ⟨hk.1.2.1, ⟨hk.1.2.2.1, ⟨hk.1.1, ⟨hk.1.2.2.2.1, ⟨hk.1.2.2.2.2.1, ⟨hk.1.2.2.2.2.2, hk.2⟩⟩⟩⟩⟩⟩)⟩, ⟨by (with_reducible repeat (first | refine blk_drewN ?_ _ | refine blk_drew ?_ | refine blk_alloc ?_ _)); exact BK183.out⟩, ⟨by (with_reducible repeat (first | refine blk_drewN ?_ _ | refine blk_drew ?_ | refine blk_alloc ?_ _)); exact BK184.out⟩, ⟨by (with_reducible repeat (first | refine blk_drewN ?_ _ | refine blk_drew ?_ | refine blk_alloc ?_ _)); exact BK197.out⟩, ⟨by (with_reducible repeat (first | refine blk_drewN ?_ _ | refine blk_drew ?_ | refine blk_alloc ?_ _)); exact BK220.out⟩, ⟨by repeat (first | (with_reducible first | exact HB.out | apply below_alloc | apply pw_below_drewN | apply below_drew1 | refine below_set ?_ GE183.out | refine below_set ?_ GE184.out | refine below_set ?_ GE197.out | refine below_set ?_ GE220.out) | exact HB.out)⟩⟩
     clear HC70
     try clear c1
     try clear p1
     try clear q1
     try clear hx1
     try clear c2
     try clear p2
     try clear q2
     try clear hx2
     try clear c3
     try clear c4
     try clear p4
     try clear q4
     try clear hx4
     try clear hf4
     try clear c5
     try clear c6
     try clear p6
     try clear c7
     try clear c8
     try clear c9
     try clear c12
     try clear c14
     try clear c15
     try clear c18
     try clear p19
     try clear q19
     try clear hx19
     try clear c20
     try clear p20
     try clear q20
     try clear hx20
     try clear c22
     try clear c23
     try clear c24
     try clear c26
     try clear c27
     try clear c34
     try clear c34b0
     try clear c35
     try clear c35b0
     try clear c35b1
     try clear c36
     try clear c36b0
     try clear c37
     try clear c37b0
     try clear c38
     try clear c38b0
     try clear c38b1
     try clear c38b2
     try clear c40
     try clear c40b0
     try clear c42
     try clear c42b0
     try clear c43
     try clear c43b0
     try clear c45
     try clear c45b0
     try clear c46
     try clear c46b0
     try clear c47
     try clear p47
     try clear q47
     try clear hx47
     try clear hf47
     try clear c48
     try clear p48
     try clear q48
     try clear hx48
     try clear hf48
     try clear c51
     try clear c52
     try clear c54
     try clear c54b0
     try clear c54b1
     try clear c56
     try clear c57
     try clear c57b0
     try clear c57b1
     try clear c57b2
     try clear c59
     try clear c59b0
     try clear c60
     try clear c60b0
     try clear c61
     try clear p64
     try clear c69
     try clear c69b0
     try clear c69b1
     try clear c69b2
     try clear c71
     try clear c72
     try clear c76
     try clear c77
     try clear c78
     try clear c83
     try clear c88
     try clear c88b0
     try clear c88b1
     try clear hcz10_0
     try clear hcz10_1
     try clear hcz10_2
     try clear hcz10_3
     try clear hcz10_4
     try clear hcz10_5
     try clear hcz13_0
     try clear hcz13_1
     try clear hcz13_2
     try clear hcz13_3
     try clear hcz13_4
     try clear hcz13_5
     try clear hcz23_0
     try clear hcz23_1
     try clear hcz23_2
     try clear hcz23_3
     try clear hcz23_4
     try clear hcz23_5
     try clear hcz28_0
     try clear hcz28_1
     try clear hcz28_2
     try clear hcz28_3
     try clear hcz28_4
     try clear hcz28_5
     try clear hcz31_0
     try clear hcz31_1
     try clear hcz31_2
     try clear hcz31_3
     try clear hcz31_4
     try clear hcz31_5
     try clear hcz33_0
     try clear hcz33_1
     try clear hcz33_2
     try clear hcz33_3
     try clear hcz33_4
     try clear hcz33_5
     try clear hcz73_0
     try clear hcz73_1
     try clear hcz73_2
     try clear hcz73_3
     try clear hcz73_4
     try clear hcz73_5
     try clear hcz79_0
     try clear hcz79_1
     try clear hcz79_2
     try clear hcz79_3
     try clear hcz79_4
     try clear hcz79_5
     try clear hcz82_0
     try clear hcz82_1
     try clear hcz82_2
     try clear hcz82_3
     try clear hcz82_4
     try clear hcz82_5
     try clear hcz84_0
     try clear hcz84_1
     try clear hcz84_2
     try clear hcz84_3
     try clear hcz84_4
     try clear hcz84_5
     try clear hcz87_0
     try clear hcz87_1
     try clear hcz87_2
     try clear hcz87_3
     try clear hcz87_4
     try clear hcz87_5
     try clear hfz10_0
     try clear hfz10_1
     try clear hfz10_2
     try clear hfz10_3
     try clear hfz10_4
     try clear hfz10_5
     try clear hfz13_0
     try clear hfz13_1
     try clear hfz13_2
     try clear hfz13_3
     try clear hfz13_4
     try clear hfz13_5
     try clear hfz23_0
     try clear hfz23_1
     try clear hfz23_2
     try clear hfz23_3
     try clear hfz23_4
     try clear hfz23_5
     try clear hfz28_0
     try clear hfz28_1
     try clear hfz28_2
     try clear hfz28_3
     try clear hfz28_4
     try clear hfz28_5
     try clear hfz31_0
     try clear hfz31_1
     try clear hfz31_2
     try clear hfz31_3
     try clear hfz31_4
     try clear hfz31_5
     try clear hfz33_0
     try clear hfz33_1
     try clear hfz33_2
     try clear hfz33_3
     try clear hfz33_4
     try clear hfz33_5
     try clear hfz73_0
     try clear hfz73_1
     try clear hfz73_2
     try clear hfz73_3
     try clear hfz73_4
     try clear hfz73_5
     try clear hfz79_0
     try clear hfz79_1
     try clear hfz79_2
     try clear hfz79_3
     try clear hfz79_4
     try clear hfz79_5
     try clear hfz82_0
     try clear hfz82_1
     try clear hfz82_2
     try clear hfz82_3
     try clear hfz82_4
     try clear hfz82_5
     try clear hfz84_0
     try clear hfz84_1
     try clear hfz84_2
     try clear hfz84_3
     try clear hfz84_4
     try clear hfz84_5
     try clear hfz87_0
     try clear hfz87_1
     try clear hfz87_2
     try clear hfz87_3
     try clear hfz87_4
     try clear hfz87_5
     try clear hx199_0
     try clear hx200_0
     try clear hx201_0
     try clear hx201_1
     try clear hx202_0
     try clear hx202_1
     try clear hx205_0
     try clear hx205_1
     try clear hx47_0
     try clear hx47_1
     try clear hx48_0
     try clear hx48_1
     try clear p1
     try clear p19
     try clear p199
     try clear p2
     try clear p20
     try clear p200
     try clear p201
     try clear p202
     try clear p205
     try clear p4
     try clear p47
     try clear p48
     try clear p6
     try clear p64
     try clear q1
     try clear q19
     try clear q199
     try clear q2
     try clear q20
     try clear q200
     try clear q201
     try clear q202
     try clear q205
     try clear q4
     try clear q47
     try clear q48
     obtain ⟨kq, x129_69, rfl, HA, HJ69, HO_198002, HO_198004, HO_221002, HO_221004, BK183, BK184, BK197, BK220, HB⟩ := hcut
     cases kq with
     | zero => exact absurd HA.out (by simp [forebaylaw07_MetricTags.j5])
     | succ kj69 =>
      have H := HA.out
      clear HA
      simp only [forebaylaw07_MetricTags.j5] at H
      by_cases c89 : x129_69 = true
      ·subst c89
       have H1 : ((forebaylaw07_awake.f kj69).bind fun t222 => (some t222)) = some r := by rw [if_pos rfl] at H; exact H
       clear H
       have H := H1
       clear H1
       replace H := Option.bind_eq_some_iff.mp H
       obtain ⟨t222, A900, H⟩ := H
       replace H : (some t222) = some r := H
       have A90 := Aside0.mk A900
       clear A900
       obtain rfl := Option.some.inj H
       go_wp2_with (first | ((with_reducible refine gate_callee (f := 15) rfl ?_); refine goesL_ (some 130) rfl rfl Try.func15 (by kernel_rfl) rfl #[] rfl (by (try simp only [List.map_toArray, List.map_cons, List.map_nil]); first | done | rfl | (simp only [List.length_drop, List.length_take]; rfl)) ?_; (with_reducible refine (forebaylaw07_awake.calls kj69  t222 _ A90.out).mono ?_); rintro e w91 ⟨rfl, hb⟩; refine ⟨_, rfl, ?_⟩; have n0_ := Aside0.mk (Kd.R_below (by (with_reducible repeat (first | apply Kd.R_alloc | apply Kd.R_drewN | apply Kd.R_drew)); exact HO_198002.out) hb); have n1_ := Aside0.mk (Kd.R_below (by (with_reducible repeat (first | apply Kd.R_alloc | apply Kd.R_drewN | apply Kd.R_drew)); exact HO_198004.out) hb); have n2_ := Aside0.mk (Kd.R_below (by (with_reducible repeat (first | apply Kd.R_alloc | apply Kd.R_drewN | apply Kd.R_drew)); exact HO_221002.out) hb); have n3_ := Aside0.mk (Kd.V_below (by (with_reducible repeat (first | apply Kd.V_alloc | apply Kd.V_drewN | apply Kd.V_drew)); exact HO_221004.out) hb); have n4_ := Aside0.mk (blk_below (g := gb183) (o := .cells #[.string a0_0, .int .i64 a0_1, .slice A0_2 l0_2.length c0_2, .int .i64 a0_3, .slice A0_4 l0_4.length c0_4, .int .i64 a0_5] 25 (0, 0)) (by (with_reducible repeat (first | refine blk_drewN ?_ _ | refine blk_drew ?_ | refine blk_alloc ?_ _)); exact BK183.out) hb); have n5_ := Aside0.mk (blk_below (g := gb184) (o := .cells #[.int .i64 a2_0, .int .i64 a2_1, .int .i64 a2_2] 34 (0, 0)) (by (with_reducible repeat (first | refine blk_drewN ?_ _ | refine blk_drew ?_ | refine blk_alloc ?_ _)); exact BK184.out) hb); have n6_ := Aside0.mk (blk_below (g := gb197) (o := .cells #[.string t187, .int .i64 t188, .slice Ao29 t189.length co29, .int .i64 t192, .slice Ao85 x198004_54.length co85, .int .i64 t196] 25 (0, 0)) (by (with_reducible repeat (first | refine blk_drewN ?_ _ | refine blk_drew ?_ | refine blk_alloc ?_ _)); exact BK197.out) hb); have n7_ := Aside0.mk (blk_below (g := gb220) (o := .cells #[.string t209, .int .i64 t210, .slice Ao80 t211.length co80, .int .i64 t214, .slice Ao81 t215.length co81, .int .i64 t218] 25 (0, 0)) (by (with_reducible repeat (first | refine blk_drewN ?_ _ | refine blk_drew ?_ | refine blk_alloc ?_ _)); exact BK220.out) hb); have n8_ := Aside0.mk (below_step (by repeat (first | (with_reducible first | exact HB.out | apply below_alloc | apply pw_below_drewN | apply below_drew1 | refine below_set ?_ GE183.out | refine below_set ?_ GE184.out | refine below_set ?_ GE197.out | refine below_set ?_ GE220.out) | exact HB.out)) hb); clear HO_198002; clear HO_198004; clear HO_221002; clear HO_221004; clear BK183; clear BK184; clear BK197; clear BK220; clear HB; have HO_198002 := n0_; have HO_198004 := n1_; have HO_221002 := n2_; have HO_221004 := n3_; have BK183 := n4_; have BK184 := n5_; have BK197 := n6_; have BK220 := n7_; have HB := n8_; clear n0_ n1_ n2_ n3_ n4_ n5_ n6_ n7_ n8_; (try clear hb); (try clear hb2); (try clear hk); (try clear hi)))
       go_ret
       exact ⟨by first | rfl | (simp [errW_none, errW_some] <;> rfl) | (simp [*, errW_none, errW_some] <;> rfl), by repeat (first | (with_reducible first | exact HB.out | apply below_alloc | apply pw_below_drewN | apply below_drew1 | refine below_set ?_ GE183.out | refine below_set ?_ GE184.out | refine below_set ?_ GE197.out | refine below_set ?_ GE220.out) | exact HB.out)⟩
      replace c89 := Bool.eq_false_iff.mpr c89
      subst c89
      have H1 : (if (t189.length : Int) = 0 then (none) else (if 0 ≤ (Int.tmod (wrap64 ((Int.tmod a2_2 (t189.length : Int)) + (t189.length : Int))) (t189.length : Int)) then (if (Int.tmod (wrap64 ((Int.tmod a2_2 (t189.length : Int)) + (t189.length : Int))) (t189.length : Int)) < (t189.length : Int) then (if 0 ≤ (Int.tmod (wrap64 ((Int.tmod a2_1 (t189.length : Int)) + (t189.length : Int))) (t189.length : Int)) then (if (Int.tmod (wrap64 ((Int.tmod a2_1 (t189.length : Int)) + (t189.length : Int))) (t189.length : Int)) < (t189.length : Int) then (if (Int.tmod (wrap64 ((Int.tmod a2_1 (t189.length : Int)) + (t189.length : Int))) (t189.length : Int)) < (l0_2.length : Int) then (if (Int.tmod (wrap64 ((Int.tmod a2_2 (t189.length : Int)) + (t189.length : Int))) (t189.length : Int)) < (l0_2.length : Int) then ((metric_Same.f kj69 a0_0 a0_1 l0_2 a0_3 l0_4 a0_5 t187 t188 ((t189.set ((Int.tmod (wrap64 ((Int.tmod a2_1 (t189.length : Int)) + (t189.length : Int))) (t189.length : Int)) : Int).toNat (⟨(rd_T40 t189 (Int.tmod (wrap64 ((Int.tmod a2_2 (t189.length : Int)) + (t189.length : Int))) (t189.length : Int))).f0, (rd_T40 t189 (Int.tmod (wrap64 ((Int.tmod a2_2 (t189.length : Int)) + (t189.length : Int))) (t189.length : Int))).f1, (rd_T40 t189 (Int.tmod (wrap64 ((Int.tmod a2_2 (t189.length : Int)) + (t189.length : Int))) (t189.length : Int))).f2⟩ : S40)).set ((Int.tmod (wrap64 ((Int.tmod a2_2 (t189.length : Int)) + (t189.length : Int))) (t189.length : Int)) : Int).toNat (⟨(rd_T40 t189 (Int.tmod (wrap64 ((Int.tmod a2_1 (t189.length : Int)) + (t189.length : Int))) (t189.length : Int))).f0, (rd_T40 t189 (Int.tmod (wrap64 ((Int.tmod a2_1 (t189.length : Int)) + (t189.length : Int))) (t189.length : Int))).f1, (rd_T40 t189 (Int.tmod (wrap64 ((Int.tmod a2_1 (t189.length : Int)) + (t189.length : Int))) (t189.length : Int))).f2⟩ : S40)) t192 x198004_54 t196).bind fun t237 => ((metric_Same.f kj69 a0_0 a0_1 (([(⟨(rd_T40 l0_2 (Int.tmod (wrap64 ((Int.tmod a2_1 (t189.length : Int)) + (t189.length : Int))) (t189.length : Int))).f0, (rd_T40 l0_2 (Int.tmod (wrap64 ((Int.tmod a2_1 (t189.length : Int)) + (t189.length : Int))) (t189.length : Int))).f1, (rd_T40 l0_2 (Int.tmod (wrap64 ((Int.tmod a2_1 (t189.length : Int)) + (t189.length : Int))) (t189.length : Int))).f2⟩ : S40)] : List (S40))) a0_3 l0_4 a0_5 a0_0 a0_1 (([(⟨(rd_T40 l0_2 (Int.tmod (wrap64 ((Int.tmod a2_2 (t189.length : Int)) + (t189.length : Int))) (t189.length : Int))).f0, (rd_T40 l0_2 (Int.tmod (wrap64 ((Int.tmod a2_2 (t189.length : Int)) + (t189.length : Int))) (t189.length : Int))).f1, (rd_T40 l0_2 (Int.tmod (wrap64 ((Int.tmod a2_2 (t189.length : Int)) + (t189.length : Int))) (t189.length : Int))).f2⟩ : S40)] : List (S40))) a0_3 l0_4 a0_5).bind fun t238 => (if (t237 == t238) = true then ((forebaylaw07_awake.f kj69).bind fun t239 => (some t239)) else (none)))) else (none)) else (none)) else (none)) else (none)) else (none)) else (none))) = some r := by rw [if_neg (show ¬ (false = true) by decide)] at H; exact H
      clear H
      have H := H1
      clear H1
      by_cases c92 : (t189.length : Int) = 0
      ·rw [if_pos c92] at H
       exact absurd H (by simp)
      rw [if_neg c92] at H
      have c92b0 : ((t189.length : Int) == 0) = false := beq_eq_false_iff_ne.mpr c92
      have c92b1 : ((t189.length : Int) != 0) = true := bne_iff_ne.mpr c92
      have c92b2 : ¬ (t189 = []) := fun h_ => c92 (by rw [h_]; rfl)
      obtain ⟨ji93, hji93⟩ : ∃ j_ : Int, (Int.tmod (wrap64 ((Int.tmod a2_2 (t189.length : Int)) + (t189.length : Int))) (t189.length : Int)) = j_ := ⟨_, rfl⟩
      replace H : (if 0 ≤ (ji93) then (if (ji93) < (t189.length : Int) then (if 0 ≤ (Int.tmod (wrap64 ((Int.tmod a2_1 (t189.length : Int)) + (t189.length : Int))) (t189.length : Int)) then (if (Int.tmod (wrap64 ((Int.tmod a2_1 (t189.length : Int)) + (t189.length : Int))) (t189.length : Int)) < (t189.length : Int) then (if (Int.tmod (wrap64 ((Int.tmod a2_1 (t189.length : Int)) + (t189.length : Int))) (t189.length : Int)) < (l0_2.length : Int) then (if (ji93) < (l0_2.length : Int) then ((metric_Same.f kj69 a0_0 a0_1 l0_2 a0_3 l0_4 a0_5 t187 t188 ((t189.set ((Int.tmod (wrap64 ((Int.tmod a2_1 (t189.length : Int)) + (t189.length : Int))) (t189.length : Int)) : Int).toNat (⟨(rd_T40 t189 (ji93)).f0, (rd_T40 t189 (ji93)).f1, (rd_T40 t189 (ji93)).f2⟩ : S40)).set ((ji93) : Int).toNat (⟨(rd_T40 t189 (Int.tmod (wrap64 ((Int.tmod a2_1 (t189.length : Int)) + (t189.length : Int))) (t189.length : Int))).f0, (rd_T40 t189 (Int.tmod (wrap64 ((Int.tmod a2_1 (t189.length : Int)) + (t189.length : Int))) (t189.length : Int))).f1, (rd_T40 t189 (Int.tmod (wrap64 ((Int.tmod a2_1 (t189.length : Int)) + (t189.length : Int))) (t189.length : Int))).f2⟩ : S40)) t192 x198004_54 t196).bind fun t237 => ((metric_Same.f kj69 a0_0 a0_1 (([(⟨(rd_T40 l0_2 (Int.tmod (wrap64 ((Int.tmod a2_1 (t189.length : Int)) + (t189.length : Int))) (t189.length : Int))).f0, (rd_T40 l0_2 (Int.tmod (wrap64 ((Int.tmod a2_1 (t189.length : Int)) + (t189.length : Int))) (t189.length : Int))).f1, (rd_T40 l0_2 (Int.tmod (wrap64 ((Int.tmod a2_1 (t189.length : Int)) + (t189.length : Int))) (t189.length : Int))).f2⟩ : S40)] : List (S40))) a0_3 l0_4 a0_5 a0_0 a0_1 (([(⟨(rd_T40 l0_2 (ji93)).f0, (rd_T40 l0_2 (ji93)).f1, (rd_T40 l0_2 (ji93)).f2⟩ : S40)] : List (S40))) a0_3 l0_4 a0_5).bind fun t238 => (if (t237 == t238) = true then ((forebaylaw07_awake.f kj69).bind fun t239 => (some t239)) else (none)))) else (none)) else (none)) else (none)) else (none)) else (none)) else (none)) = some r := by first | (rw [hji93] at H; exact H) | (simp only [hji93] at H ⊢; exact H)
      by_cases c94 : 0 ≤ (ji93)
      rotate_left
      ·rw [if_neg c94] at H
       exact absurd H (by simp)
      rw [if_pos c94] at H
      have c94b0 : decide (0 ≤ (ji93)) = true := decide_eq_true c94
      clear c94
      by_cases c95 : (ji93) < (t189.length : Int)
      rotate_left
      ·rw [if_neg c95] at H
       exact absurd H (by simp)
      rw [if_pos c95] at H
      have c95b0 : decide ((ji93) < (t189.length : Int)) = true := decide_eq_true c95
      clear c95
      obtain ⟨ji96, hji96⟩ : ∃ j_ : Int, (Int.tmod (wrap64 ((Int.tmod a2_1 (t189.length : Int)) + (t189.length : Int))) (t189.length : Int)) = j_ := ⟨_, rfl⟩
      replace H : (if 0 ≤ (ji96) then (if (ji96) < (t189.length : Int) then (if (ji96) < (l0_2.length : Int) then (if (ji93) < (l0_2.length : Int) then ((metric_Same.f kj69 a0_0 a0_1 l0_2 a0_3 l0_4 a0_5 t187 t188 ((t189.set ((ji96) : Int).toNat (⟨(rd_T40 t189 (ji93)).f0, (rd_T40 t189 (ji93)).f1, (rd_T40 t189 (ji93)).f2⟩ : S40)).set ((ji93) : Int).toNat (⟨(rd_T40 t189 (ji96)).f0, (rd_T40 t189 (ji96)).f1, (rd_T40 t189 (ji96)).f2⟩ : S40)) t192 x198004_54 t196).bind fun t237 => ((metric_Same.f kj69 a0_0 a0_1 (([(⟨(rd_T40 l0_2 (ji96)).f0, (rd_T40 l0_2 (ji96)).f1, (rd_T40 l0_2 (ji96)).f2⟩ : S40)] : List (S40))) a0_3 l0_4 a0_5 a0_0 a0_1 (([(⟨(rd_T40 l0_2 (ji93)).f0, (rd_T40 l0_2 (ji93)).f1, (rd_T40 l0_2 (ji93)).f2⟩ : S40)] : List (S40))) a0_3 l0_4 a0_5).bind fun t238 => (if (t237 == t238) = true then ((forebaylaw07_awake.f kj69).bind fun t239 => (some t239)) else (none)))) else (none)) else (none)) else (none)) else (none)) = some r := by first | (rw [hji96] at H; exact H) | (simp only [hji96] at H ⊢; exact H)
      by_cases c97 : 0 ≤ (ji96)
      rotate_left
      ·rw [if_neg c97] at H
       exact absurd H (by simp)
      rw [if_pos c97] at H
      have c97b0 : decide (0 ≤ (ji96)) = true := decide_eq_true c97
      clear c97
      by_cases c98 : (ji96) < (t189.length : Int)
      rotate_left
      ·rw [if_neg c98] at H
       exact absurd H (by simp)
      rw [if_pos c98] at H
      have c98b0 : decide ((ji96) < (t189.length : Int)) = true := decide_eq_true c98
      clear c98
      obtain ⟨y225, hy225⟩ : ∃ y_ : List (S40), y_ = (t189.set ((ji96) : Int).toNat (⟨(rd_T40 t189 (ji93)).f0, (rd_T40 t189 (ji93)).f1, (rd_T40 t189 (ji93)).f2⟩ : S40)) := ⟨_, rfl⟩
      replace H : (if (ji96) < (l0_2.length : Int) then (if (ji93) < (l0_2.length : Int) then ((metric_Same.f kj69 a0_0 a0_1 l0_2 a0_3 l0_4 a0_5 t187 t188 (y225.set ((ji93) : Int).toNat (⟨(rd_T40 t189 (ji96)).f0, (rd_T40 t189 (ji96)).f1, (rd_T40 t189 (ji96)).f2⟩ : S40)) t192 x198004_54 t196).bind fun t237 => ((metric_Same.f kj69 a0_0 a0_1 (([(⟨(rd_T40 l0_2 (ji96)).f0, (rd_T40 l0_2 (ji96)).f1, (rd_T40 l0_2 (ji96)).f2⟩ : S40)] : List (S40))) a0_3 l0_4 a0_5 a0_0 a0_1 (([(⟨(rd_T40 l0_2 (ji93)).f0, (rd_T40 l0_2 (ji93)).f1, (rd_T40 l0_2 (ji93)).f2⟩ : S40)] : List (S40))) a0_3 l0_4 a0_5).bind fun t238 => (if (t237 == t238) = true then ((forebaylaw07_awake.f kj69).bind fun t239 => (some t239)) else (none)))) else (none)) else (none)) = some r := by first | (rw [hy225]; with_reducible exact H) | (have H2_ := (Option.bind_some _ _).symm.trans H; rw [hy225]; with_reducible exact H2_) | (have H2_ := (Option.bind_some _ _).symm.trans H; with_reducible exact H2_) | with_reducible exact H | (rw [hy225]; exact H) | exact H
      have Ny225 := Aside0.mk hy225
      clear hy225
      obtain ⟨y226, hy226⟩ : ∃ y_ : List (S40), y_ = (y225.set ((ji93) : Int).toNat (⟨(rd_T40 t189 (ji96)).f0, (rd_T40 t189 (ji96)).f1, (rd_T40 t189 (ji96)).f2⟩ : S40)) := ⟨_, rfl⟩
      replace H : (if (ji96) < (l0_2.length : Int) then (if (ji93) < (l0_2.length : Int) then ((metric_Same.f kj69 a0_0 a0_1 l0_2 a0_3 l0_4 a0_5 t187 t188 y226 t192 x198004_54 t196).bind fun t237 => ((metric_Same.f kj69 a0_0 a0_1 (([(⟨(rd_T40 l0_2 (ji96)).f0, (rd_T40 l0_2 (ji96)).f1, (rd_T40 l0_2 (ji96)).f2⟩ : S40)] : List (S40))) a0_3 l0_4 a0_5 a0_0 a0_1 (([(⟨(rd_T40 l0_2 (ji93)).f0, (rd_T40 l0_2 (ji93)).f1, (rd_T40 l0_2 (ji93)).f2⟩ : S40)] : List (S40))) a0_3 l0_4 a0_5).bind fun t238 => (if (t237 == t238) = true then ((forebaylaw07_awake.f kj69).bind fun t239 => (some t239)) else (none)))) else (none)) else (none)) = some r := by first | (rw [hy226]; with_reducible exact H) | (have H2_ := (Option.bind_some _ _).symm.trans H; rw [hy226]; with_reducible exact H2_) | (have H2_ := (Option.bind_some _ _).symm.trans H; with_reducible exact H2_) | with_reducible exact H | (rw [hy226]; exact H) | exact H
      have Ny226 := Aside0.mk hy226
      clear hy226
      by_cases c101 : (ji96) < (l0_2.length : Int)
      rotate_left
      ·rw [if_neg c101] at H
       exact absurd H (by simp)
      rw [if_pos c101] at H
      have c101b0 : decide ((ji96) < (l0_2.length : Int)) = true := decide_eq_true c101
      clear c101
      obtain ⟨y230, hy230⟩ : ∃ y_ : List (S40), y_ = (([(⟨(rd_T40 l0_2 (ji96)).f0, (rd_T40 l0_2 (ji96)).f1, (rd_T40 l0_2 (ji96)).f2⟩ : S40)] : List (S40))) := ⟨_, rfl⟩
      replace H : (if (ji93) < (l0_2.length : Int) then ((metric_Same.f kj69 a0_0 a0_1 l0_2 a0_3 l0_4 a0_5 t187 t188 y226 t192 x198004_54 t196).bind fun t237 => ((metric_Same.f kj69 a0_0 a0_1 y230 a0_3 l0_4 a0_5 a0_0 a0_1 (([(⟨(rd_T40 l0_2 (ji93)).f0, (rd_T40 l0_2 (ji93)).f1, (rd_T40 l0_2 (ji93)).f2⟩ : S40)] : List (S40))) a0_3 l0_4 a0_5).bind fun t238 => (if (t237 == t238) = true then ((forebaylaw07_awake.f kj69).bind fun t239 => (some t239)) else (none)))) else (none)) = some r := by first | (rw [hy230]; with_reducible exact H) | (have H2_ := (Option.bind_some _ _).symm.trans H; rw [hy230]; with_reducible exact H2_) | (have H2_ := (Option.bind_some _ _).symm.trans H; with_reducible exact H2_) | with_reducible exact H | (rw [hy230]; exact H) | exact H
      have Ny230 := Aside0.mk hy230
      clear hy230
      by_cases c102 : (ji93) < (l0_2.length : Int)
      rotate_left
      ·rw [if_neg c102] at H
       exact absurd H (by simp)
      rw [if_pos c102] at H
      have c102b0 : decide ((ji93) < (l0_2.length : Int)) = true := decide_eq_true c102
      clear c102
      obtain ⟨y234, hy234⟩ : ∃ y_ : List (S40), y_ = (([(⟨(rd_T40 l0_2 (ji93)).f0, (rd_T40 l0_2 (ji93)).f1, (rd_T40 l0_2 (ji93)).f2⟩ : S40)] : List (S40))) := ⟨_, rfl⟩
      replace H : ((metric_Same.f kj69 a0_0 a0_1 l0_2 a0_3 l0_4 a0_5 t187 t188 y226 t192 x198004_54 t196).bind fun t237 => ((metric_Same.f kj69 a0_0 a0_1 y230 a0_3 l0_4 a0_5 a0_0 a0_1 y234 a0_3 l0_4 a0_5).bind fun t238 => (if (t237 == t238) = true then ((forebaylaw07_awake.f kj69).bind fun t239 => (some t239)) else (none)))) = some r := by first | (rw [hy234]; with_reducible exact H) | (have H2_ := (Option.bind_some _ _).symm.trans H; rw [hy234]; with_reducible exact H2_) | (have H2_ := (Option.bind_some _ _).symm.trans H; with_reducible exact H2_) | with_reducible exact H | (rw [hy234]; exact H) | exact H
      have Ny234 := Aside0.mk hy234
      clear hy234
      replace H := Option.bind_eq_some_iff.mp H
      obtain ⟨t237, A1030, H⟩ := H
      replace H : ((metric_Same.f kj69 a0_0 a0_1 y230 a0_3 l0_4 a0_5 a0_0 a0_1 y234 a0_3 l0_4 a0_5).bind fun t238 => (if (t237 == t238) = true then ((forebaylaw07_awake.f kj69).bind fun t239 => (some t239)) else (none))) = some r := H
      have A103 := Aside0.mk A1030
      clear A1030
      replace H := Option.bind_eq_some_iff.mp H
      obtain ⟨t238, A1040, H⟩ := H
      replace H : (if (t237 == t238) = true then ((forebaylaw07_awake.f kj69).bind fun t239 => (some t239)) else (none)) = some r := H
      have A104 := Aside0.mk A1040
      clear A1040
      by_cases c105 : (t237 == t238) = true
      rotate_left
      ·rw [if_neg c105] at H
       have c105b0 : (t237 == t238) = false := by simpa using c105
       (try (have c105b1 : decide (t237 = t238) = false := by simpa using c105))
       (try (have c105b2 : (t237 == t238) = false := by simpa using c105))
       (try (have c105b3 : ¬ (t237 = t238) := by simpa using c105))
       clear c105
       exact absurd H (by simp)
      rw [if_pos c105] at H
      have c105b0 : (t237 == t238) = true := c105
      (try (have c105b1 : decide (t237 = t238) = true := by simpa using c105))
      (try (have c105b2 : (t237 == t238) = true := by simpa using c105))
      clear c105
      replace H := Option.bind_eq_some_iff.mp H
      obtain ⟨t239, A1060, H⟩ := H
      replace H : (some t239) = some r := H
      have A106 := Aside0.mk A1060
      clear A1060
      obtain rfl := Option.some.inj H
      have hnb107 := NB184_183.out
      have hnc107 := NB183_184.out
      have hnb108 := NB184_197.out
      have hnc108 := NB197_184.out
      have hnb109 := NB184_220.out
      have hnc109 := NB220_184.out
      have hcz110_0 : wc.cell? ⟨gb184, 0, none⟩ = some (.int .i64 a2_0) := (blk_cell BK184.out 0).trans rfl
      have hcz110_1 : wc.cell? ⟨gb184, 1, none⟩ = some (.int .i64 a2_1) := (blk_cell BK184.out 1).trans rfl
      have hcz110_2 : wc.cell? ⟨gb184, 2, none⟩ = some (.int .i64 a2_2) := (blk_cell BK184.out 2).trans rfl
      have hfz110_0 := blk_frozen BK184.out 0
      have hfz110_1 := blk_frozen BK184.out 1
      have hfz110_2 := blk_frozen BK184.out 2
      try go_wp2
      have n0_ := Aside0.mk (Kd.R_drew HO_198002.out)
      have n1_ := Aside0.mk (Kd.R_drew HO_198004.out)
      have n2_ := Aside0.mk (Kd.R_drew HO_221002.out)
      have n3_ := Aside0.mk (Kd.V_drew HO_221004.out)
      have n4_ := Aside0.mk (blk_drew BK183.out)
      have n5_ := Aside0.mk (blk_drew BK184.out)
      have n6_ := Aside0.mk (blk_drew BK197.out)
      have n7_ := Aside0.mk (blk_drew BK220.out)
      have n8_ := Aside0.mk (below_drew1 HB.out)
      clear HO_198002
      clear HO_198004
      clear HO_221002
      clear HO_221004
      clear BK183
      clear BK184
      clear BK197
      clear BK220
      clear HB
      have HO_198002 := n0_
      have HO_198004 := n1_
      have HO_221002 := n2_
      have HO_221004 := n3_
      have BK183 := n4_
      have BK184 := n5_
      have BK197 := n6_
      have BK220 := n7_
      have HB := n8_
      clear n0_ n1_ n2_ n3_ n4_ n5_ n6_ n7_ n8_
      have p223 : 0 ≤ ((ji93) : Int) := of_decide_eq_true (by first | (with_reducible assumption) | assumption)
      have q223 : (ji93) < (t189.length : Int) := of_decide_eq_true (by first | (with_reducible assumption) | assumption)
      obtain ⟨ad223, e223, hx223_0, hx223_1, hx223_2⟩ := at_T40 (Kd.R_reads' HO_198002.out).2.2 (ji93) p223 q223
      cases e223
      replace p223 := eq_true p223
      replace q223 := eq_true q223
      have p224 : 0 ≤ ((ji96) : Int) := of_decide_eq_true (by first | (with_reducible assumption) | assumption)
      have q224 : (ji96) < (t189.length : Int) := of_decide_eq_true (by first | (with_reducible assumption) | assumption)
      obtain ⟨ad224, e224, hx224_0, hx224_1, hx224_2⟩ := at_T40 (Kd.R_reads' HO_198002.out).2.2 (ji96) p224 q224
      obtain rfl : ad223 = ad224 := (by injection e224)
      replace p224 := eq_true p224
      replace q224 := eq_true q224
      have p99 : 0 ≤ ((ji96) : Int) := of_decide_eq_true (by first | (with_reducible assumption) | assumption)
      have q99 : ((ji96) : Int) < ((t189.length : Int) : Int) := of_decide_eq_true (by first | (with_reducible assumption) | assumption)
      obtain ⟨go99, co99, eo99, gb99, gl99, cl99, HG99⟩ := Kd.R_form HO_198002.out (by omega)
      (first | cases eo99 | (injection eo99 with ea_ en_ ec_; (first | subst ea_ | (injection ea_ with ea_; subst ea_)); subst ec_; clear en_))
      have GB99 := Aside0.mk gb99
      have GG99 := Aside0.mk HG99
      clear gb99 gl99 HG99
      (first | simp only [add_plain] at hx223_0 | skip)
      (first | simp only [add_plain] at hx223_1 | skip)
      (first | simp only [add_plain] at hx223_2 | skip)
      (first | simp only [add_plain] at hx224_0 | skip)
      (first | simp only [add_plain] at hx224_1 | skip)
      (first | simp only [add_plain] at hx224_2 | skip)
      obtain ⟨ce99, hcl99, hM99, hcc99, hfr99⟩ := Kd.R_elem HO_198002.out z40 ((ji96) : Int) p99 q99
      obtain rfl := k40_openM hM99
      have hx99_0 : World.cell? _ ⟨go99, ((ji96) : Int).toNat * 3, none⟩ = some (.bool ((rd_T40 t189 (ji96)).f0)) := hcc99 0 _ rfl
      have hx99_1 : World.cell? _ ⟨go99, ((ji96) : Int).toNat * 3 + 1, none⟩ = some (.int .u64 ((rd_T40 t189 (ji96)).f1)) := hcc99 1 _ rfl
      have hx99_2 : World.cell? _ ⟨go99, ((ji96) : Int).toNat * 3 + 2, none⟩ = some (.int .i64 ((rd_T40 t189 (ji96)).f2)) := hcc99 2 _ rfl
      have hf99_0 : World.frozen? _ ⟨go99, ((ji96) : Int).toNat * 3, none⟩ = false := hfr99 0
      have hf99_1 : World.frozen? _ ⟨go99, ((ji96) : Int).toNat * 3 + 1, none⟩ = false := hfr99 1
      have hf99_2 : World.frozen? _ ⟨go99, ((ji96) : Int).toNat * 3 + 2, none⟩ = false := hfr99 2
      clear hcl99 hcc99 hfr99 hM99
      replace p99 := eq_true p99
      replace q99 := eq_true q99
      obtain ⟨ce112, hcl112, hM112, hcc112, hfr112⟩ := Kd.R_elem HO_198002.out z40 ((ji96) : Int) (of_decide_eq_true (by first | (with_reducible assumption) | assumption)) (by have h_ : ((ji96) : Int) < ((t189.length : Int) : Int) := of_decide_eq_true (by first | (with_reducible assumption) | assumption); first | exact h_ | (have e_ := (Kd.R_reads' HO_198002.out).1; omega) | simpa using h_)
      obtain rfl := k40_openM hM112
      have HP112 := (Kd.R_seg HO_198002.out ((ji96) : Int) (of_decide_eq_true (by first | (with_reducible assumption) | assumption)) (by have h_ : ((ji96) : Int) < ((t189.length : Int) : Int) := of_decide_eq_true (by first | (with_reducible assumption) | assumption); first | exact h_ | (have e_ := (Kd.R_reads' HO_198002.out).1; omega) | simpa using h_) (seg := [.bool ((rd_T40 t189 (ji93)).f0), .int .u64 ((rd_T40 t189 (ji93)).f1), .int .i64 ((rd_T40 t189 (ji93)).f2)]) (j := 0) hcl112 hcc112 (show 3 ≤ 3 from by decide) (x' := (⟨(rd_T40 t189 (ji93)).f0, (rd_T40 t189 (ji93)).f1, (rd_T40 t189 (ji93)).f2⟩ : S40)) (k40_mkM _ _ _ (⟨(rd_T40 t189 (ji93)).f0, (rd_T40 t189 (ji93)).f1, (rd_T40 t189 (ji93)).f2⟩ : S40) ) (fun _ hk => hk)).1
      rw [← Ny225.out] at HP112
      have HQ112 := Aside0.mk HP112
      clear hcl112 hcc112 hfr112 hM112 HP112
      have p100 : 0 ≤ ((ji93) : Int) := of_decide_eq_true (by first | (with_reducible assumption) | assumption)
      have q100 : ((ji93) : Int) < ((t189.length : Int) : Int) := of_decide_eq_true (by first | (with_reducible assumption) | assumption)
      obtain ⟨ce100, hcl100, hM100, hcc100, hfr100⟩ := Kd.R_elem HQ112.out z40 ((ji93) : Int) p100 q100
      obtain rfl := k40_openM hM100
      have hx100_0 : World.cell? _ ⟨go99, ((ji93) : Int).toNat * 3, none⟩ = some (.bool ((rd_T40 y225 (ji93)).f0)) := hcc100 0 _ rfl
      have hx100_1 : World.cell? _ ⟨go99, ((ji93) : Int).toNat * 3 + 1, none⟩ = some (.int .u64 ((rd_T40 y225 (ji93)).f1)) := hcc100 1 _ rfl
      have hx100_2 : World.cell? _ ⟨go99, ((ji93) : Int).toNat * 3 + 2, none⟩ = some (.int .i64 ((rd_T40 y225 (ji93)).f2)) := hcc100 2 _ rfl
      have hf100_0 : World.frozen? _ ⟨go99, ((ji93) : Int).toNat * 3, none⟩ = false := hfr100 0
      have hf100_1 : World.frozen? _ ⟨go99, ((ji93) : Int).toNat * 3 + 1, none⟩ = false := hfr100 1
      have hf100_2 : World.frozen? _ ⟨go99, ((ji93) : Int).toNat * 3 + 2, none⟩ = false := hfr100 2
      clear hcl100 hcc100 hfr100 hM100
      replace p100 := eq_true p100
      replace q100 := eq_true q100
      obtain ⟨ce113, hcl113, hM113, hcc113, hfr113⟩ := Kd.R_elem HQ112.out z40 ((ji93) : Int) (of_decide_eq_true (by first | (with_reducible assumption) | assumption)) (by have h_ : ((ji93) : Int) < ((t189.length : Int) : Int) := of_decide_eq_true (by first | (with_reducible assumption) | assumption); first | exact h_ | (have e_ := (Kd.R_reads' HO_198002.out).1; omega) | simpa using h_)
      obtain rfl := k40_openM hM113
      have HP113 := (Kd.R_seg HQ112.out ((ji93) : Int) (of_decide_eq_true (by first | (with_reducible assumption) | assumption)) (by have h_ : ((ji93) : Int) < ((t189.length : Int) : Int) := of_decide_eq_true (by first | (with_reducible assumption) | assumption); first | exact h_ | (have e_ := (Kd.R_reads' HO_198002.out).1; omega) | simpa using h_) (seg := [.bool ((rd_T40 t189 (ji96)).f0), .int .u64 ((rd_T40 t189 (ji96)).f1), .int .i64 ((rd_T40 t189 (ji96)).f2)]) (j := 0) hcl113 hcc113 (show 3 ≤ 3 from by decide) (x' := (⟨(rd_T40 t189 (ji96)).f0, (rd_T40 t189 (ji96)).f1, (rd_T40 t189 (ji96)).f2⟩ : S40)) (k40_mkM _ _ _ (⟨(rd_T40 t189 (ji96)).f0, (rd_T40 t189 (ji96)).f1, (rd_T40 t189 (ji96)).f2⟩ : S40) ) (fun _ hk => hk)).1
      rw [← Ny226.out] at HP113
      have HQ113 := Aside0.mk HP113
      clear hcl113 hcc113 hfr113 hM113 HP113
      refine start_ (n := 20) (S := fun w' => w'.cell? ⟨gb197, 0, none⟩ = some (.string t187) ∧ w'.cell? ⟨gb197, 1, none⟩ = some (.int .i64 t188) ∧ w'.cell? ⟨gb197, 2, none⟩ = some (.slice (some ⟨go99, 0, none⟩) t189.length co29) ∧ w'.cell? ⟨gb197, 3, none⟩ = some (.int .i64 t192) ∧ w'.cell? ⟨gb197, 4, none⟩ = some (.slice Ao85 x198004_54.length co85) ∧ w'.cell? ⟨gb197, 5, none⟩ = some (.int .i64 t196) ∧ w'.cell? ⟨go99, ((ji93)).toNat * 3, none⟩ = some (.bool ((rd_T40 t189 (ji93)).f0)) ∧ w'.cell? ⟨go99, ((ji93)).toNat * 3 + 1, none⟩ = some (.int .u64 ((rd_T40 t189 (ji93)).f1)) ∧ w'.cell? ⟨go99, ((ji93)).toNat * 3 + 2, none⟩ = some (.int .i64 ((rd_T40 t189 (ji93)).f2)) ∧ w'.cell? ⟨go99, ((ji96)).toNat * 3, none⟩ = some (.bool ((rd_T40 t189 (ji96)).f0)) ∧ w'.cell? ⟨go99, ((ji96)).toNat * 3 + 1, none⟩ = some (.int .u64 ((rd_T40 t189 (ji96)).f1)) ∧ w'.cell? ⟨go99, ((ji96)).toNat * 3 + 2, none⟩ = some (.int .i64 ((rd_T40 t189 (ji96)).f2))) (ds := [17, 19]) #[false,false,false,false,false,false,false,false,false,false,false,false,false,false,false,false,false,false,false,false] (by kernel_rfl) rfl rfl ⟨(blk_cell BK197.out 0).trans rfl, (blk_cell BK197.out 1).trans rfl, (blk_cell BK197.out 2).trans rfl, (blk_cell BK197.out 3).trans rfl, (blk_cell BK197.out 4).trans rfl, (blk_cell BK197.out 5).trans rfl, hx223_0, hx223_1, hx223_2, hx224_0, hx224_1, hx224_2⟩ (fun hHeld => ?_); refine with_tabW forebaylaw07_MetricTags.tab23 forebaylaw07_MetricTags.bits23 (fun HT_ HW_ => ?_)
      generalize wc.drew = w111 at HO_198002 HO_198004 HO_221002 HO_221004 BK183 BK184 BK197 BK220 HB GG99 HQ112 HQ113 hf100_0 hf100_1 hf100_2 hf99_0 hf99_1 hf99_2 hx100_0 hx100_1 hx100_2 hx223_0 hx223_1 hx223_2 hx224_0 hx224_1 hx224_2 hx99_0 hx99_1 hx99_2 hHeld ⊢
      have hne_ : go99 ≠ gb197 := ((Kd.R_types HO_198002.out BK197.out (by decide)).1 _ rfl).2
      have hz5_ : (((w111.setCell ⟨go99, ((ji96)).toNat * 3, none⟩ (.bool (rd_T40 t189 (ji93)).f0)).setCell ⟨go99, ((ji96)).toNat * 3 + 1, none⟩ (.int .u64 (rd_T40 t189 (ji93)).f1)).setCell ⟨go99, ((ji96)).toNat * 3 + 2, none⟩ (.int .i64 (rd_T40 t189 (ji93)).f2)).cell? ⟨gb197, 2, none⟩ = some (.slice (some ⟨go99, 0, none⟩) t189.length co29) := (cell_oth (fun e => hne_ (congrArg Addr.block e))).trans ((cell_oth (fun e => hne_ (congrArg Addr.block e))).trans ((cell_oth (fun e => hne_ (congrArg Addr.block e))).trans ((blk_cell BK197.out 2).trans rfl)))
      have hz0_ : (((w111.setCell ⟨go99, ((ji96)).toNat * 3, none⟩ (.bool (rd_T40 t189 (ji93)).f0)).setCell ⟨go99, ((ji96)).toNat * 3 + 1, none⟩ (.int .u64 (rd_T40 t189 (ji93)).f1)).setCell ⟨go99, ((ji96)).toNat * 3 + 2, none⟩ (.int .i64 (rd_T40 t189 (ji93)).f2)).cell? ⟨go99, ((ji93)).toNat * 3, none⟩ = some (.bool (rd_T40 y225 (ji93)).f0) := hx100_0
      have hy0_ : w111.frozen? ⟨go99, ((ji93)).toNat * 3, none⟩ = false := by have h_ := hf100_0; simpa [World.frozen?_setCells] using h_
      have hz1_ : (((w111.setCell ⟨go99, ((ji96)).toNat * 3, none⟩ (.bool (rd_T40 t189 (ji93)).f0)).setCell ⟨go99, ((ji96)).toNat * 3 + 1, none⟩ (.int .u64 (rd_T40 t189 (ji93)).f1)).setCell ⟨go99, ((ji96)).toNat * 3 + 2, none⟩ (.int .i64 (rd_T40 t189 (ji93)).f2)).cell? ⟨go99, ((ji93)).toNat * 3 + 1, none⟩ = some (.int .u64 (rd_T40 y225 (ji93)).f1) := hx100_1
      have hy1_ : w111.frozen? ⟨go99, ((ji93)).toNat * 3 + 1, none⟩ = false := by have h_ := hf100_1; simpa [World.frozen?_setCells] using h_
      have hz2_ : (((w111.setCell ⟨go99, ((ji96)).toNat * 3, none⟩ (.bool (rd_T40 t189 (ji93)).f0)).setCell ⟨go99, ((ji96)).toNat * 3 + 1, none⟩ (.int .u64 (rd_T40 t189 (ji93)).f1)).setCell ⟨go99, ((ji96)).toNat * 3 + 2, none⟩ (.int .i64 (rd_T40 t189 (ji93)).f2)).cell? ⟨go99, ((ji93)).toNat * 3 + 2, none⟩ = some (.int .i64 (rd_T40 y225 (ji93)).f2) := hx100_2
      have hy2_ : w111.frozen? ⟨go99, ((ji93)).toNat * 3 + 2, none⟩ = false := by have h_ := hf100_2; simpa [World.frozen?_setCells] using h_
      refine pure_ (i := 0) (N := some 147) (v := ?_) (a' := ?_) #[true,false,false,false,false,false,false,false,false,false,false,false,false,false,false,false,false,false,false,false] rfl rfl (any_of HT_.out (by kernel_rfl)) (fun _ _ _ h => h) (Or.inl ⟨by rfl, ?_⟩) ?_ ?_
      rotate_left
      ·intro w'
       go_simp
       with_reducible rfl
      rotate_left
      ·simp only [Act.put, List.setIfInBounds_toArray, List.set_cons_zero, List.set_cons_succ, i64_w, i32_w]
       rfl
      refine pure_ (i := 2) (N := some 149) (v := ?_) (a' := ?_) #[true,false,true,false,false,false,false,false,false,false,false,false,false,false,false,false,false,false,false,false] rfl rfl (any_of HT_.out (by kernel_rfl)) (fun _ _ _ h => h) (Or.inl ⟨by rfl, ?_⟩) ?_ ?_
      rotate_left
      ·intro w'
       go_simp
       with_reducible rfl
      rotate_left
      ·simp only [Act.put, List.setIfInBounds_toArray, List.set_cons_zero, List.set_cons_succ, i64_w, i32_w]
       rfl
      refine pure_ (i := 3) (N := some 150) (v := ?_) (a' := ?_) #[true,false,true,true,false,false,false,false,false,false,false,false,false,false,false,false,false,false,false,false] rfl rfl (any_of HT_.out (by kernel_rfl)) (fun _ _ _ h => h) (Or.inl ⟨by rfl, ?_⟩) ?_ ?_
      rotate_left
      ·intro w'
       go_simp
       with_reducible rfl
      rotate_left
      ·simp only [Act.put, List.setIfInBounds_toArray, List.set_cons_zero, List.set_cons_succ, i64_w, i32_w]
       rfl
      refine pure_ (i := 5) (N := some 152) (v := ?_) (a' := ?_) #[true,false,true,true,false,true,false,false,false,false,false,false,false,false,false,false,false,false,false,false] rfl rfl (any_of HT_.out (by kernel_rfl)) (fun _ _ _ h => h) (Or.inl ⟨by rfl, ?_⟩) ?_ ?_
      rotate_left
      ·intro w'
       go_simp
       with_reducible rfl
      rotate_left
      ·simp only [Act.put, List.setIfInBounds_toArray, List.set_cons_zero, List.set_cons_succ, i64_w, i32_w]
       rfl
      refine pure_ (i := 6) (N := some 153) (v := ?_) (a' := ?_) #[true,false,true,true,false,true,true,false,false,false,false,false,false,false,false,false,false,false,false,false] rfl rfl (any_of HT_.out (by kernel_rfl)) (fun _ _ _ h => h) (Or.inl ⟨by rfl, ?_⟩) ?_ ?_
      rotate_left
      ·intro w'
       go_simp
       with_reducible rfl
      rotate_left
      ·simp only [Act.put, List.setIfInBounds_toArray, List.set_cons_zero, List.set_cons_succ, i64_w, i32_w]
       rfl
      refine pure_ (i := 8) (N := some 155) (v := ?_) (a' := ?_) #[true,false,true,true,false,true,true,false,true,false,false,false,false,false,false,false,false,false,false,false] rfl rfl (any_of HT_.out (by kernel_rfl)) (fun _ _ _ h => h) (Or.inl ⟨by rfl, ?_⟩) ?_ ?_
      rotate_left
      ·intro w'
       go_simp
       with_reducible rfl
      rotate_left
      ·simp only [Act.put, List.setIfInBounds_toArray, List.set_cons_zero, List.set_cons_succ, i64_w, i32_w]
       rfl
      refine pure_ (i := 11) (N := some 158) (v := ?_) (a' := ?_) #[true,false,true,true,false,true,true,false,true,false,false,true,false,false,false,false,false,false,false,false] rfl rfl (any_of HT_.out (by kernel_rfl)) (fun _ _ _ h => h) (Or.inl ⟨by rfl, ?_⟩) ?_ ?_
      rotate_left
      ·intro w'
       go_simp
       with_reducible rfl
      rotate_left
      ·simp only [Act.put, List.setIfInBounds_toArray, List.set_cons_zero, List.set_cons_succ, i64_w, i32_w]
       rfl
      refine pure_ (i := 13) (N := some 160) (v := ?_) (a' := ?_) #[true,false,true,true,false,true,true,false,true,false,false,true,false,true,false,false,false,false,false,false] rfl rfl (any_of HT_.out (by kernel_rfl)) (fun _ _ _ h => h) (Or.inl ⟨by rfl, ?_⟩) ?_ ?_
      rotate_left
      ·intro w'
       go_simp
       with_reducible rfl
      rotate_left
      ·simp only [Act.put, List.setIfInBounds_toArray, List.set_cons_zero, List.set_cons_succ, i64_w, i32_w]
       rfl
      refine take_ (i := 1) (N := some 148) (v := ?_) (a' := ?_) #[true,true,true,true,false,true,true,false,true,false,false,true,false,true,false,false,false,false,false,false] rfl rfl (take_ofW HT_.out HW_.out (by kernel_rfl)) (fun _ _ _ h => h) (Or.inl ⟨by rfl, ?_⟩) hHeld ?_ ?_
      rotate_left
      ·rintro w' ⟨s0, s1, s2, s3, s4, s5, s6, s7, s8, s9, s10, s11⟩
       go_simp
       with_reducible rfl
      rotate_left
      ·simp only [Act.put, List.setIfInBounds_toArray, List.set_cons_zero, List.set_cons_succ, i64_w, i32_w]
       rfl
      refine take_ (i := 7) (N := some 154) (v := ?_) (a' := ?_) #[true,true,true,true,false,true,true,true,true,false,false,true,false,true,false,false,false,false,false,false] rfl rfl (take_ofW HT_.out HW_.out (by kernel_rfl)) (fun _ _ _ h => h) (Or.inl ⟨by rfl, ?_⟩) hHeld ?_ ?_
      rotate_left
      ·rintro w' ⟨s0, s1, s2, s3, s4, s5, s6, s7, s8, s9, s10, s11⟩
       go_simp
       with_reducible rfl
      rotate_left
      ·simp only [Act.put, List.setIfInBounds_toArray, List.set_cons_zero, List.set_cons_succ, i64_w, i32_w]
       rfl
      refine pure_ (i := 9) (N := some 156) (v := ?_) (a' := ?_) #[true,true,true,true,false,true,true,true,true,true,false,true,false,true,false,false,false,false,false,false] rfl rfl (any_of HT_.out (by kernel_rfl)) (fun _ _ _ h => h) (Or.inl ⟨by rfl, ?_⟩) ?_ ?_
      rotate_left
      ·intro w'
       go_simp
       with_reducible rfl
      rotate_left
      ·simp only [Act.put, List.setIfInBounds_toArray, List.set_cons_zero, List.set_cons_succ, i64_w, i32_w]
       rfl
      refine take_ (i := 10) (N := some 157) (v := ?_) (a' := ?_) #[true,true,true,true,false,true,true,true,true,true,true,true,false,true,false,false,false,false,false,false] rfl rfl (take_ofW HT_.out HW_.out (by kernel_rfl)) (fun _ _ _ h => h) (Or.inl ⟨by rfl, ?_⟩) hHeld ?_ ?_
      rotate_left
      ·rintro w' ⟨s0, s1, s2, s3, s4, s5, s6, s7, s8, s9, s10, s11⟩
       go_simp
       with_reducible rfl
      rotate_left
      ·simp only [Act.put, List.setIfInBounds_toArray, List.set_cons_zero, List.set_cons_succ, i64_w, i32_w]
       rfl
      refine take_ (i := 12) (N := some 159) (v := ?_) (a' := ?_) #[true,true,true,true,false,true,true,true,true,true,true,true,true,true,false,false,false,false,false,false] rfl rfl (take_ofW HT_.out HW_.out (by kernel_rfl)) (fun _ _ _ h => h) (Or.inl ⟨by rfl, ?_⟩) hHeld ?_ ?_
      rotate_left
      ·rintro w' ⟨s0, s1, s2, s3, s4, s5, s6, s7, s8, s9, s10, s11⟩
       go_simp
       with_reducible rfl
      rotate_left
      ·simp only [Act.put, List.setIfInBounds_toArray, List.set_cons_zero, List.set_cons_succ, i64_w, i32_w]
       rfl
      refine pure_ (i := 14) (N := some 161) (v := ?_) (a' := ?_) #[true,true,true,true,false,true,true,true,true,true,true,true,true,true,true,false,false,false,false,false] rfl rfl (any_of HT_.out (by kernel_rfl)) (fun _ _ _ h => h) (Or.inl ⟨by rfl, ?_⟩) ?_ ?_
      rotate_left
      ·intro w'
       go_simp
       with_reducible rfl
      rotate_left
      ·simp only [Act.put, List.setIfInBounds_toArray, List.set_cons_zero, List.set_cons_succ, i64_w, i32_w]
       rfl
      refine take_ (i := 15) (N := some 162) (v := ?_) (a' := ?_) #[true,true,true,true,false,true,true,true,true,true,true,true,true,true,true,true,false,false,false,false] rfl rfl (take_ofW HT_.out HW_.out (by kernel_rfl)) (fun _ _ _ h => h) (Or.inl ⟨by rfl, ?_⟩) hHeld ?_ ?_
      rotate_left
      ·rintro w' ⟨s0, s1, s2, s3, s4, s5, s6, s7, s8, s9, s10, s11⟩
       go_simp
       with_reducible rfl
      rotate_left
      ·simp only [Act.put, List.setIfInBounds_toArray, List.set_cons_zero, List.set_cons_succ, i64_w, i32_w]
       rfl
      refine pure_ (i := 16) (N := some 163) (v := ?_) (a' := ?_) #[true,true,true,true,false,true,true,true,true,true,true,true,true,true,true,true,true,false,false,false] rfl rfl (any_of HT_.out (by kernel_rfl)) (fun _ _ _ h => h) (Or.inl ⟨by rfl, ?_⟩) ?_ ?_
      rotate_left
      ·intro w'
       go_simp
       with_reducible rfl
      rotate_left
      ·simp only [Act.put, List.setIfInBounds_toArray, List.set_cons_zero, List.set_cons_succ, i64_w, i32_w]
       rfl
      refine readstore_ (i := 4) (j := 17) (N := some 151) (v := ?rqv) (w1 := ?rqw) #[true,true,true,true,true,true,true,true,true,true,true,true,true,true,true,true,true,true,false,false] rfl rfl rfl rfl (by kernel_rfl) (by decide) (by rfl) (by rfl) (by rfl) ?rq1 ?rq2 ?rq3 ?rq4 (a' := ?rqa) ?rq5 ?_
      case rq1 => go_simp; with_reducible rfl
      case rq2 => go_simp; rfl
      case rq3 => go_simp; try rfl
      case rq4 => go_simp; try (with_reducible rfl)
      case rq5 => simp only [Act.put, List.setIfInBounds_toArray, List.set_cons_zero, List.set_cons_succ, i64_w, i32_w]; rfl
      refine pure_ (i := 18) (N := some 164) (v := ?_) (a' := ?_) #[true,true,true,true,true,true,true,true,true,true,true,true,true,true,true,true,true,true,true,false] rfl rfl (any_of HT_.out (by kernel_rfl)) (fun _ _ _ h => h) (Or.inl ⟨by rfl, ?_⟩) ?_ ?_
      rotate_left
      ·intro w'
       go_simp
       with_reducible rfl
      rotate_left
      ·simp only [Act.put, List.setIfInBounds_toArray, List.set_cons_zero, List.set_cons_succ, i64_w, i32_w]
       rfl
      refine last_ (i := 19) (N := none) #[true,true,true,true,true,true,true,true,true,true,true,true,true,true,true,true,true,true,true,true] rfl rfl (one_of HT_.out (by kernel_rfl)) (by decide) (fun K hK => ?_)
      refine skip_ (w1 := ?_) (by rfl) rfl ?_ ?_
      rotate_left
      ·go_simp
       rfl
      refine hK.out _ _ ?_
      clear hK K
      refine done_ (done_of HT_.out (by kernel_rfl)) ?_
      have n0_ : Aside0 (Kd.R k40 40 ((((((w111.setCell ⟨go99, ((ji96) : Int).toNat * 3, none⟩ (.bool ((rd_T40 t189 (ji93)).f0))).setCell ⟨go99, ((ji96) : Int).toNat * 3 + 1, none⟩ (.int .u64 ((rd_T40 t189 (ji93)).f1))).setCell ⟨go99, ((ji96) : Int).toNat * 3 + 2, none⟩ (.int .i64 ((rd_T40 t189 (ji93)).f2))).setCell ⟨go99, ((ji93) : Int).toNat * 3, none⟩ (.bool ((rd_T40 t189 (ji96)).f0))).setCell ⟨go99, ((ji93) : Int).toNat * 3 + 1, none⟩ (.int .u64 ((rd_T40 t189 (ji96)).f1))).setCell ⟨go99, ((ji93) : Int).toNat * 3 + 2, none⟩ (.int .i64 ((rd_T40 t189 (ji96)).f2))) w.heap.size (fun k_ => some k_ ≠ (.slice Ao80 t211.length co80 : Value).ownBlock) (.slice (some ⟨go99, 0, none⟩) t189.length co29) y226) := ⟨by (with_reducible repeat (first | apply Kd.R_alloc | apply Kd.R_drewN | apply Kd.R_drew)); exact HQ113.out⟩
      have n1_ : Aside0 (Kd.R k37 37 ((((((w111.setCell ⟨go99, ((ji96) : Int).toNat * 3, none⟩ (.bool ((rd_T40 t189 (ji93)).f0))).setCell ⟨go99, ((ji96) : Int).toNat * 3 + 1, none⟩ (.int .u64 ((rd_T40 t189 (ji93)).f1))).setCell ⟨go99, ((ji96) : Int).toNat * 3 + 2, none⟩ (.int .i64 ((rd_T40 t189 (ji93)).f2))).setCell ⟨go99, ((ji93) : Int).toNat * 3, none⟩ (.bool ((rd_T40 t189 (ji96)).f0))).setCell ⟨go99, ((ji93) : Int).toNat * 3 + 1, none⟩ (.int .u64 ((rd_T40 t189 (ji96)).f1))).setCell ⟨go99, ((ji93) : Int).toNat * 3 + 2, none⟩ (.int .i64 ((rd_T40 t189 (ji96)).f2))) w.heap.size (fun _ => True) (.slice Ao85 x198004_54.length co85) x198004_54) := ⟨by (with_reducible repeat (first | apply Kd.R_alloc | apply Kd.R_drewN | apply Kd.R_drew)); exact Kd.R_mono (Kd.R_far (p := ⟨go99, ((ji93) : Int).toNat * 3 + 2, none⟩) (Kd.R_far (p := ⟨go99, ((ji93) : Int).toNat * 3 + 1, none⟩) (Kd.R_far (p := ⟨go99, ((ji93) : Int).toNat * 3, none⟩) (Kd.R_far (p := ⟨go99, ((ji96) : Int).toNat * 3 + 2, none⟩) (Kd.R_far (p := ⟨go99, ((ji96) : Int).toNat * 3 + 1, none⟩) (Kd.R_far (p := ⟨go99, ((ji96) : Int).toNat * 3, none⟩) (Kd.R_types HO_198004.out GG99.out (by decide)) (fun _ hk => hk.2) (.bool ((rd_T40 t189 (ji93)).f0))) (fun _ hk => hk.2) (.int .u64 ((rd_T40 t189 (ji93)).f1))) (fun _ hk => hk.2) (.int .i64 ((rd_T40 t189 (ji93)).f2))) (fun _ hk => hk.2) (.bool ((rd_T40 t189 (ji96)).f0))) (fun _ hk => hk.2) (.int .u64 ((rd_T40 t189 (ji96)).f1))) (fun _ hk => hk.2) (.int .i64 ((rd_T40 t189 (ji96)).f2))) (fun _ hk => trivial)⟩
      have n2_ : Aside0 (Kd.R k40 40 ((((((w111.setCell ⟨go99, ((ji96) : Int).toNat * 3, none⟩ (.bool ((rd_T40 t189 (ji93)).f0))).setCell ⟨go99, ((ji96) : Int).toNat * 3 + 1, none⟩ (.int .u64 ((rd_T40 t189 (ji93)).f1))).setCell ⟨go99, ((ji96) : Int).toNat * 3 + 2, none⟩ (.int .i64 ((rd_T40 t189 (ji93)).f2))).setCell ⟨go99, ((ji93) : Int).toNat * 3, none⟩ (.bool ((rd_T40 t189 (ji96)).f0))).setCell ⟨go99, ((ji93) : Int).toNat * 3 + 1, none⟩ (.int .u64 ((rd_T40 t189 (ji96)).f1))).setCell ⟨go99, ((ji93) : Int).toNat * 3 + 2, none⟩ (.int .i64 ((rd_T40 t189 (ji96)).f2))) w.heap.size (fun k_ => some k_ ≠ (.slice (some ⟨go99, 0, none⟩) t189.length co29 : Value).ownBlock) (.slice Ao80 t211.length co80) t211) := ⟨by (with_reducible repeat (first | apply Kd.R_alloc | apply Kd.R_drewN | apply Kd.R_drew)); exact Kd.R_mono (Kd.R_far (p := ⟨go99, ((ji93) : Int).toNat * 3 + 2, none⟩) (Kd.R_far (p := ⟨go99, ((ji93) : Int).toNat * 3 + 1, none⟩) (Kd.R_far (p := ⟨go99, ((ji93) : Int).toNat * 3, none⟩) (Kd.R_far (p := ⟨go99, ((ji96) : Int).toNat * 3 + 2, none⟩) (Kd.R_far (p := ⟨go99, ((ji96) : Int).toNat * 3 + 1, none⟩) (Kd.R_far (p := ⟨go99, ((ji96) : Int).toNat * 3, none⟩) (Kd.R_mono HO_221002.out (fun k_ hk => (⟨hk, fun e_ => hk (by rw [e_]; rfl)⟩ : _ ∧ k_ ≠ go99))) (fun _ hk => hk.2) (.bool ((rd_T40 t189 (ji93)).f0))) (fun _ hk => hk.2) (.int .u64 ((rd_T40 t189 (ji93)).f1))) (fun _ hk => hk.2) (.int .i64 ((rd_T40 t189 (ji93)).f2))) (fun _ hk => hk.2) (.bool ((rd_T40 t189 (ji96)).f0))) (fun _ hk => hk.2) (.int .u64 ((rd_T40 t189 (ji96)).f1))) (fun _ hk => hk.2) (.int .i64 ((rd_T40 t189 (ji96)).f2))) (fun _ hk => hk.1)⟩
      have n3_ : Aside0 (Kd.V k37 37 ((((((w111.setCell ⟨go99, ((ji96) : Int).toNat * 3, none⟩ (.bool ((rd_T40 t189 (ji93)).f0))).setCell ⟨go99, ((ji96) : Int).toNat * 3 + 1, none⟩ (.int .u64 ((rd_T40 t189 (ji93)).f1))).setCell ⟨go99, ((ji96) : Int).toNat * 3 + 2, none⟩ (.int .i64 ((rd_T40 t189 (ji93)).f2))).setCell ⟨go99, ((ji93) : Int).toNat * 3, none⟩ (.bool ((rd_T40 t189 (ji96)).f0))).setCell ⟨go99, ((ji93) : Int).toNat * 3 + 1, none⟩ (.int .u64 ((rd_T40 t189 (ji96)).f1))).setCell ⟨go99, ((ji93) : Int).toNat * 3 + 2, none⟩ (.int .i64 ((rd_T40 t189 (ji96)).f2))) w.heap.size (fun k_ => some k_ ≠ (.slice (some ⟨go99, 0, none⟩) t189.length co29 : Value).ownBlock ∧ some k_ ≠ (.slice Ao85 x198004_54.length co85 : Value).ownBlock ∧ some k_ ≠ (.slice Ao80 t211.length co80 : Value).ownBlock ∧ k_ ≠ gb183 ∧ k_ ≠ gb184 ∧ k_ ≠ gb197 ∧ k_ ≠ gb220) (.slice Ao81 t215.length co81) t215) := ⟨by (with_reducible repeat (first | apply Kd.V_alloc | apply Kd.V_drewN | apply Kd.V_drew)); exact Kd.V_mono (Kd.V_far (p := ⟨go99, ((ji93) : Int).toNat * 3 + 2, none⟩) (Kd.V_far (p := ⟨go99, ((ji93) : Int).toNat * 3 + 1, none⟩) (Kd.V_far (p := ⟨go99, ((ji93) : Int).toNat * 3, none⟩) (Kd.V_far (p := ⟨go99, ((ji96) : Int).toNat * 3 + 2, none⟩) (Kd.V_far (p := ⟨go99, ((ji96) : Int).toNat * 3 + 1, none⟩) (Kd.V_far (p := ⟨go99, ((ji96) : Int).toNat * 3, none⟩) (Kd.V_mono HO_221004.out (fun k_ hk => (⟨hk, fun e_ => hk.1 (by rw [e_]; rfl)⟩ : _ ∧ k_ ≠ go99))) (fun _ hk => hk.2) (.bool ((rd_T40 t189 (ji93)).f0))) (fun _ hk => hk.2) (.int .u64 ((rd_T40 t189 (ji93)).f1))) (fun _ hk => hk.2) (.int .i64 ((rd_T40 t189 (ji93)).f2))) (fun _ hk => hk.2) (.bool ((rd_T40 t189 (ji96)).f0))) (fun _ hk => hk.2) (.int .u64 ((rd_T40 t189 (ji96)).f1))) (fun _ hk => hk.2) (.int .i64 ((rd_T40 t189 (ji96)).f2))) (fun _ hk => ⟨hk.1.1, ⟨hk.1.2.1, ⟨hk.1.2.2.1, ⟨hk.1.2.2.2.1, ⟨hk.1.2.2.2.2.1, ⟨hk.1.2.2.2.2.2.1, hk.1.2.2.2.2.2.2⟩⟩⟩⟩⟩⟩)⟩
      have n4_ : Aside0 (((((((w111.setCell ⟨go99, ((ji96) : Int).toNat * 3, none⟩ (.bool ((rd_T40 t189 (ji93)).f0))).setCell ⟨go99, ((ji96) : Int).toNat * 3 + 1, none⟩ (.int .u64 ((rd_T40 t189 (ji93)).f1))).setCell ⟨go99, ((ji96) : Int).toNat * 3 + 2, none⟩ (.int .i64 ((rd_T40 t189 (ji93)).f2))).setCell ⟨go99, ((ji93) : Int).toNat * 3, none⟩ (.bool ((rd_T40 t189 (ji96)).f0))).setCell ⟨go99, ((ji93) : Int).toNat * 3 + 1, none⟩ (.int .u64 ((rd_T40 t189 (ji96)).f1))).setCell ⟨go99, ((ji93) : Int).toNat * 3 + 2, none⟩ (.int .i64 ((rd_T40 t189 (ji96)).f2))).heap[gb183]? = some (.cells #[.string a0_0, .int .i64 a0_1, .slice A0_2 l0_2.length c0_2, .int .i64 a0_3, .slice A0_4 l0_4.length c0_4, .int .i64 a0_5] 25 (0, 0))) := ⟨by (with_reducible repeat (first | refine blk_drewN ?_ _ | refine blk_drew ?_ | refine blk_alloc ?_ _)); refine blk_far ?_ (by have h_ := Kd.R_ne HO_198002.out BK183.out (by decide); intro e_; exact h_ (by rw [e_]; rfl)) _; (with_reducible repeat (first | refine blk_drewN ?_ _ | refine blk_drew ?_ | refine blk_alloc ?_ _)); refine blk_far ?_ (by have h_ := Kd.R_ne HO_198002.out BK183.out (by decide); intro e_; exact h_ (by rw [e_]; rfl)) _; (with_reducible repeat (first | refine blk_drewN ?_ _ | refine blk_drew ?_ | refine blk_alloc ?_ _)); refine blk_far ?_ (by have h_ := Kd.R_ne HO_198002.out BK183.out (by decide); intro e_; exact h_ (by rw [e_]; rfl)) _; (with_reducible repeat (first | refine blk_drewN ?_ _ | refine blk_drew ?_ | refine blk_alloc ?_ _)); refine blk_far ?_ (by have h_ := Kd.R_ne HO_198002.out BK183.out (by decide); intro e_; exact h_ (by rw [e_]; rfl)) _; (with_reducible repeat (first | refine blk_drewN ?_ _ | refine blk_drew ?_ | refine blk_alloc ?_ _)); refine blk_far ?_ (by have h_ := Kd.R_ne HO_198002.out BK183.out (by decide); intro e_; exact h_ (by rw [e_]; rfl)) _; (with_reducible repeat (first | refine blk_drewN ?_ _ | refine blk_drew ?_ | refine blk_alloc ?_ _)); refine blk_far ?_ (by have h_ := Kd.R_ne HO_198002.out BK183.out (by decide); intro e_; exact h_ (by rw [e_]; rfl)) _; (with_reducible repeat (first | refine blk_drewN ?_ _ | refine blk_drew ?_ | refine blk_alloc ?_ _)); exact BK183.out⟩
      have n5_ : Aside0 (((((((w111.setCell ⟨go99, ((ji96) : Int).toNat * 3, none⟩ (.bool ((rd_T40 t189 (ji93)).f0))).setCell ⟨go99, ((ji96) : Int).toNat * 3 + 1, none⟩ (.int .u64 ((rd_T40 t189 (ji93)).f1))).setCell ⟨go99, ((ji96) : Int).toNat * 3 + 2, none⟩ (.int .i64 ((rd_T40 t189 (ji93)).f2))).setCell ⟨go99, ((ji93) : Int).toNat * 3, none⟩ (.bool ((rd_T40 t189 (ji96)).f0))).setCell ⟨go99, ((ji93) : Int).toNat * 3 + 1, none⟩ (.int .u64 ((rd_T40 t189 (ji96)).f1))).setCell ⟨go99, ((ji93) : Int).toNat * 3 + 2, none⟩ (.int .i64 ((rd_T40 t189 (ji96)).f2))).heap[gb184]? = some (.cells #[.int .i64 a2_0, .int .i64 a2_1, .int .i64 a2_2] 34 (0, 0))) := ⟨by (with_reducible repeat (first | refine blk_drewN ?_ _ | refine blk_drew ?_ | refine blk_alloc ?_ _)); refine blk_far ?_ (by have h_ := Kd.R_ne HO_198002.out BK184.out (by decide); intro e_; exact h_ (by rw [e_]; rfl)) _; (with_reducible repeat (first | refine blk_drewN ?_ _ | refine blk_drew ?_ | refine blk_alloc ?_ _)); refine blk_far ?_ (by have h_ := Kd.R_ne HO_198002.out BK184.out (by decide); intro e_; exact h_ (by rw [e_]; rfl)) _; (with_reducible repeat (first | refine blk_drewN ?_ _ | refine blk_drew ?_ | refine blk_alloc ?_ _)); refine blk_far ?_ (by have h_ := Kd.R_ne HO_198002.out BK184.out (by decide); intro e_; exact h_ (by rw [e_]; rfl)) _; (with_reducible repeat (first | refine blk_drewN ?_ _ | refine blk_drew ?_ | refine blk_alloc ?_ _)); refine blk_far ?_ (by have h_ := Kd.R_ne HO_198002.out BK184.out (by decide); intro e_; exact h_ (by rw [e_]; rfl)) _; (with_reducible repeat (first | refine blk_drewN ?_ _ | refine blk_drew ?_ | refine blk_alloc ?_ _)); refine blk_far ?_ (by have h_ := Kd.R_ne HO_198002.out BK184.out (by decide); intro e_; exact h_ (by rw [e_]; rfl)) _; (with_reducible repeat (first | refine blk_drewN ?_ _ | refine blk_drew ?_ | refine blk_alloc ?_ _)); refine blk_far ?_ (by have h_ := Kd.R_ne HO_198002.out BK184.out (by decide); intro e_; exact h_ (by rw [e_]; rfl)) _; (with_reducible repeat (first | refine blk_drewN ?_ _ | refine blk_drew ?_ | refine blk_alloc ?_ _)); exact BK184.out⟩
      have n6_ : Aside0 (((((((w111.setCell ⟨go99, ((ji96) : Int).toNat * 3, none⟩ (.bool ((rd_T40 t189 (ji93)).f0))).setCell ⟨go99, ((ji96) : Int).toNat * 3 + 1, none⟩ (.int .u64 ((rd_T40 t189 (ji93)).f1))).setCell ⟨go99, ((ji96) : Int).toNat * 3 + 2, none⟩ (.int .i64 ((rd_T40 t189 (ji93)).f2))).setCell ⟨go99, ((ji93) : Int).toNat * 3, none⟩ (.bool ((rd_T40 t189 (ji96)).f0))).setCell ⟨go99, ((ji93) : Int).toNat * 3 + 1, none⟩ (.int .u64 ((rd_T40 t189 (ji96)).f1))).setCell ⟨go99, ((ji93) : Int).toNat * 3 + 2, none⟩ (.int .i64 ((rd_T40 t189 (ji96)).f2))).heap[gb197]? = some (.cells #[.string t187, .int .i64 t188, .slice (some ⟨go99, 0, none⟩) t189.length co29, .int .i64 t192, .slice Ao85 x198004_54.length co85, .int .i64 t196] 25 (0, 0))) := ⟨by (with_reducible repeat (first | refine blk_drewN ?_ _ | refine blk_drew ?_ | refine blk_alloc ?_ _)); refine blk_far ?_ (by have h_ := Kd.R_ne HO_198002.out BK197.out (by decide); intro e_; exact h_ (by rw [e_]; rfl)) _; (with_reducible repeat (first | refine blk_drewN ?_ _ | refine blk_drew ?_ | refine blk_alloc ?_ _)); refine blk_far ?_ (by have h_ := Kd.R_ne HO_198002.out BK197.out (by decide); intro e_; exact h_ (by rw [e_]; rfl)) _; (with_reducible repeat (first | refine blk_drewN ?_ _ | refine blk_drew ?_ | refine blk_alloc ?_ _)); refine blk_far ?_ (by have h_ := Kd.R_ne HO_198002.out BK197.out (by decide); intro e_; exact h_ (by rw [e_]; rfl)) _; (with_reducible repeat (first | refine blk_drewN ?_ _ | refine blk_drew ?_ | refine blk_alloc ?_ _)); refine blk_far ?_ (by have h_ := Kd.R_ne HO_198002.out BK197.out (by decide); intro e_; exact h_ (by rw [e_]; rfl)) _; (with_reducible repeat (first | refine blk_drewN ?_ _ | refine blk_drew ?_ | refine blk_alloc ?_ _)); refine blk_far ?_ (by have h_ := Kd.R_ne HO_198002.out BK197.out (by decide); intro e_; exact h_ (by rw [e_]; rfl)) _; (with_reducible repeat (first | refine blk_drewN ?_ _ | refine blk_drew ?_ | refine blk_alloc ?_ _)); refine blk_far ?_ (by have h_ := Kd.R_ne HO_198002.out BK197.out (by decide); intro e_; exact h_ (by rw [e_]; rfl)) _; (with_reducible repeat (first | refine blk_drewN ?_ _ | refine blk_drew ?_ | refine blk_alloc ?_ _)); exact BK197.out⟩
      have n7_ : Aside0 (((((((w111.setCell ⟨go99, ((ji96) : Int).toNat * 3, none⟩ (.bool ((rd_T40 t189 (ji93)).f0))).setCell ⟨go99, ((ji96) : Int).toNat * 3 + 1, none⟩ (.int .u64 ((rd_T40 t189 (ji93)).f1))).setCell ⟨go99, ((ji96) : Int).toNat * 3 + 2, none⟩ (.int .i64 ((rd_T40 t189 (ji93)).f2))).setCell ⟨go99, ((ji93) : Int).toNat * 3, none⟩ (.bool ((rd_T40 t189 (ji96)).f0))).setCell ⟨go99, ((ji93) : Int).toNat * 3 + 1, none⟩ (.int .u64 ((rd_T40 t189 (ji96)).f1))).setCell ⟨go99, ((ji93) : Int).toNat * 3 + 2, none⟩ (.int .i64 ((rd_T40 t189 (ji96)).f2))).heap[gb220]? = some (.cells #[.string t209, .int .i64 t210, .slice Ao80 t211.length co80, .int .i64 t214, .slice Ao81 t215.length co81, .int .i64 t218] 25 (0, 0))) := ⟨by (with_reducible repeat (first | refine blk_drewN ?_ _ | refine blk_drew ?_ | refine blk_alloc ?_ _)); refine blk_far ?_ (by have h_ := Kd.R_ne HO_198002.out BK220.out (by decide); intro e_; exact h_ (by rw [e_]; rfl)) _; (with_reducible repeat (first | refine blk_drewN ?_ _ | refine blk_drew ?_ | refine blk_alloc ?_ _)); refine blk_far ?_ (by have h_ := Kd.R_ne HO_198002.out BK220.out (by decide); intro e_; exact h_ (by rw [e_]; rfl)) _; (with_reducible repeat (first | refine blk_drewN ?_ _ | refine blk_drew ?_ | refine blk_alloc ?_ _)); refine blk_far ?_ (by have h_ := Kd.R_ne HO_198002.out BK220.out (by decide); intro e_; exact h_ (by rw [e_]; rfl)) _; (with_reducible repeat (first | refine blk_drewN ?_ _ | refine blk_drew ?_ | refine blk_alloc ?_ _)); refine blk_far ?_ (by have h_ := Kd.R_ne HO_198002.out BK220.out (by decide); intro e_; exact h_ (by rw [e_]; rfl)) _; (with_reducible repeat (first | refine blk_drewN ?_ _ | refine blk_drew ?_ | refine blk_alloc ?_ _)); refine blk_far ?_ (by have h_ := Kd.R_ne HO_198002.out BK220.out (by decide); intro e_; exact h_ (by rw [e_]; rfl)) _; (with_reducible repeat (first | refine blk_drewN ?_ _ | refine blk_drew ?_ | refine blk_alloc ?_ _)); refine blk_far ?_ (by have h_ := Kd.R_ne HO_198002.out BK220.out (by decide); intro e_; exact h_ (by rw [e_]; rfl)) _; (with_reducible repeat (first | refine blk_drewN ?_ _ | refine blk_drew ?_ | refine blk_alloc ?_ _)); exact BK220.out⟩
      have n8_ : Aside0 (Below w.heap.size w ((((((w111.setCell ⟨go99, ((ji96) : Int).toNat * 3, none⟩ (.bool ((rd_T40 t189 (ji93)).f0))).setCell ⟨go99, ((ji96) : Int).toNat * 3 + 1, none⟩ (.int .u64 ((rd_T40 t189 (ji93)).f1))).setCell ⟨go99, ((ji96) : Int).toNat * 3 + 2, none⟩ (.int .i64 ((rd_T40 t189 (ji93)).f2))).setCell ⟨go99, ((ji93) : Int).toNat * 3, none⟩ (.bool ((rd_T40 t189 (ji96)).f0))).setCell ⟨go99, ((ji93) : Int).toNat * 3 + 1, none⟩ (.int .u64 ((rd_T40 t189 (ji96)).f1))).setCell ⟨go99, ((ji93) : Int).toNat * 3 + 2, none⟩ (.int .i64 ((rd_T40 t189 (ji96)).f2)))) := ⟨by repeat (first | (with_reducible first | exact HB.out | apply below_alloc | apply pw_below_drewN | apply below_drew1 | refine below_set ?_ GB99.out | refine below_set ?_ GB99.out | refine below_set ?_ GB99.out | refine below_set ?_ GB99.out | refine below_set ?_ GB99.out | refine below_set ?_ GB99.out | refine below_set ?_ GE183.out | refine below_set ?_ GE184.out | refine below_set ?_ GE197.out | refine below_set ?_ GE220.out) | exact HB.out)⟩
      (try clear HO_198002)
      (try clear HO_198004)
      (try clear HO_221002)
      (try clear HO_221004)
      (try clear BK183)
      (try clear BK184)
      (try clear BK197)
      (try clear BK220)
      (try clear HB)
      generalize ((((((w111.setCell ⟨go99, ((ji96) : Int).toNat * 3, none⟩ (.bool ((rd_T40 t189 (ji93)).f0))).setCell ⟨go99, ((ji96) : Int).toNat * 3 + 1, none⟩ (.int .u64 ((rd_T40 t189 (ji93)).f1))).setCell ⟨go99, ((ji96) : Int).toNat * 3 + 2, none⟩ (.int .i64 ((rd_T40 t189 (ji93)).f2))).setCell ⟨go99, ((ji93) : Int).toNat * 3, none⟩ (.bool ((rd_T40 t189 (ji96)).f0))).setCell ⟨go99, ((ji93) : Int).toNat * 3 + 1, none⟩ (.int .u64 ((rd_T40 t189 (ji96)).f1))).setCell ⟨go99, ((ji93) : Int).toNat * 3 + 2, none⟩ (.int .i64 ((rd_T40 t189 (ji96)).f2))) = w114 at n0_ n1_ n2_ n3_ n4_ n5_ n6_ n7_ n8_ ⊢
      have HO_198002 := n0_
      have HO_198004 := n1_
      have HO_221002 := n2_
      have HO_221004 := n3_
      have BK183 := n4_
      have BK184 := n5_
      have BK197 := n6_
      have BK220 := n7_
      have HB := n8_
      clear n0_ n1_ n2_ n3_ n4_ n5_ n6_ n7_ n8_
      have hnb115 := NB183_197.out
      have hnc115 := NB197_183.out
      have hnb116 := NB183_220.out
      have hnc116 := NB220_183.out
      have hcz117_0 : w114.cell? ⟨gb183, 0, none⟩ = some (.string a0_0) := (blk_cell BK183.out 0).trans rfl
      have hcz117_1 : w114.cell? ⟨gb183, 1, none⟩ = some (.int .i64 a0_1) := (blk_cell BK183.out 1).trans rfl
      have hcz117_2 : w114.cell? ⟨gb183, 2, none⟩ = some (.slice A0_2 l0_2.length c0_2) := (blk_cell BK183.out 2).trans rfl
      have hcz117_3 : w114.cell? ⟨gb183, 3, none⟩ = some (.int .i64 a0_3) := (blk_cell BK183.out 3).trans rfl
      have hcz117_4 : w114.cell? ⟨gb183, 4, none⟩ = some (.slice A0_4 l0_4.length c0_4) := (blk_cell BK183.out 4).trans rfl
      have hcz117_5 : w114.cell? ⟨gb183, 5, none⟩ = some (.int .i64 a0_5) := (blk_cell BK183.out 5).trans rfl
      have hfz117_0 := blk_frozen BK183.out 0
      have hfz117_1 := blk_frozen BK183.out 1
      have hfz117_2 := blk_frozen BK183.out 2
      have hfz117_3 := blk_frozen BK183.out 3
      have hfz117_4 := blk_frozen BK183.out 4
      have hfz117_5 := blk_frozen BK183.out 5
      try go_wp2_with (first | ((with_reducible refine gate_dst (N := 17) rfl ?_); (try (refine gate_guard (by rfl) ?_; dsimp only)); refine box_event ?hg (N := 17) ?hd (cs := #[.string (⟨#[]⟩ : ByteArray), .int .i64 0, .slice none 0 0, .int .i64 0, .slice none 0 0, .int .i64 0]) (t := 25) ?hr ?_; (case hd => rfl); (case hg => rfl); (case hr => first | (go_simp; done) | (go_simp; rfl)); intro gb227 hg w118 hbox hb; have n0_ := Aside0.mk (Kd.R_below (by (with_reducible repeat (first | apply Kd.R_alloc | apply Kd.R_drewN | apply Kd.R_drew)); exact HO_198002.out) hb); have n1_ := Aside0.mk (Kd.R_below (by (with_reducible repeat (first | apply Kd.R_alloc | apply Kd.R_drewN | apply Kd.R_drew)); exact HO_198004.out) hb); have n2_ := Aside0.mk (Kd.R_below (by (with_reducible repeat (first | apply Kd.R_alloc | apply Kd.R_drewN | apply Kd.R_drew)); exact HO_221002.out) hb); have n3_ := Aside0.mk (Kd.V_below (Kd.V_elderB (by (with_reducible repeat (first | apply Kd.V_alloc | apply Kd.V_drewN | apply Kd.V_drew)); exact HO_221004.out) gb227 (Nat.le_of_eq hg.symm)) hb); have n4_ := Aside0.mk (blk_below (g := gb183) (o := .cells #[.string a0_0, .int .i64 a0_1, .slice A0_2 l0_2.length c0_2, .int .i64 a0_3, .slice A0_4 l0_4.length c0_4, .int .i64 a0_5] 25 (0, 0)) (by (with_reducible repeat (first | refine blk_drewN ?_ _ | refine blk_drew ?_ | refine blk_alloc ?_ _)); exact BK183.out) hb); have n5_ := Aside0.mk (blk_below (g := gb184) (o := .cells #[.int .i64 a2_0, .int .i64 a2_1, .int .i64 a2_2] 34 (0, 0)) (by (with_reducible repeat (first | refine blk_drewN ?_ _ | refine blk_drew ?_ | refine blk_alloc ?_ _)); exact BK184.out) hb); have n6_ := Aside0.mk (blk_below (g := gb197) (o := .cells #[.string t187, .int .i64 t188, .slice (some ⟨go99, 0, none⟩) t189.length co29, .int .i64 t192, .slice Ao85 x198004_54.length co85, .int .i64 t196] 25 (0, 0)) (by (with_reducible repeat (first | refine blk_drewN ?_ _ | refine blk_drew ?_ | refine blk_alloc ?_ _)); exact BK197.out) hb); have n7_ := Aside0.mk (blk_below (g := gb220) (o := .cells #[.string t209, .int .i64 t210, .slice Ao80 t211.length co80, .int .i64 t214, .slice Ao81 t215.length co81, .int .i64 t218] 25 (0, 0)) (by (with_reducible repeat (first | refine blk_drewN ?_ _ | refine blk_drew ?_ | refine blk_alloc ?_ _)); exact BK220.out) hb); have n8_ := Aside0.mk (below_step (by repeat (first | (with_reducible first | exact HB.out | apply below_alloc | apply pw_below_drewN | apply below_drew1 | refine below_set ?_ GE183.out | refine below_set ?_ GE184.out | refine below_set ?_ GE197.out | refine below_set ?_ GE220.out) | exact HB.out)) hb); have n9_ := Aside0.mk (hbox); have n10_ := Aside0.mk ((by rw [hg]; exact (below_size (by repeat (first | (with_reducible first | exact HB.out | apply below_alloc | apply pw_below_drewN | apply below_drew1 | refine below_set ?_ GE183.out | refine below_set ?_ GE184.out | refine below_set ?_ GE197.out | refine below_set ?_ GE220.out) | exact HB.out))) : w.heap.size ≤ gb227)); have n11_ := Aside0.mk ((by rw [hg]; exact (below_size (by repeat (first | (with_reducible first | exact HB.out | apply below_alloc | apply pw_below_drewN | apply below_drew1 | refine below_set ?_ GE183.out | refine below_set ?_ GE184.out | refine below_set ?_ GE197.out | refine below_set ?_ GE220.out) | exact HB.out))) : w.heap.size ≤ gb227)); have n12_ := Aside0.mk ((by rw [hg]; exact Nat.ne_of_lt (blk_lt (g := gb183) (o := .cells #[.string a0_0, .int .i64 a0_1, .slice A0_2 l0_2.length c0_2, .int .i64 a0_3, .slice A0_4 l0_4.length c0_4, .int .i64 a0_5] 25 (0, 0)) (by (with_reducible repeat (first | refine blk_drewN ?_ _ | refine blk_drew ?_ | refine blk_alloc ?_ _)); exact BK183.out)) : gb183 ≠ gb227)); have n13_ := Aside0.mk ((by rw [hg]; exact Nat.ne_of_gt (blk_lt (g := gb183) (o := .cells #[.string a0_0, .int .i64 a0_1, .slice A0_2 l0_2.length c0_2, .int .i64 a0_3, .slice A0_4 l0_4.length c0_4, .int .i64 a0_5] 25 (0, 0)) (by (with_reducible repeat (first | refine blk_drewN ?_ _ | refine blk_drew ?_ | refine blk_alloc ?_ _)); exact BK183.out)) : gb227 ≠ gb183)); have n14_ := Aside0.mk ((by rw [hg]; exact Nat.ne_of_lt (blk_lt (g := gb184) (o := .cells #[.int .i64 a2_0, .int .i64 a2_1, .int .i64 a2_2] 34 (0, 0)) (by (with_reducible repeat (first | refine blk_drewN ?_ _ | refine blk_drew ?_ | refine blk_alloc ?_ _)); exact BK184.out)) : gb184 ≠ gb227)); have n15_ := Aside0.mk ((by rw [hg]; exact Nat.ne_of_gt (blk_lt (g := gb184) (o := .cells #[.int .i64 a2_0, .int .i64 a2_1, .int .i64 a2_2] 34 (0, 0)) (by (with_reducible repeat (first | refine blk_drewN ?_ _ | refine blk_drew ?_ | refine blk_alloc ?_ _)); exact BK184.out)) : gb227 ≠ gb184)); have n16_ := Aside0.mk ((by rw [hg]; exact Nat.ne_of_lt (blk_lt (g := gb197) (o := .cells #[.string t187, .int .i64 t188, .slice (some ⟨go99, 0, none⟩) t189.length co29, .int .i64 t192, .slice Ao85 x198004_54.length co85, .int .i64 t196] 25 (0, 0)) (by (with_reducible repeat (first | refine blk_drewN ?_ _ | refine blk_drew ?_ | refine blk_alloc ?_ _)); exact BK197.out)) : gb197 ≠ gb227)); have n17_ := Aside0.mk ((by rw [hg]; exact Nat.ne_of_gt (blk_lt (g := gb197) (o := .cells #[.string t187, .int .i64 t188, .slice (some ⟨go99, 0, none⟩) t189.length co29, .int .i64 t192, .slice Ao85 x198004_54.length co85, .int .i64 t196] 25 (0, 0)) (by (with_reducible repeat (first | refine blk_drewN ?_ _ | refine blk_drew ?_ | refine blk_alloc ?_ _)); exact BK197.out)) : gb227 ≠ gb197)); have n18_ := Aside0.mk ((by rw [hg]; exact Nat.ne_of_lt (blk_lt (g := gb220) (o := .cells #[.string t209, .int .i64 t210, .slice Ao80 t211.length co80, .int .i64 t214, .slice Ao81 t215.length co81, .int .i64 t218] 25 (0, 0)) (by (with_reducible repeat (first | refine blk_drewN ?_ _ | refine blk_drew ?_ | refine blk_alloc ?_ _)); exact BK220.out)) : gb220 ≠ gb227)); have n19_ := Aside0.mk ((by rw [hg]; exact Nat.ne_of_gt (blk_lt (g := gb220) (o := .cells #[.string t209, .int .i64 t210, .slice Ao80 t211.length co80, .int .i64 t214, .slice Ao81 t215.length co81, .int .i64 t218] 25 (0, 0)) (by (with_reducible repeat (first | refine blk_drewN ?_ _ | refine blk_drew ?_ | refine blk_alloc ?_ _)); exact BK220.out)) : gb227 ≠ gb220)); clear HO_198002; clear HO_198004; clear HO_221002; clear HO_221004; clear BK183; clear BK184; clear BK197; clear BK220; clear HB; have HO_198002 := n0_; have HO_198004 := n1_; have HO_221002 := n2_; have HO_221004 := n3_; have BK183 := n4_; have BK184 := n5_; have BK197 := n6_; have BK220 := n7_; have HB := n8_; have BK227 := n9_; have GW227 := n10_; have GE227 := n11_; have NB183_227 := n12_; have NB227_183 := n13_; have NB184_227 := n14_; have NB227_184 := n15_; have NB197_227 := n16_; have NB227_197 := n17_; have NB220_227 := n18_; have NB227_220 := n19_; clear n0_ n1_ n2_ n3_ n4_ n5_ n6_ n7_ n8_ n9_ n10_ n11_ n12_ n13_ n14_ n15_ n16_ n17_ n18_ n19_; clear hb hbox hg; have hnb119 := NB227_183.out; have hnc119 := NB183_227.out; have hnb120 := NB227_184.out; have hnc120 := NB184_227.out; have hnb121 := NB227_197.out; have hnc121 := NB197_227.out; have hnb122 := NB227_220.out; have hnc122 := NB220_227.out; have hcz123_0 : w118.cell? ⟨gb227, 0, none⟩ = some (.string (⟨#[]⟩ : ByteArray)) := (blk_cell BK227.out 0).trans rfl; have hcz123_1 : w118.cell? ⟨gb227, 1, none⟩ = some (.int .i64 0) := (blk_cell BK227.out 1).trans rfl; have hcz123_2 : w118.cell? ⟨gb227, 2, none⟩ = some (.slice none 0 0) := (blk_cell BK227.out 2).trans rfl; have hcz123_3 : w118.cell? ⟨gb227, 3, none⟩ = some (.int .i64 0) := (blk_cell BK227.out 3).trans rfl; have hcz123_4 : w118.cell? ⟨gb227, 4, none⟩ = some (.slice none 0 0) := (blk_cell BK227.out 4).trans rfl; have hcz123_5 : w118.cell? ⟨gb227, 5, none⟩ = some (.int .i64 0) := (blk_cell BK227.out 5).trans rfl; have hfz123_0 := blk_frozen BK227.out 0; have hfz123_1 := blk_frozen BK227.out 1; have hfz123_2 := blk_frozen BK227.out 2; have hfz123_3 := blk_frozen BK227.out 3; have hfz123_4 := blk_frozen BK227.out 4; have hfz123_5 := blk_frozen BK227.out 5; have hcz124_0 : w118.cell? ⟨gb183, 0, none⟩ = some (.string a0_0) := (blk_cell BK183.out 0).trans rfl; have hcz124_1 : w118.cell? ⟨gb183, 1, none⟩ = some (.int .i64 a0_1) := (blk_cell BK183.out 1).trans rfl; have hcz124_2 : w118.cell? ⟨gb183, 2, none⟩ = some (.slice A0_2 l0_2.length c0_2) := (blk_cell BK183.out 2).trans rfl; have hcz124_3 : w118.cell? ⟨gb183, 3, none⟩ = some (.int .i64 a0_3) := (blk_cell BK183.out 3).trans rfl; have hcz124_4 : w118.cell? ⟨gb183, 4, none⟩ = some (.slice A0_4 l0_4.length c0_4) := (blk_cell BK183.out 4).trans rfl; have hcz124_5 : w118.cell? ⟨gb183, 5, none⟩ = some (.int .i64 a0_5) := (blk_cell BK183.out 5).trans rfl; have hfz124_0 := blk_frozen BK183.out 0; have hfz124_1 := blk_frozen BK183.out 1; have hfz124_2 := blk_frozen BK183.out 2; have hfz124_3 := blk_frozen BK183.out 3; have hfz124_4 := blk_frozen BK183.out 4; have hfz124_5 := blk_frozen BK183.out 5) | ((with_reducible refine gate_dst (N := 18) rfl ?_); (try (refine gate_guard (by rfl) ?_; dsimp only)); refine box_event ?hg (N := 18) ?hd (cs := #[.string (⟨#[]⟩ : ByteArray), .int .i64 0, .slice none 0 0, .int .i64 0, .slice none 0 0, .int .i64 0]) (t := 25) ?hr ?_; (case hd => rfl); (case hg => rfl); (case hr => first | (go_simp; done) | (go_simp; rfl)); intro gb228 hg w125 hbox hb; have n0_ := Aside0.mk (Kd.R_below (by (with_reducible repeat (first | apply Kd.R_alloc | apply Kd.R_drewN | apply Kd.R_drew)); exact (Kd.R_mono (R_far6 (g := gb227) (Kd.R_types HO_198002.out BK227.out (by decide)) (fun _ hk => hk.2)) (fun _ h_ => h_.1))) hb); have n1_ := Aside0.mk (Kd.R_below (by (with_reducible repeat (first | apply Kd.R_alloc | apply Kd.R_drewN | apply Kd.R_drew)); exact (Kd.R_mono (R_far6 (g := gb227) (Kd.R_types HO_198004.out BK227.out (by decide)) (fun _ hk => hk.2)) (fun _ h_ => h_.1))) hb); have n2_ := Aside0.mk (Kd.R_below (by (with_reducible repeat (first | apply Kd.R_alloc | apply Kd.R_drewN | apply Kd.R_drew)); exact (Kd.R_mono (R_far6 (g := gb227) (Kd.R_types HO_221002.out BK227.out (by decide)) (fun _ hk => hk.2)) (fun _ h_ => h_.1))) hb); have n3_ := Aside0.mk (Kd.V_below (Kd.V_elderB (by (with_reducible repeat (first | apply Kd.V_alloc | apply Kd.V_drewN | apply Kd.V_drew)); exact (Kd.V_mono (V_far6 (g := gb227) (Kd.V_mono HO_221004.out (fun k_ hk => (⟨hk, hk.2⟩ : _ ∧ k_ ≠ gb227))) (fun _ hk => hk.2)) (fun _ h_ => h_.1))) gb228 (Nat.le_of_eq hg.symm)) hb); have n4_ := Aside0.mk (blk_below (g := gb183) (o := .cells #[.string a0_0, .int .i64 a0_1, .slice A0_2 l0_2.length c0_2, .int .i64 a0_3, .slice A0_4 l0_4.length c0_4, .int .i64 a0_5] 25 (0, 0)) (by (with_reducible repeat (first | refine blk_far ?_ NB183_227.out _ | refine blk_drewN ?_ _ | refine blk_drew ?_ | refine blk_alloc ?_ _)); exact BK183.out) hb); have n5_ := Aside0.mk (blk_below (g := gb184) (o := .cells #[.int .i64 a2_0, .int .i64 a2_1, .int .i64 a2_2] 34 (0, 0)) (by (with_reducible repeat (first | refine blk_far ?_ NB184_227.out _ | refine blk_drewN ?_ _ | refine blk_drew ?_ | refine blk_alloc ?_ _)); exact BK184.out) hb); have n6_ := Aside0.mk (blk_below (g := gb197) (o := .cells #[.string t187, .int .i64 t188, .slice (some ⟨go99, 0, none⟩) t189.length co29, .int .i64 t192, .slice Ao85 x198004_54.length co85, .int .i64 t196] 25 (0, 0)) (by (with_reducible repeat (first | refine blk_far ?_ NB197_227.out _ | refine blk_drewN ?_ _ | refine blk_drew ?_ | refine blk_alloc ?_ _)); exact BK197.out) hb); have n7_ := Aside0.mk (blk_below (g := gb220) (o := .cells #[.string t209, .int .i64 t210, .slice Ao80 t211.length co80, .int .i64 t214, .slice Ao81 t215.length co81, .int .i64 t218] 25 (0, 0)) (by (with_reducible repeat (first | refine blk_far ?_ NB220_227.out _ | refine blk_drewN ?_ _ | refine blk_drew ?_ | refine blk_alloc ?_ _)); exact BK220.out) hb); have n8_ := Aside0.mk (blk_below (g := gb227) (o := .cells #[.string a0_0, .int .i64 a0_1, .slice A0_2 l0_2.length c0_2, .int .i64 a0_3, .slice A0_4 l0_4.length c0_4, .int .i64 a0_5] 25 (0, 0)) (by (with_reducible repeat (first | refine blk_drewN ?_ _ | refine blk_drew ?_ | refine blk_alloc ?_ _)); refine blk_put (cs := #[.string a0_0, .int .i64 a0_1, .slice A0_2 l0_2.length c0_2, .int .i64 a0_3, .slice A0_4 l0_4.length c0_4, .int .i64 0]) ?_ 5 _ rfl; refine blk_put (cs := #[.string a0_0, .int .i64 a0_1, .slice A0_2 l0_2.length c0_2, .int .i64 a0_3, .slice none 0 0, .int .i64 0]) ?_ 4 _ rfl; refine blk_put (cs := #[.string a0_0, .int .i64 a0_1, .slice A0_2 l0_2.length c0_2, .int .i64 0, .slice none 0 0, .int .i64 0]) ?_ 3 _ rfl; refine blk_put (cs := #[.string a0_0, .int .i64 a0_1, .slice none 0 0, .int .i64 0, .slice none 0 0, .int .i64 0]) ?_ 2 _ rfl; refine blk_put (cs := #[.string a0_0, .int .i64 0, .slice none 0 0, .int .i64 0, .slice none 0 0, .int .i64 0]) ?_ 1 _ rfl; refine blk_put (cs := #[.string (⟨#[]⟩ : ByteArray), .int .i64 0, .slice none 0 0, .int .i64 0, .slice none 0 0, .int .i64 0]) ?_ 0 _ rfl; (with_reducible repeat (first | refine blk_drewN ?_ _ | refine blk_drew ?_ | refine blk_alloc ?_ _)); exact BK227.out) hb); have n9_ := Aside0.mk (below_step (by repeat (first | (with_reducible first | exact HB.out | apply below_alloc | apply pw_below_drewN | apply below_drew1 | refine below_set ?_ GE183.out | refine below_set ?_ GE184.out | refine below_set ?_ GE197.out | refine below_set ?_ GE220.out | refine below_set ?_ GE227.out) | exact HB.out)) hb); have n10_ := Aside0.mk (hbox); have n11_ := Aside0.mk ((by rw [hg]; exact (below_size (by repeat (first | (with_reducible first | exact HB.out | apply below_alloc | apply pw_below_drewN | apply below_drew1 | refine below_set ?_ GE183.out | refine below_set ?_ GE184.out | refine below_set ?_ GE197.out | refine below_set ?_ GE220.out | refine below_set ?_ GE227.out) | exact HB.out))) : w.heap.size ≤ gb228)); have n12_ := Aside0.mk ((by rw [hg]; exact (below_size (by repeat (first | (with_reducible first | exact HB.out | apply below_alloc | apply pw_below_drewN | apply below_drew1 | refine below_set ?_ GE183.out | refine below_set ?_ GE184.out | refine below_set ?_ GE197.out | refine below_set ?_ GE220.out | refine below_set ?_ GE227.out) | exact HB.out))) : w.heap.size ≤ gb228)); have n13_ := Aside0.mk ((by rw [hg]; exact Nat.ne_of_lt (blk_lt (g := gb183) (o := .cells #[.string a0_0, .int .i64 a0_1, .slice A0_2 l0_2.length c0_2, .int .i64 a0_3, .slice A0_4 l0_4.length c0_4, .int .i64 a0_5] 25 (0, 0)) (by (with_reducible repeat (first | refine blk_far ?_ NB183_227.out _ | refine blk_drewN ?_ _ | refine blk_drew ?_ | refine blk_alloc ?_ _)); exact BK183.out)) : gb183 ≠ gb228)); have n14_ := Aside0.mk ((by rw [hg]; exact Nat.ne_of_gt (blk_lt (g := gb183) (o := .cells #[.string a0_0, .int .i64 a0_1, .slice A0_2 l0_2.length c0_2, .int .i64 a0_3, .slice A0_4 l0_4.length c0_4, .int .i64 a0_5] 25 (0, 0)) (by (with_reducible repeat (first | refine blk_far ?_ NB183_227.out _ | refine blk_drewN ?_ _ | refine blk_drew ?_ | refine blk_alloc ?_ _)); exact BK183.out)) : gb228 ≠ gb183)); have n15_ := Aside0.mk ((by rw [hg]; exact Nat.ne_of_lt (blk_lt (g := gb184) (o := .cells #[.int .i64 a2_0, .int .i64 a2_1, .int .i64 a2_2] 34 (0, 0)) (by (with_reducible repeat (first | refine blk_far ?_ NB184_227.out _ | refine blk_drewN ?_ _ | refine blk_drew ?_ | refine blk_alloc ?_ _)); exact BK184.out)) : gb184 ≠ gb228)); have n16_ := Aside0.mk ((by rw [hg]; exact Nat.ne_of_gt (blk_lt (g := gb184) (o := .cells #[.int .i64 a2_0, .int .i64 a2_1, .int .i64 a2_2] 34 (0, 0)) (by (with_reducible repeat (first | refine blk_far ?_ NB184_227.out _ | refine blk_drewN ?_ _ | refine blk_drew ?_ | refine blk_alloc ?_ _)); exact BK184.out)) : gb228 ≠ gb184)); have n17_ := Aside0.mk ((by rw [hg]; exact Nat.ne_of_lt (blk_lt (g := gb197) (o := .cells #[.string t187, .int .i64 t188, .slice (some ⟨go99, 0, none⟩) t189.length co29, .int .i64 t192, .slice Ao85 x198004_54.length co85, .int .i64 t196] 25 (0, 0)) (by (with_reducible repeat (first | refine blk_far ?_ NB197_227.out _ | refine blk_drewN ?_ _ | refine blk_drew ?_ | refine blk_alloc ?_ _)); exact BK197.out)) : gb197 ≠ gb228)); have n18_ := Aside0.mk ((by rw [hg]; exact Nat.ne_of_gt (blk_lt (g := gb197) (o := .cells #[.string t187, .int .i64 t188, .slice (some ⟨go99, 0, none⟩) t189.length co29, .int .i64 t192, .slice Ao85 x198004_54.length co85, .int .i64 t196] 25 (0, 0)) (by (with_reducible repeat (first | refine blk_far ?_ NB197_227.out _ | refine blk_drewN ?_ _ | refine blk_drew ?_ | refine blk_alloc ?_ _)); exact BK197.out)) : gb228 ≠ gb197)); have n19_ := Aside0.mk ((by rw [hg]; exact Nat.ne_of_lt (blk_lt (g := gb220) (o := .cells #[.string t209, .int .i64 t210, .slice Ao80 t211.length co80, .int .i64 t214, .slice Ao81 t215.length co81, .int .i64 t218] 25 (0, 0)) (by (with_reducible repeat (first | refine blk_far ?_ NB220_227.out _ | refine blk_drewN ?_ _ | refine blk_drew ?_ | refine blk_alloc ?_ _)); exact BK220.out)) : gb220 ≠ gb228)); have n20_ := Aside0.mk ((by rw [hg]; exact Nat.ne_of_gt (blk_lt (g := gb220) (o := .cells #[.string t209, .int .i64 t210, .slice Ao80 t211.length co80, .int .i64 t214, .slice Ao81 t215.length co81, .int .i64 t218] 25 (0, 0)) (by (with_reducible repeat (first | refine blk_far ?_ NB220_227.out _ | refine blk_drewN ?_ _ | refine blk_drew ?_ | refine blk_alloc ?_ _)); exact BK220.out)) : gb228 ≠ gb220)); have n21_ := Aside0.mk ((by rw [hg]; exact Nat.ne_of_lt (blk_lt (g := gb227) (o := .cells #[.string a0_0, .int .i64 a0_1, .slice A0_2 l0_2.length c0_2, .int .i64 a0_3, .slice A0_4 l0_4.length c0_4, .int .i64 a0_5] 25 (0, 0)) (by (with_reducible repeat (first | refine blk_drewN ?_ _ | refine blk_drew ?_ | refine blk_alloc ?_ _)); refine blk_put (cs := #[.string a0_0, .int .i64 a0_1, .slice A0_2 l0_2.length c0_2, .int .i64 a0_3, .slice A0_4 l0_4.length c0_4, .int .i64 0]) ?_ 5 _ rfl; refine blk_put (cs := #[.string a0_0, .int .i64 a0_1, .slice A0_2 l0_2.length c0_2, .int .i64 a0_3, .slice none 0 0, .int .i64 0]) ?_ 4 _ rfl; refine blk_put (cs := #[.string a0_0, .int .i64 a0_1, .slice A0_2 l0_2.length c0_2, .int .i64 0, .slice none 0 0, .int .i64 0]) ?_ 3 _ rfl; refine blk_put (cs := #[.string a0_0, .int .i64 a0_1, .slice none 0 0, .int .i64 0, .slice none 0 0, .int .i64 0]) ?_ 2 _ rfl; refine blk_put (cs := #[.string a0_0, .int .i64 0, .slice none 0 0, .int .i64 0, .slice none 0 0, .int .i64 0]) ?_ 1 _ rfl; refine blk_put (cs := #[.string (⟨#[]⟩ : ByteArray), .int .i64 0, .slice none 0 0, .int .i64 0, .slice none 0 0, .int .i64 0]) ?_ 0 _ rfl; (with_reducible repeat (first | refine blk_drewN ?_ _ | refine blk_drew ?_ | refine blk_alloc ?_ _)); exact BK227.out)) : gb227 ≠ gb228)); have n22_ := Aside0.mk ((by rw [hg]; exact Nat.ne_of_gt (blk_lt (g := gb227) (o := .cells #[.string a0_0, .int .i64 a0_1, .slice A0_2 l0_2.length c0_2, .int .i64 a0_3, .slice A0_4 l0_4.length c0_4, .int .i64 a0_5] 25 (0, 0)) (by (with_reducible repeat (first | refine blk_drewN ?_ _ | refine blk_drew ?_ | refine blk_alloc ?_ _)); refine blk_put (cs := #[.string a0_0, .int .i64 a0_1, .slice A0_2 l0_2.length c0_2, .int .i64 a0_3, .slice A0_4 l0_4.length c0_4, .int .i64 0]) ?_ 5 _ rfl; refine blk_put (cs := #[.string a0_0, .int .i64 a0_1, .slice A0_2 l0_2.length c0_2, .int .i64 a0_3, .slice none 0 0, .int .i64 0]) ?_ 4 _ rfl; refine blk_put (cs := #[.string a0_0, .int .i64 a0_1, .slice A0_2 l0_2.length c0_2, .int .i64 0, .slice none 0 0, .int .i64 0]) ?_ 3 _ rfl; refine blk_put (cs := #[.string a0_0, .int .i64 a0_1, .slice none 0 0, .int .i64 0, .slice none 0 0, .int .i64 0]) ?_ 2 _ rfl; refine blk_put (cs := #[.string a0_0, .int .i64 0, .slice none 0 0, .int .i64 0, .slice none 0 0, .int .i64 0]) ?_ 1 _ rfl; refine blk_put (cs := #[.string (⟨#[]⟩ : ByteArray), .int .i64 0, .slice none 0 0, .int .i64 0, .slice none 0 0, .int .i64 0]) ?_ 0 _ rfl; (with_reducible repeat (first | refine blk_drewN ?_ _ | refine blk_drew ?_ | refine blk_alloc ?_ _)); exact BK227.out)) : gb228 ≠ gb227)); clear HO_198002; clear HO_198004; clear HO_221002; clear HO_221004; clear BK183; clear BK184; clear BK197; clear BK220; clear BK227; clear HB; have HO_198002 := n0_; have HO_198004 := n1_; have HO_221002 := n2_; have HO_221004 := n3_; have BK183 := n4_; have BK184 := n5_; have BK197 := n6_; have BK220 := n7_; have BK227 := n8_; have HB := n9_; have BK228 := n10_; have GW228 := n11_; have GE228 := n12_; have NB183_228 := n13_; have NB228_183 := n14_; have NB184_228 := n15_; have NB228_184 := n16_; have NB197_228 := n17_; have NB228_197 := n18_; have NB220_228 := n19_; have NB228_220 := n20_; have NB227_228 := n21_; have NB228_227 := n22_; clear n0_ n1_ n2_ n3_ n4_ n5_ n6_ n7_ n8_ n9_ n10_ n11_ n12_ n13_ n14_ n15_ n16_ n17_ n18_ n19_ n20_ n21_ n22_; clear hb hbox hg; have hnb126 := NB228_183.out; have hnc126 := NB183_228.out; have hnb127 := NB228_184.out; have hnc127 := NB184_228.out; have hnb128 := NB228_197.out; have hnc128 := NB197_228.out; have hnb129 := NB228_220.out; have hnc129 := NB220_228.out; have hnb130 := NB228_227.out; have hnc130 := NB227_228.out; have hcz131_0 : w125.cell? ⟨gb228, 0, none⟩ = some (.string (⟨#[]⟩ : ByteArray)) := (blk_cell BK228.out 0).trans rfl; have hcz131_1 : w125.cell? ⟨gb228, 1, none⟩ = some (.int .i64 0) := (blk_cell BK228.out 1).trans rfl; have hcz131_2 : w125.cell? ⟨gb228, 2, none⟩ = some (.slice none 0 0) := (blk_cell BK228.out 2).trans rfl; have hcz131_3 : w125.cell? ⟨gb228, 3, none⟩ = some (.int .i64 0) := (blk_cell BK228.out 3).trans rfl; have hcz131_4 : w125.cell? ⟨gb228, 4, none⟩ = some (.slice none 0 0) := (blk_cell BK228.out 4).trans rfl; have hcz131_5 : w125.cell? ⟨gb228, 5, none⟩ = some (.int .i64 0) := (blk_cell BK228.out 5).trans rfl; have hfz131_0 := blk_frozen BK228.out 0; have hfz131_1 := blk_frozen BK228.out 1; have hfz131_2 := blk_frozen BK228.out 2; have hfz131_3 := blk_frozen BK228.out 3; have hfz131_4 := blk_frozen BK228.out 4; have hfz131_5 := blk_frozen BK228.out 5; have hcz132_0 : w125.cell? ⟨gb183, 0, none⟩ = some (.string a0_0) := (blk_cell BK183.out 0).trans rfl; have hcz132_1 : w125.cell? ⟨gb183, 1, none⟩ = some (.int .i64 a0_1) := (blk_cell BK183.out 1).trans rfl; have hcz132_2 : w125.cell? ⟨gb183, 2, none⟩ = some (.slice A0_2 l0_2.length c0_2) := (blk_cell BK183.out 2).trans rfl; have hcz132_3 : w125.cell? ⟨gb183, 3, none⟩ = some (.int .i64 a0_3) := (blk_cell BK183.out 3).trans rfl; have hcz132_4 : w125.cell? ⟨gb183, 4, none⟩ = some (.slice A0_4 l0_4.length c0_4) := (blk_cell BK183.out 4).trans rfl; have hcz132_5 : w125.cell? ⟨gb183, 5, none⟩ = some (.int .i64 a0_5) := (blk_cell BK183.out 5).trans rfl; have hfz132_0 := blk_frozen BK183.out 0; have hfz132_1 := blk_frozen BK183.out 1; have hfz132_2 := blk_frozen BK183.out 2; have hfz132_3 := blk_frozen BK183.out 3; have hfz132_4 := blk_frozen BK183.out 4; have hfz132_5 := blk_frozen BK183.out 5; have p229 : 0 ≤ ((ji96) : Int) := of_decide_eq_true (by first | (with_reducible assumption) | assumption); have q229 : (ji96) < (l0_2.length : Int) := of_decide_eq_true (by first | (with_reducible assumption) | assumption); obtain ⟨ad229, e229, hx229_0, hx229_1, hx229_2⟩ := at_T40 HR0_2.out (ji96) p229 q229; cases e229; have hn229_0 : ad229.block ≠ gb228 := Nat.ne_of_lt (Nat.lt_of_lt_of_le (by have := World.block_lt_of_cell? _ _ hx229_0; first | rwa [add_block] at this | exact this) GW228.out); have hn229_1 : ad229.block ≠ gb228 := Nat.ne_of_lt (Nat.lt_of_lt_of_le (by have := World.block_lt_of_cell? _ _ hx229_0; first | rwa [add_block] at this | exact this) GW228.out); have hn229_2 : ad229.block ≠ gb228 := Nat.ne_of_lt (Nat.lt_of_lt_of_le (by have := World.block_lt_of_cell? _ _ hx229_0; first | rwa [add_block] at this | exact this) GW228.out); have hn229_3 : ad229.block ≠ gb228 := Nat.ne_of_lt (Nat.lt_of_lt_of_le (by have := World.block_lt_of_cell? _ _ hx229_0; first | rwa [add_block] at this | exact this) GW228.out); have hn229_4 : ad229.block ≠ gb228 := Nat.ne_of_lt (Nat.lt_of_lt_of_le (by have := World.block_lt_of_cell? _ _ hx229_0; first | rwa [add_block] at this | exact this) GW228.out); have hn229_5 : ad229.block ≠ gb228 := Nat.ne_of_lt (Nat.lt_of_lt_of_le (by have := World.block_lt_of_cell? _ _ hx229_0; first | rwa [add_block] at this | exact this) GW228.out); replace hx229_0 := (HB.out.cell (World.block_lt_of_cell? w _ hx229_0)).trans hx229_0; replace hx229_1 := (HB.out.cell (World.block_lt_of_cell? w _ hx229_1)).trans hx229_1; replace hx229_2 := (HB.out.cell (World.block_lt_of_cell? w _ hx229_2)).trans hx229_2; replace hx229_0 := (cell_far (p := ⟨gb228, 0, none⟩) (by first | (rw [add_block]; exact hn229_0) | (show (Addr.add _ _).block ≠ _; rw [add_block]; exact hn229_0) | exact hn229_0) (.string a0_0)).trans hx229_0; replace hx229_1 := (cell_far (p := ⟨gb228, 0, none⟩) (by first | (rw [add_block]; exact hn229_0) | (show (Addr.add _ _).block ≠ _; rw [add_block]; exact hn229_0) | exact hn229_0) (.string a0_0)).trans hx229_1; replace hx229_2 := (cell_far (p := ⟨gb228, 0, none⟩) (by first | (rw [add_block]; exact hn229_0) | (show (Addr.add _ _).block ≠ _; rw [add_block]; exact hn229_0) | exact hn229_0) (.string a0_0)).trans hx229_2; replace hx229_0 := (cell_far (p := ⟨gb228, 1, none⟩) (by first | (rw [add_block]; exact hn229_1) | (show (Addr.add _ _).block ≠ _; rw [add_block]; exact hn229_1) | exact hn229_1) (.int .i64 a0_1)).trans hx229_0; replace hx229_1 := (cell_far (p := ⟨gb228, 1, none⟩) (by first | (rw [add_block]; exact hn229_1) | (show (Addr.add _ _).block ≠ _; rw [add_block]; exact hn229_1) | exact hn229_1) (.int .i64 a0_1)).trans hx229_1; replace hx229_2 := (cell_far (p := ⟨gb228, 1, none⟩) (by first | (rw [add_block]; exact hn229_1) | (show (Addr.add _ _).block ≠ _; rw [add_block]; exact hn229_1) | exact hn229_1) (.int .i64 a0_1)).trans hx229_2; replace hx229_0 := (cell_far (p := ⟨gb228, 2, none⟩) (by first | (rw [add_block]; exact hn229_2) | (show (Addr.add _ _).block ≠ _; rw [add_block]; exact hn229_2) | exact hn229_2) (.slice (some ad229) l0_2.length c0_2)).trans hx229_0; replace hx229_1 := (cell_far (p := ⟨gb228, 2, none⟩) (by first | (rw [add_block]; exact hn229_2) | (show (Addr.add _ _).block ≠ _; rw [add_block]; exact hn229_2) | exact hn229_2) (.slice (some ad229) l0_2.length c0_2)).trans hx229_1; replace hx229_2 := (cell_far (p := ⟨gb228, 2, none⟩) (by first | (rw [add_block]; exact hn229_2) | (show (Addr.add _ _).block ≠ _; rw [add_block]; exact hn229_2) | exact hn229_2) (.slice (some ad229) l0_2.length c0_2)).trans hx229_2; replace hx229_0 := (cell_far (p := ⟨gb228, 3, none⟩) (by first | (rw [add_block]; exact hn229_3) | (show (Addr.add _ _).block ≠ _; rw [add_block]; exact hn229_3) | exact hn229_3) (.int .i64 a0_3)).trans hx229_0; replace hx229_1 := (cell_far (p := ⟨gb228, 3, none⟩) (by first | (rw [add_block]; exact hn229_3) | (show (Addr.add _ _).block ≠ _; rw [add_block]; exact hn229_3) | exact hn229_3) (.int .i64 a0_3)).trans hx229_1; replace hx229_2 := (cell_far (p := ⟨gb228, 3, none⟩) (by first | (rw [add_block]; exact hn229_3) | (show (Addr.add _ _).block ≠ _; rw [add_block]; exact hn229_3) | exact hn229_3) (.int .i64 a0_3)).trans hx229_2; replace hx229_0 := (cell_far (p := ⟨gb228, 4, none⟩) (by first | (rw [add_block]; exact hn229_4) | (show (Addr.add _ _).block ≠ _; rw [add_block]; exact hn229_4) | exact hn229_4) (.slice A0_4 l0_4.length c0_4)).trans hx229_0; replace hx229_1 := (cell_far (p := ⟨gb228, 4, none⟩) (by first | (rw [add_block]; exact hn229_4) | (show (Addr.add _ _).block ≠ _; rw [add_block]; exact hn229_4) | exact hn229_4) (.slice A0_4 l0_4.length c0_4)).trans hx229_1; replace hx229_2 := (cell_far (p := ⟨gb228, 4, none⟩) (by first | (rw [add_block]; exact hn229_4) | (show (Addr.add _ _).block ≠ _; rw [add_block]; exact hn229_4) | exact hn229_4) (.slice A0_4 l0_4.length c0_4)).trans hx229_2; replace hx229_0 := (cell_far (p := ⟨gb228, 5, none⟩) (by first | (rw [add_block]; exact hn229_5) | (show (Addr.add _ _).block ≠ _; rw [add_block]; exact hn229_5) | exact hn229_5) (.int .i64 a0_5)).trans hx229_0; replace hx229_1 := (cell_far (p := ⟨gb228, 5, none⟩) (by first | (rw [add_block]; exact hn229_5) | (show (Addr.add _ _).block ≠ _; rw [add_block]; exact hn229_5) | exact hn229_5) (.int .i64 a0_5)).trans hx229_1; replace hx229_2 := (cell_far (p := ⟨gb228, 5, none⟩) (by first | (rw [add_block]; exact hn229_5) | (show (Addr.add _ _).block ≠ _; rw [add_block]; exact hn229_5) | exact hn229_5) (.int .i64 a0_5)).trans hx229_2; clear hn229_0; clear hn229_1; clear hn229_2; clear hn229_3; clear hn229_4; clear hn229_5; replace p229 := eq_true p229; replace q229 := eq_true q229) | ((with_reducible refine gate_dst (N := 172) rfl ?_); (try (refine gate_guard (by rfl) ?_; dsimp only)); refine Kd.R_lit k40 _ 40 ?hg (N := 172) ?hd (xs := ([(⟨(rd_T40 l0_2 (ji96)).f0, (rd_T40 l0_2 (ji96)).f1, (rd_T40 l0_2 (ji96)).f2⟩ : S40)] : List (S40))) (inner := [.bool ((rd_T40 l0_2 (ji96)).f0), .int .u64 ((rd_T40 l0_2 (ji96)).f1), .int .i64 ((rd_T40 l0_2 (ji96)).f2)]) (ok := fun _ => True) (okp := fun _ => True) ?hr ?hp (fun _ hk => hk) trivial (Below.refl _ _) (Nat.le_refl _) (by simp) ?_; (case hd => rfl); (case hg => rfl); (case hr => first | (go_simp; done) | (go_simp; rfl)); (case hp => exact (Reps.c3 (show Kd.M k40 _ _ _ (⟨(rd_T40 l0_2 (ji96)).f0, (rd_T40 l0_2 (ji96)).f1, (rd_T40 l0_2 (ji96)).f2⟩ : S40) [.bool ((rd_T40 l0_2 (ji96)).f0), .int .u64 ((rd_T40 l0_2 (ji96)).f1), .int .i64 ((rd_T40 l0_2 (ji96)).f2)] from (k40_mkM _ _ _ (⟨(rd_T40 l0_2 (ji96)).f0, (rd_T40 l0_2 (ji96)).f1, (rd_T40 l0_2 (ji96)).f2⟩ : S40) )) (Reps.none _ _))); intro v231 w133 ho134 hb hg_ hnew_; clear hg_ hnew_; (first | rw [← Ny230.out] at ho134 | (simp only [Int.reduceToNat] at ho134; rw [← Ny230.out] at ho134)); have n0_ := Aside0.mk (Kd.R_elder' (by (with_reducible repeat (first | apply Kd.R_alloc | apply Kd.R_drewN | apply Kd.R_drew)); exact (Kd.R_mono (R_far6 (g := gb228) (Kd.R_types HO_198002.out BK228.out (by decide)) (fun _ hk => hk.2)) (fun _ h_ => h_.1))) (Kd.R_base ho134) hb); have n1_ := Aside0.mk (Kd.R_below (by (with_reducible repeat (first | apply Kd.R_alloc | apply Kd.R_drewN | apply Kd.R_drew)); exact (Kd.R_mono (R_far6 (g := gb228) (Kd.R_types HO_198004.out BK228.out (by decide)) (fun _ hk => hk.2)) (fun _ h_ => h_.1))) hb); have n2_ := Aside0.mk (Kd.R_elder' (by (with_reducible repeat (first | apply Kd.R_alloc | apply Kd.R_drewN | apply Kd.R_drew)); exact (Kd.R_mono (R_far6 (g := gb228) (Kd.R_types HO_221002.out BK228.out (by decide)) (fun _ hk => hk.2)) (fun _ h_ => h_.1))) (Kd.R_base ho134) hb); have n3_ := Aside0.mk (Kd.V_elder' (by (with_reducible repeat (first | apply Kd.V_alloc | apply Kd.V_drewN | apply Kd.V_drew)); exact (Kd.V_mono (V_far6 (g := gb228) (Kd.V_mono HO_221004.out (fun k_ hk => (⟨hk, hk.2⟩ : _ ∧ k_ ≠ gb228))) (fun _ hk => hk.2)) (fun _ h_ => h_.1))) (Kd.R_base ho134) hb); have n4_ := Aside0.mk (Kd.R_lower (Kd.R_new' (Kd.R_new' ho134 (Kd.R_lt (by (with_reducible repeat (first | apply Kd.R_alloc | apply Kd.R_drewN | apply Kd.R_drew)); exact (Kd.R_mono (R_far6 (g := gb228) (Kd.R_types HO_198002.out BK228.out (by decide)) (fun _ hk => hk.2)) (fun _ h_ => h_.1))))) (Kd.R_lt (by (with_reducible repeat (first | apply Kd.R_alloc | apply Kd.R_drewN | apply Kd.R_drew)); exact (Kd.R_mono (R_far6 (g := gb228) (Kd.R_types HO_221002.out BK228.out (by decide)) (fun _ hk => hk.2)) (fun _ h_ => h_.1))))) (below_size (by repeat (first | (with_reducible first | exact HB.out | apply below_alloc | apply pw_below_drewN | apply below_drew1 | refine below_set ?_ GE183.out | refine below_set ?_ GE184.out | refine below_set ?_ GE197.out | refine below_set ?_ GE220.out | refine below_set ?_ GE227.out | refine below_set ?_ GE228.out) | exact HB.out)))); have n5_ := Aside0.mk (blk_below (g := gb183) (o := .cells #[.string a0_0, .int .i64 a0_1, .slice (some ad229) l0_2.length c0_2, .int .i64 a0_3, .slice A0_4 l0_4.length c0_4, .int .i64 a0_5] 25 (0, 0)) (by (with_reducible repeat (first | refine blk_far ?_ NB183_228.out _ | refine blk_drewN ?_ _ | refine blk_drew ?_ | refine blk_alloc ?_ _)); exact BK183.out) hb); have n6_ := Aside0.mk (blk_below (g := gb184) (o := .cells #[.int .i64 a2_0, .int .i64 a2_1, .int .i64 a2_2] 34 (0, 0)) (by (with_reducible repeat (first | refine blk_far ?_ NB184_228.out _ | refine blk_drewN ?_ _ | refine blk_drew ?_ | refine blk_alloc ?_ _)); exact BK184.out) hb); have n7_ := Aside0.mk (blk_below (g := gb197) (o := .cells #[.string t187, .int .i64 t188, .slice (some ⟨go99, 0, none⟩) t189.length co29, .int .i64 t192, .slice Ao85 x198004_54.length co85, .int .i64 t196] 25 (0, 0)) (by (with_reducible repeat (first | refine blk_far ?_ NB197_228.out _ | refine blk_drewN ?_ _ | refine blk_drew ?_ | refine blk_alloc ?_ _)); exact BK197.out) hb); have n8_ := Aside0.mk (blk_below (g := gb220) (o := .cells #[.string t209, .int .i64 t210, .slice Ao80 t211.length co80, .int .i64 t214, .slice Ao81 t215.length co81, .int .i64 t218] 25 (0, 0)) (by (with_reducible repeat (first | refine blk_far ?_ NB220_228.out _ | refine blk_drewN ?_ _ | refine blk_drew ?_ | refine blk_alloc ?_ _)); exact BK220.out) hb); have n9_ := Aside0.mk (blk_below (g := gb227) (o := .cells #[.string a0_0, .int .i64 a0_1, .slice (some ad229) l0_2.length c0_2, .int .i64 a0_3, .slice A0_4 l0_4.length c0_4, .int .i64 a0_5] 25 (0, 0)) (by (with_reducible repeat (first | refine blk_far ?_ NB227_228.out _ | refine blk_drewN ?_ _ | refine blk_drew ?_ | refine blk_alloc ?_ _)); exact BK227.out) hb); have n10_ := Aside0.mk (blk_below (g := gb228) (o := .cells #[.string a0_0, .int .i64 a0_1, .slice (some ad229) l0_2.length c0_2, .int .i64 a0_3, .slice A0_4 l0_4.length c0_4, .int .i64 a0_5] 25 (0, 0)) (by (with_reducible repeat (first | refine blk_drewN ?_ _ | refine blk_drew ?_ | refine blk_alloc ?_ _)); refine blk_put (cs := #[.string a0_0, .int .i64 a0_1, .slice (some ad229) l0_2.length c0_2, .int .i64 a0_3, .slice A0_4 l0_4.length c0_4, .int .i64 0]) ?_ 5 _ rfl; refine blk_put (cs := #[.string a0_0, .int .i64 a0_1, .slice (some ad229) l0_2.length c0_2, .int .i64 a0_3, .slice none 0 0, .int .i64 0]) ?_ 4 _ rfl; refine blk_put (cs := #[.string a0_0, .int .i64 a0_1, .slice (some ad229) l0_2.length c0_2, .int .i64 0, .slice none 0 0, .int .i64 0]) ?_ 3 _ rfl; refine blk_put (cs := #[.string a0_0, .int .i64 a0_1, .slice none 0 0, .int .i64 0, .slice none 0 0, .int .i64 0]) ?_ 2 _ rfl; refine blk_put (cs := #[.string a0_0, .int .i64 0, .slice none 0 0, .int .i64 0, .slice none 0 0, .int .i64 0]) ?_ 1 _ rfl; refine blk_put (cs := #[.string (⟨#[]⟩ : ByteArray), .int .i64 0, .slice none 0 0, .int .i64 0, .slice none 0 0, .int .i64 0]) ?_ 0 _ rfl; (with_reducible repeat (first | refine blk_drewN ?_ _ | refine blk_drew ?_ | refine blk_alloc ?_ _)); exact BK228.out) hb); have n11_ := Aside0.mk (below_step (by repeat (first | (with_reducible first | exact HB.out | apply below_alloc | apply pw_below_drewN | apply below_drew1 | refine below_set ?_ GE183.out | refine below_set ?_ GE184.out | refine below_set ?_ GE197.out | refine below_set ?_ GE220.out | refine below_set ?_ GE227.out | refine below_set ?_ GE228.out) | exact HB.out)) hb); clear HO_198002; clear HO_198004; clear HO_221002; clear HO_221004; clear BK183; clear BK184; clear BK197; clear BK220; clear BK227; clear BK228; clear HB; have HO_198002 := n0_; have HO_198004 := n1_; have HO_221002 := n2_; have HO_221004 := n3_; have HO232 := n4_; have BK183 := n5_; have BK184 := n6_; have BK197 := n7_; have BK220 := n8_; have BK227 := n9_; have BK228 := n10_; have HB := n11_; clear n0_ n1_ n2_ n3_ n4_ n5_ n6_ n7_ n8_ n9_ n10_ n11_; clear hb ho134; obtain ⟨Ao135, co135, eo135⟩ := Kd.R_slice HO232.out; subst eo135; have hcz136_0 : w133.cell? ⟨gb227, 0, none⟩ = some (.string a0_0) := (blk_cell BK227.out 0).trans rfl; have hcz136_1 : w133.cell? ⟨gb227, 1, none⟩ = some (.int .i64 a0_1) := (blk_cell BK227.out 1).trans rfl; have hcz136_2 : w133.cell? ⟨gb227, 2, none⟩ = some (.slice (some ad229) l0_2.length c0_2) := (blk_cell BK227.out 2).trans rfl; have hcz136_3 : w133.cell? ⟨gb227, 3, none⟩ = some (.int .i64 a0_3) := (blk_cell BK227.out 3).trans rfl; have hcz136_4 : w133.cell? ⟨gb227, 4, none⟩ = some (.slice A0_4 l0_4.length c0_4) := (blk_cell BK227.out 4).trans rfl; have hcz136_5 : w133.cell? ⟨gb227, 5, none⟩ = some (.int .i64 a0_5) := (blk_cell BK227.out 5).trans rfl; have hfz136_0 := blk_frozen BK227.out 0; have hfz136_1 := blk_frozen BK227.out 1; have hfz136_2 := blk_frozen BK227.out 2; have hfz136_3 := blk_frozen BK227.out 3; have hfz136_4 := blk_frozen BK227.out 4; have hfz136_5 := blk_frozen BK227.out 5; have hcz137_0 : w133.cell? ⟨gb183, 0, none⟩ = some (.string a0_0) := (blk_cell BK183.out 0).trans rfl; have hcz137_1 : w133.cell? ⟨gb183, 1, none⟩ = some (.int .i64 a0_1) := (blk_cell BK183.out 1).trans rfl; have hcz137_2 : w133.cell? ⟨gb183, 2, none⟩ = some (.slice (some ad229) l0_2.length c0_2) := (blk_cell BK183.out 2).trans rfl; have hcz137_3 : w133.cell? ⟨gb183, 3, none⟩ = some (.int .i64 a0_3) := (blk_cell BK183.out 3).trans rfl; have hcz137_4 : w133.cell? ⟨gb183, 4, none⟩ = some (.slice A0_4 l0_4.length c0_4) := (blk_cell BK183.out 4).trans rfl; have hcz137_5 : w133.cell? ⟨gb183, 5, none⟩ = some (.int .i64 a0_5) := (blk_cell BK183.out 5).trans rfl; have hfz137_0 := blk_frozen BK183.out 0; have hfz137_1 := blk_frozen BK183.out 1; have hfz137_2 := blk_frozen BK183.out 2; have hfz137_3 := blk_frozen BK183.out 3; have hfz137_4 := blk_frozen BK183.out 4; have hfz137_5 := blk_frozen BK183.out 5; have p233 : 0 ≤ ((ji93) : Int) := of_decide_eq_true (by first | (with_reducible assumption) | assumption); have q233 : (ji93) < (l0_2.length : Int) := of_decide_eq_true (by first | (with_reducible assumption) | assumption); obtain ⟨ad233, e233, hx233_0, hx233_1, hx233_2⟩ := at_T40 HR0_2.out (ji93) p233 q233; obtain rfl : ad229 = ad233 := (by injection e233); have hn233_0 : ad229.block ≠ gb227 := Nat.ne_of_lt (Nat.lt_of_lt_of_le (by have := World.block_lt_of_cell? _ _ hx233_0; first | rwa [add_block] at this | exact this) GW227.out); replace hx233_0 := (HB.out.cell (World.block_lt_of_cell? w _ hx233_0)).trans hx233_0; replace hx233_1 := (HB.out.cell (World.block_lt_of_cell? w _ hx233_1)).trans hx233_1; replace hx233_2 := (HB.out.cell (World.block_lt_of_cell? w _ hx233_2)).trans hx233_2; replace hx233_0 := (cell_far (p := ⟨gb227, 2, none⟩) (by first | (rw [add_block]; exact hn233_0) | (show (Addr.add _ _).block ≠ _; rw [add_block]; exact hn233_0) | exact hn233_0) (.slice Ao135 y230.length co135)).trans hx233_0; replace hx233_1 := (cell_far (p := ⟨gb227, 2, none⟩) (by first | (rw [add_block]; exact hn233_0) | (show (Addr.add _ _).block ≠ _; rw [add_block]; exact hn233_0) | exact hn233_0) (.slice Ao135 y230.length co135)).trans hx233_1; replace hx233_2 := (cell_far (p := ⟨gb227, 2, none⟩) (by first | (rw [add_block]; exact hn233_0) | (show (Addr.add _ _).block ≠ _; rw [add_block]; exact hn233_0) | exact hn233_0) (.slice Ao135 y230.length co135)).trans hx233_2; clear hn233_0; replace p233 := eq_true p233; replace q233 := eq_true q233) | ((with_reducible refine gate_dst (N := 179) rfl ?_); (try (refine gate_guard (by rfl) ?_; dsimp only)); refine Kd.R_lit k40 _ 40 ?hg (N := 179) ?hd (xs := ([(⟨(rd_T40 l0_2 (ji93)).f0, (rd_T40 l0_2 (ji93)).f1, (rd_T40 l0_2 (ji93)).f2⟩ : S40)] : List (S40))) (inner := [.bool ((rd_T40 l0_2 (ji93)).f0), .int .u64 ((rd_T40 l0_2 (ji93)).f1), .int .i64 ((rd_T40 l0_2 (ji93)).f2)]) (ok := fun _ => True) (okp := fun _ => True) ?hr ?hp (fun _ hk => hk) trivial (Below.refl _ _) (Nat.le_refl _) (by simp) ?_; (case hd => rfl); (case hg => rfl); (case hr => first | (go_simp; done) | (go_simp; rfl)); (case hp => exact (Reps.c3 (show Kd.M k40 _ _ _ (⟨(rd_T40 l0_2 (ji93)).f0, (rd_T40 l0_2 (ji93)).f1, (rd_T40 l0_2 (ji93)).f2⟩ : S40) [.bool ((rd_T40 l0_2 (ji93)).f0), .int .u64 ((rd_T40 l0_2 (ji93)).f1), .int .i64 ((rd_T40 l0_2 (ji93)).f2)] from (k40_mkM _ _ _ (⟨(rd_T40 l0_2 (ji93)).f0, (rd_T40 l0_2 (ji93)).f1, (rd_T40 l0_2 (ji93)).f2⟩ : S40) )) (Reps.none _ _))); intro v235 w138 ho139 hb hg_ hnew_; clear hg_ hnew_; (first | rw [← Ny234.out] at ho139 | (simp only [Int.reduceToNat] at ho139; rw [← Ny234.out] at ho139)); have n0_ := Aside0.mk (Kd.R_elder' (by (with_reducible repeat (first | apply Kd.R_alloc | apply Kd.R_drewN | apply Kd.R_drew)); exact (Kd.R_mono (Kd.R_far (p := ⟨gb227, 2, none⟩) (Kd.R_types HO_198002.out BK227.out (by decide)) (fun _ hk => hk.2) (.slice Ao135 y230.length co135)) (fun _ h_ => h_.1))) (Kd.R_base ho139) hb); have n1_ := Aside0.mk (Kd.R_below (by (with_reducible repeat (first | apply Kd.R_alloc | apply Kd.R_drewN | apply Kd.R_drew)); exact (Kd.R_mono (Kd.R_far (p := ⟨gb227, 2, none⟩) (Kd.R_types HO_198004.out BK227.out (by decide)) (fun _ hk => hk.2) (.slice Ao135 y230.length co135)) (fun _ h_ => h_.1))) hb); have n2_ := Aside0.mk (Kd.R_elder' (by (with_reducible repeat (first | apply Kd.R_alloc | apply Kd.R_drewN | apply Kd.R_drew)); exact (Kd.R_mono (Kd.R_far (p := ⟨gb227, 2, none⟩) (Kd.R_types HO_221002.out BK227.out (by decide)) (fun _ hk => hk.2) (.slice Ao135 y230.length co135)) (fun _ h_ => h_.1))) (Kd.R_base ho139) hb); have n3_ := Aside0.mk (Kd.V_elder' (by (with_reducible repeat (first | apply Kd.V_alloc | apply Kd.V_drewN | apply Kd.V_drew)); exact (Kd.V_mono (Kd.V_far (p := ⟨gb227, 2, none⟩) (Kd.V_mono HO_221004.out (fun k_ hk => (⟨hk, hk.1.1.2⟩ : _ ∧ k_ ≠ gb227))) (fun _ hk => hk.2) (.slice Ao135 y230.length co135)) (fun _ h_ => h_.1))) (Kd.R_base ho139) hb); have n4_ := Aside0.mk (Kd.R_elder' (by (with_reducible repeat (first | apply Kd.R_alloc | apply Kd.R_drewN | apply Kd.R_drew)); exact (Kd.R_mono (Kd.R_far (p := ⟨gb227, 2, none⟩) (Kd.R_types HO232.out BK227.out (by decide)) (fun _ hk => hk.2) (.slice Ao135 y230.length co135)) (fun _ h_ => h_.1))) (Kd.R_base ho139) hb); have n5_ := Aside0.mk (Kd.R_lower (Kd.R_new' (Kd.R_new' (Kd.R_new' ho139 (Kd.R_lt (by (with_reducible repeat (first | apply Kd.R_alloc | apply Kd.R_drewN | apply Kd.R_drew)); exact (Kd.R_mono (Kd.R_far (p := ⟨gb227, 2, none⟩) (Kd.R_types HO_198002.out BK227.out (by decide)) (fun _ hk => hk.2) (.slice Ao135 y230.length co135)) (fun _ h_ => h_.1))))) (Kd.R_lt (by (with_reducible repeat (first | apply Kd.R_alloc | apply Kd.R_drewN | apply Kd.R_drew)); exact (Kd.R_mono (Kd.R_far (p := ⟨gb227, 2, none⟩) (Kd.R_types HO_221002.out BK227.out (by decide)) (fun _ hk => hk.2) (.slice Ao135 y230.length co135)) (fun _ h_ => h_.1))))) (Kd.R_lt (by (with_reducible repeat (first | apply Kd.R_alloc | apply Kd.R_drewN | apply Kd.R_drew)); exact (Kd.R_mono (Kd.R_far (p := ⟨gb227, 2, none⟩) (Kd.R_types HO232.out BK227.out (by decide)) (fun _ hk => hk.2) (.slice Ao135 y230.length co135)) (fun _ h_ => h_.1))))) (below_size (by repeat (first | (with_reducible first | exact HB.out | apply below_alloc | apply pw_below_drewN | apply below_drew1 | refine below_set ?_ GE183.out | refine below_set ?_ GE184.out | refine below_set ?_ GE197.out | refine below_set ?_ GE220.out | refine below_set ?_ GE227.out | refine below_set ?_ GE228.out) | exact HB.out)))); have n6_ := Aside0.mk (blk_below (g := gb183) (o := .cells #[.string a0_0, .int .i64 a0_1, .slice (some ad229) l0_2.length c0_2, .int .i64 a0_3, .slice A0_4 l0_4.length c0_4, .int .i64 a0_5] 25 (0, 0)) (by (with_reducible repeat (first | refine blk_drewN ?_ _ | refine blk_drew ?_ | refine blk_alloc ?_ _)); refine blk_far ?_ NB183_227.out _; (with_reducible repeat (first | refine blk_drewN ?_ _ | refine blk_drew ?_ | refine blk_alloc ?_ _)); exact BK183.out) hb); have n7_ := Aside0.mk (blk_below (g := gb184) (o := .cells #[.int .i64 a2_0, .int .i64 a2_1, .int .i64 a2_2] 34 (0, 0)) (by (with_reducible repeat (first | refine blk_drewN ?_ _ | refine blk_drew ?_ | refine blk_alloc ?_ _)); refine blk_far ?_ NB184_227.out _; (with_reducible repeat (first | refine blk_drewN ?_ _ | refine blk_drew ?_ | refine blk_alloc ?_ _)); exact BK184.out) hb); have n8_ := Aside0.mk (blk_below (g := gb197) (o := .cells #[.string t187, .int .i64 t188, .slice (some ⟨go99, 0, none⟩) t189.length co29, .int .i64 t192, .slice Ao85 x198004_54.length co85, .int .i64 t196] 25 (0, 0)) (by (with_reducible repeat (first | refine blk_drewN ?_ _ | refine blk_drew ?_ | refine blk_alloc ?_ _)); refine blk_far ?_ NB197_227.out _; (with_reducible repeat (first | refine blk_drewN ?_ _ | refine blk_drew ?_ | refine blk_alloc ?_ _)); exact BK197.out) hb); have n9_ := Aside0.mk (blk_below (g := gb220) (o := .cells #[.string t209, .int .i64 t210, .slice Ao80 t211.length co80, .int .i64 t214, .slice Ao81 t215.length co81, .int .i64 t218] 25 (0, 0)) (by (with_reducible repeat (first | refine blk_drewN ?_ _ | refine blk_drew ?_ | refine blk_alloc ?_ _)); refine blk_far ?_ NB220_227.out _; (with_reducible repeat (first | refine blk_drewN ?_ _ | refine blk_drew ?_ | refine blk_alloc ?_ _)); exact BK220.out) hb); have n10_ := Aside0.mk (blk_below (g := gb227) (o := .cells #[.string a0_0, .int .i64 a0_1, .slice Ao135 y230.length co135, .int .i64 a0_3, .slice A0_4 l0_4.length c0_4, .int .i64 a0_5] 25 (0, 0)) (by (with_reducible repeat (first | refine blk_drewN ?_ _ | refine blk_drew ?_ | refine blk_alloc ?_ _)); refine blk_put (cs := #[.string a0_0, .int .i64 a0_1, .slice (some ad229) l0_2.length c0_2, .int .i64 a0_3, .slice A0_4 l0_4.length c0_4, .int .i64 a0_5]) ?_ 2 _ rfl; (with_reducible repeat (first | refine blk_drewN ?_ _ | refine blk_drew ?_ | refine blk_alloc ?_ _)); exact BK227.out) hb); have n11_ := Aside0.mk (blk_below (g := gb228) (o := .cells #[.string a0_0, .int .i64 a0_1, .slice (some ad229) l0_2.length c0_2, .int .i64 a0_3, .slice A0_4 l0_4.length c0_4, .int .i64 a0_5] 25 (0, 0)) (by (with_reducible repeat (first | refine blk_drewN ?_ _ | refine blk_drew ?_ | refine blk_alloc ?_ _)); refine blk_far ?_ NB228_227.out _; (with_reducible repeat (first | refine blk_drewN ?_ _ | refine blk_drew ?_ | refine blk_alloc ?_ _)); exact BK228.out) hb); have n12_ := Aside0.mk (below_step (by repeat (first | (with_reducible first | exact HB.out | apply below_alloc | apply pw_below_drewN | apply below_drew1 | refine below_set ?_ GE183.out | refine below_set ?_ GE184.out | refine below_set ?_ GE197.out | refine below_set ?_ GE220.out | refine below_set ?_ GE227.out | refine below_set ?_ GE228.out) | exact HB.out)) hb); clear HO_198002; clear HO_198004; clear HO_221002; clear HO_221004; clear HO232; clear BK183; clear BK184; clear BK197; clear BK220; clear BK227; clear BK228; clear HB; have HO_198002 := n0_; have HO_198004 := n1_; have HO_221002 := n2_; have HO_221004 := n3_; have HO232 := n4_; have HO236 := n5_; have BK183 := n6_; have BK184 := n7_; have BK197 := n8_; have BK220 := n9_; have BK227 := n10_; have BK228 := n11_; have HB := n12_; clear n0_ n1_ n2_ n3_ n4_ n5_ n6_ n7_ n8_ n9_ n10_ n11_ n12_; clear hb ho139; obtain ⟨Ao140, co140, eo140⟩ := Kd.R_slice HO236.out; subst eo140; have hcz141_0 : w138.cell? ⟨gb228, 0, none⟩ = some (.string a0_0) := (blk_cell BK228.out 0).trans rfl; have hcz141_1 : w138.cell? ⟨gb228, 1, none⟩ = some (.int .i64 a0_1) := (blk_cell BK228.out 1).trans rfl; have hcz141_2 : w138.cell? ⟨gb228, 2, none⟩ = some (.slice (some ad229) l0_2.length c0_2) := (blk_cell BK228.out 2).trans rfl; have hcz141_3 : w138.cell? ⟨gb228, 3, none⟩ = some (.int .i64 a0_3) := (blk_cell BK228.out 3).trans rfl; have hcz141_4 : w138.cell? ⟨gb228, 4, none⟩ = some (.slice A0_4 l0_4.length c0_4) := (blk_cell BK228.out 4).trans rfl; have hcz141_5 : w138.cell? ⟨gb228, 5, none⟩ = some (.int .i64 a0_5) := (blk_cell BK228.out 5).trans rfl; have hfz141_0 := blk_frozen BK228.out 0; have hfz141_1 := blk_frozen BK228.out 1; have hfz141_2 := blk_frozen BK228.out 2; have hfz141_3 := blk_frozen BK228.out 3; have hfz141_4 := blk_frozen BK228.out 4; have hfz141_5 := blk_frozen BK228.out 5))
      have n0_ : Aside0 (Kd.R k40 40 (w138.setCell ⟨gb228, 2, none⟩ (.slice Ao140 y234.length co140)) w.heap.size (fun k_ => some k_ ≠ (.slice Ao80 t211.length co80 : Value).ownBlock ∧ some k_ ≠ (.slice Ao135 y230.length co135 : Value).ownBlock ∧ some k_ ≠ (.slice Ao140 y234.length co140 : Value).ownBlock) (.slice (some ⟨go99, 0, none⟩) t189.length co29) y226) := ⟨by (with_reducible repeat (first | apply Kd.R_alloc | apply Kd.R_drewN | apply Kd.R_drew)); exact Kd.R_mono (Kd.R_far (p := ⟨gb228, 2, none⟩) (Kd.R_types HO_198002.out BK228.out (by decide)) (fun _ hk => hk.2) (.slice Ao140 y234.length co140)) (fun _ hk => ⟨hk.1.1.1, ⟨hk.1.1.2, hk.1.2⟩⟩)⟩
      have n1_ : Aside0 (Kd.R k37 37 (w138.setCell ⟨gb228, 2, none⟩ (.slice Ao140 y234.length co140)) w.heap.size (fun _ => True) (.slice Ao85 x198004_54.length co85) x198004_54) := ⟨by (with_reducible repeat (first | apply Kd.R_alloc | apply Kd.R_drewN | apply Kd.R_drew)); exact Kd.R_mono (Kd.R_far (p := ⟨gb228, 2, none⟩) (Kd.R_types HO_198004.out BK228.out (by decide)) (fun _ hk => hk.2) (.slice Ao140 y234.length co140)) (fun _ hk => trivial)⟩
      have n2_ : Aside0 (Kd.R k40 40 (w138.setCell ⟨gb228, 2, none⟩ (.slice Ao140 y234.length co140)) w.heap.size (fun k_ => some k_ ≠ (.slice (some ⟨go99, 0, none⟩) t189.length co29 : Value).ownBlock ∧ some k_ ≠ (.slice Ao135 y230.length co135 : Value).ownBlock ∧ some k_ ≠ (.slice Ao140 y234.length co140 : Value).ownBlock) (.slice Ao80 t211.length co80) t211) := ⟨by (with_reducible repeat (first | apply Kd.R_alloc | apply Kd.R_drewN | apply Kd.R_drew)); exact Kd.R_mono (Kd.R_far (p := ⟨gb228, 2, none⟩) (Kd.R_types HO_221002.out BK228.out (by decide)) (fun _ hk => hk.2) (.slice Ao140 y234.length co140)) (fun _ hk => ⟨hk.1.1.1, ⟨hk.1.1.2, hk.1.2⟩⟩)⟩
      have n3_ : Aside0 (Kd.V k37 37 (w138.setCell ⟨gb228, 2, none⟩ (.slice Ao140 y234.length co140)) w.heap.size (fun k_ => some k_ ≠ (.slice (some ⟨go99, 0, none⟩) t189.length co29 : Value).ownBlock ∧ some k_ ≠ (.slice Ao85 x198004_54.length co85 : Value).ownBlock ∧ some k_ ≠ (.slice Ao80 t211.length co80 : Value).ownBlock ∧ some k_ ≠ (.slice Ao135 y230.length co135 : Value).ownBlock ∧ some k_ ≠ (.slice Ao140 y234.length co140 : Value).ownBlock ∧ k_ ≠ gb183 ∧ k_ ≠ gb184 ∧ k_ ≠ gb197 ∧ k_ ≠ gb220 ∧ k_ ≠ gb227 ∧ k_ ≠ gb228) (.slice Ao81 t215.length co81) t215) := ⟨by (with_reducible repeat (first | apply Kd.V_alloc | apply Kd.V_drewN | apply Kd.V_drew)); exact Kd.V_mono (Kd.V_far (p := ⟨gb228, 2, none⟩) (Kd.V_mono HO_221004.out (fun k_ hk => (⟨hk, hk.1.1.2⟩ : _ ∧ k_ ≠ gb228))) (fun _ hk => hk.2) (.slice Ao140 y234.length co140)) (fun _ hk => ⟨hk.1.1.1.1.1.1, ⟨hk.1.1.1.1.1.2.1, ⟨hk.1.1.1.1.1.2.2.1, ⟨hk.1.1.2, ⟨hk.1.2, ⟨hk.1.1.1.1.1.2.2.2.1, ⟨hk.1.1.1.1.1.2.2.2.2.1, ⟨hk.1.1.1.1.1.2.2.2.2.2.1, ⟨hk.1.1.1.1.1.2.2.2.2.2.2, ⟨hk.1.1.1.1.2, hk.1.1.1.2⟩⟩⟩⟩⟩⟩⟩⟩⟩⟩)⟩
      have n4_ : Aside0 (Kd.R k40 40 (w138.setCell ⟨gb228, 2, none⟩ (.slice Ao140 y234.length co140)) w.heap.size (fun k_ => some k_ ≠ (.slice (some ⟨go99, 0, none⟩) t189.length co29 : Value).ownBlock ∧ some k_ ≠ (.slice Ao80 t211.length co80 : Value).ownBlock ∧ some k_ ≠ (.slice Ao140 y234.length co140 : Value).ownBlock) (.slice Ao135 y230.length co135) y230) := ⟨by (with_reducible repeat (first | apply Kd.R_alloc | apply Kd.R_drewN | apply Kd.R_drew)); exact Kd.R_mono (Kd.R_far (p := ⟨gb228, 2, none⟩) (Kd.R_types HO232.out BK228.out (by decide)) (fun _ hk => hk.2) (.slice Ao140 y234.length co140)) (fun _ hk => ⟨hk.1.1.1.2, ⟨hk.1.1.2, hk.1.2⟩⟩)⟩
      have n5_ : Aside0 (Kd.R k40 40 (w138.setCell ⟨gb228, 2, none⟩ (.slice Ao140 y234.length co140)) w.heap.size (fun k_ => some k_ ≠ (.slice (some ⟨go99, 0, none⟩) t189.length co29 : Value).ownBlock ∧ some k_ ≠ (.slice Ao80 t211.length co80 : Value).ownBlock ∧ some k_ ≠ (.slice Ao135 y230.length co135 : Value).ownBlock) (.slice Ao140 y234.length co140) y234) := ⟨by (with_reducible repeat (first | apply Kd.R_alloc | apply Kd.R_drewN | apply Kd.R_drew)); exact Kd.R_mono (Kd.R_far (p := ⟨gb228, 2, none⟩) (Kd.R_types HO236.out BK228.out (by decide)) (fun _ hk => hk.2) (.slice Ao140 y234.length co140)) (fun _ hk => ⟨hk.1.1.1.2, ⟨hk.1.1.2, hk.1.2⟩⟩)⟩
      have n6_ : Aside0 ((w138.setCell ⟨gb228, 2, none⟩ (.slice Ao140 y234.length co140)).heap[gb183]? = some (.cells #[.string a0_0, .int .i64 a0_1, .slice (some ad229) l0_2.length c0_2, .int .i64 a0_3, .slice A0_4 l0_4.length c0_4, .int .i64 a0_5] 25 (0, 0))) := ⟨by (with_reducible repeat (first | refine blk_drewN ?_ _ | refine blk_drew ?_ | refine blk_alloc ?_ _)); refine blk_far ?_ NB183_228.out _; (with_reducible repeat (first | refine blk_drewN ?_ _ | refine blk_drew ?_ | refine blk_alloc ?_ _)); exact BK183.out⟩
      have n7_ : Aside0 ((w138.setCell ⟨gb228, 2, none⟩ (.slice Ao140 y234.length co140)).heap[gb184]? = some (.cells #[.int .i64 a2_0, .int .i64 a2_1, .int .i64 a2_2] 34 (0, 0))) := ⟨by (with_reducible repeat (first | refine blk_drewN ?_ _ | refine blk_drew ?_ | refine blk_alloc ?_ _)); refine blk_far ?_ NB184_228.out _; (with_reducible repeat (first | refine blk_drewN ?_ _ | refine blk_drew ?_ | refine blk_alloc ?_ _)); exact BK184.out⟩
      have n8_ : Aside0 ((w138.setCell ⟨gb228, 2, none⟩ (.slice Ao140 y234.length co140)).heap[gb197]? = some (.cells #[.string t187, .int .i64 t188, .slice (some ⟨go99, 0, none⟩) t189.length co29, .int .i64 t192, .slice Ao85 x198004_54.length co85, .int .i64 t196] 25 (0, 0))) := ⟨by (with_reducible repeat (first | refine blk_drewN ?_ _ | refine blk_drew ?_ | refine blk_alloc ?_ _)); refine blk_far ?_ NB197_228.out _; (with_reducible repeat (first | refine blk_drewN ?_ _ | refine blk_drew ?_ | refine blk_alloc ?_ _)); exact BK197.out⟩
      have n9_ : Aside0 ((w138.setCell ⟨gb228, 2, none⟩ (.slice Ao140 y234.length co140)).heap[gb220]? = some (.cells #[.string t209, .int .i64 t210, .slice Ao80 t211.length co80, .int .i64 t214, .slice Ao81 t215.length co81, .int .i64 t218] 25 (0, 0))) := ⟨by (with_reducible repeat (first | refine blk_drewN ?_ _ | refine blk_drew ?_ | refine blk_alloc ?_ _)); refine blk_far ?_ NB220_228.out _; (with_reducible repeat (first | refine blk_drewN ?_ _ | refine blk_drew ?_ | refine blk_alloc ?_ _)); exact BK220.out⟩
      have n10_ : Aside0 ((w138.setCell ⟨gb228, 2, none⟩ (.slice Ao140 y234.length co140)).heap[gb227]? = some (.cells #[.string a0_0, .int .i64 a0_1, .slice Ao135 y230.length co135, .int .i64 a0_3, .slice A0_4 l0_4.length c0_4, .int .i64 a0_5] 25 (0, 0))) := ⟨by (with_reducible repeat (first | refine blk_drewN ?_ _ | refine blk_drew ?_ | refine blk_alloc ?_ _)); refine blk_far ?_ NB227_228.out _; (with_reducible repeat (first | refine blk_drewN ?_ _ | refine blk_drew ?_ | refine blk_alloc ?_ _)); exact BK227.out⟩
      have n11_ : Aside0 ((w138.setCell ⟨gb228, 2, none⟩ (.slice Ao140 y234.length co140)).heap[gb228]? = some (.cells #[.string a0_0, .int .i64 a0_1, .slice Ao140 y234.length co140, .int .i64 a0_3, .slice A0_4 l0_4.length c0_4, .int .i64 a0_5] 25 (0, 0))) := ⟨by (with_reducible repeat (first | refine blk_drewN ?_ _ | refine blk_drew ?_ | refine blk_alloc ?_ _)); refine blk_put (cs := #[.string a0_0, .int .i64 a0_1, .slice (some ad229) l0_2.length c0_2, .int .i64 a0_3, .slice A0_4 l0_4.length c0_4, .int .i64 a0_5]) ?_ 2 _ rfl; (with_reducible repeat (first | refine blk_drewN ?_ _ | refine blk_drew ?_ | refine blk_alloc ?_ _)); exact BK228.out⟩
      have n12_ : Aside0 (Below w.heap.size w (w138.setCell ⟨gb228, 2, none⟩ (.slice Ao140 y234.length co140))) := ⟨by repeat (first | (with_reducible first | exact HB.out | apply below_alloc | apply pw_below_drewN | apply below_drew1 | refine below_set ?_ GE183.out | refine below_set ?_ GE184.out | refine below_set ?_ GE197.out | refine below_set ?_ GE220.out | refine below_set ?_ GE227.out | refine below_set ?_ GE228.out) | exact HB.out)⟩
      (try clear HO_198002)
      (try clear HO_198004)
      (try clear HO_221002)
      (try clear HO_221004)
      (try clear HO232)
      (try clear HO236)
      (try clear BK183)
      (try clear BK184)
      (try clear BK197)
      (try clear BK220)
      (try clear BK227)
      (try clear BK228)
      (try clear HB)
      generalize (w138.setCell ⟨gb228, 2, none⟩ (.slice Ao140 y234.length co140)) = w142 at n0_ n1_ n2_ n3_ n4_ n5_ n6_ n7_ n8_ n9_ n10_ n11_ n12_ ⊢
      have HO_198002 := n0_
      have HO_198004 := n1_
      have HO_221002 := n2_
      have HO_221004 := n3_
      have HO232 := n4_
      have HO236 := n5_
      have BK183 := n6_
      have BK184 := n7_
      have BK197 := n8_
      have BK220 := n9_
      have BK227 := n10_
      have BK228 := n11_
      have HB := n12_
      clear n0_ n1_ n2_ n3_ n4_ n5_ n6_ n7_ n8_ n9_ n10_ n11_ n12_
      have n0_ := Aside0.mk (Kd.R_drew HO_198002.out)
      have n1_ := Aside0.mk (Kd.R_drew HO_198004.out)
      have n2_ := Aside0.mk (Kd.R_drew HO_221002.out)
      have n3_ := Aside0.mk (Kd.V_drew HO_221004.out)
      have n4_ := Aside0.mk (Kd.R_drew HO232.out)
      have n5_ := Aside0.mk (Kd.R_drew HO236.out)
      have n6_ := Aside0.mk (blk_drew BK183.out)
      have n7_ := Aside0.mk (blk_drew BK184.out)
      have n8_ := Aside0.mk (blk_drew BK197.out)
      have n9_ := Aside0.mk (blk_drew BK220.out)
      have n10_ := Aside0.mk (blk_drew BK227.out)
      have n11_ := Aside0.mk (blk_drew BK228.out)
      have n12_ := Aside0.mk (below_drew1 HB.out)
      clear HO_198002
      clear HO_198004
      clear HO_221002
      clear HO_221004
      clear HO232
      clear HO236
      clear BK183
      clear BK184
      clear BK197
      clear BK220
      clear BK227
      clear BK228
      clear HB
      have HO_198002 := n0_
      have HO_198004 := n1_
      have HO_221002 := n2_
      have HO_221004 := n3_
      have HO232 := n4_
      have HO236 := n5_
      have BK183 := n6_
      have BK184 := n7_
      have BK197 := n8_
      have BK220 := n9_
      have BK227 := n10_
      have BK228 := n11_
      have HB := n12_
      clear n0_ n1_ n2_ n3_ n4_ n5_ n6_ n7_ n8_ n9_ n10_ n11_ n12_
      refine start_ (n := 11) (S := fun w' => w'.cell? ⟨gb183, 0, none⟩ = some (.string a0_0) ∧ w'.cell? ⟨gb183, 1, none⟩ = some (.int .i64 a0_1) ∧ w'.cell? ⟨gb183, 2, none⟩ = some (.slice (some ad229) l0_2.length c0_2) ∧ w'.cell? ⟨gb183, 3, none⟩ = some (.int .i64 a0_3) ∧ w'.cell? ⟨gb183, 4, none⟩ = some (.slice A0_4 l0_4.length c0_4) ∧ w'.cell? ⟨gb183, 5, none⟩ = some (.int .i64 a0_5) ∧ w'.cell? ⟨gb197, 0, none⟩ = some (.string t187) ∧ w'.cell? ⟨gb197, 1, none⟩ = some (.int .i64 t188) ∧ w'.cell? ⟨gb197, 2, none⟩ = some (.slice (some ⟨go99, 0, none⟩) t189.length co29) ∧ w'.cell? ⟨gb197, 3, none⟩ = some (.int .i64 t192) ∧ w'.cell? ⟨gb197, 4, none⟩ = some (.slice Ao85 x198004_54.length co85) ∧ w'.cell? ⟨gb197, 5, none⟩ = some (.int .i64 t196) ∧ w'.cell? ⟨gb227, 0, none⟩ = some (.string a0_0) ∧ w'.cell? ⟨gb227, 1, none⟩ = some (.int .i64 a0_1) ∧ w'.cell? ⟨gb227, 2, none⟩ = some (.slice Ao135 y230.length co135) ∧ w'.cell? ⟨gb227, 3, none⟩ = some (.int .i64 a0_3) ∧ w'.cell? ⟨gb227, 4, none⟩ = some (.slice A0_4 l0_4.length c0_4) ∧ w'.cell? ⟨gb227, 5, none⟩ = some (.int .i64 a0_5) ∧ w'.cell? ⟨gb228, 0, none⟩ = some (.string a0_0) ∧ w'.cell? ⟨gb228, 1, none⟩ = some (.int .i64 a0_1) ∧ w'.cell? ⟨gb228, 2, none⟩ = some (.slice Ao140 y234.length co140) ∧ w'.cell? ⟨gb228, 3, none⟩ = some (.int .i64 a0_3) ∧ w'.cell? ⟨gb228, 4, none⟩ = some (.slice A0_4 l0_4.length c0_4) ∧ w'.cell? ⟨gb228, 5, none⟩ = some (.int .i64 a0_5)) (ds := []) #[false,false,false,false,false,false,false,false,false,false,false] (by kernel_rfl) rfl rfl ⟨(blk_cell BK183.out 0).trans rfl, (blk_cell BK183.out 1).trans rfl, (blk_cell BK183.out 2).trans rfl, (blk_cell BK183.out 3).trans rfl, (blk_cell BK183.out 4).trans rfl, (blk_cell BK183.out 5).trans rfl, (blk_cell BK197.out 0).trans rfl, (blk_cell BK197.out 1).trans rfl, (blk_cell BK197.out 2).trans rfl, (blk_cell BK197.out 3).trans rfl, (blk_cell BK197.out 4).trans rfl, (blk_cell BK197.out 5).trans rfl, (blk_cell BK227.out 0).trans rfl, (blk_cell BK227.out 1).trans rfl, (blk_cell BK227.out 2).trans rfl, (blk_cell BK227.out 3).trans rfl, (blk_cell BK227.out 4).trans rfl, (blk_cell BK227.out 5).trans rfl, (blk_cell BK228.out 0).trans rfl, (blk_cell BK228.out 1).trans rfl, (blk_cell BK228.out 2).trans rfl, (blk_cell BK228.out 3).trans rfl, (blk_cell BK228.out 4).trans rfl, (blk_cell BK228.out 5).trans rfl⟩ (fun hHeld => ?_); refine with_tabW forebaylaw07_MetricTags.tab28 forebaylaw07_MetricTags.bits28 (fun HT_ HW_ => ?_)
      generalize w142.drew = w143 at HO_198002 HO_198004 HO_221002 HO_221004 HO232 HO236 BK183 BK184 BK197 BK220 BK227 BK228 HB hHeld ⊢
      refine take_ (i := 0) (N := some 181) (v := ?_) (a' := ?_) #[true,false,false,false,false,false,false,false,false,false,false] rfl rfl (take_ofW HT_.out HW_.out (by kernel_rfl)) (fun _ _ _ h => h) (Or.inl ⟨by rfl, ?_⟩) hHeld ?_ ?_
      rotate_left
      ·rintro w' ⟨s0, s1, s2, s3, s4, s5, s6, s7, s8, s9, s10, s11, s12, s13, s14, s15, s16, s17, s18, s19, s20, s21, s22, s23⟩
       go_simp
       with_reducible rfl
      rotate_left
      ·simp only [Act.put, List.setIfInBounds_toArray, List.set_cons_zero, List.set_cons_succ, i64_w, i32_w]
       rfl
      refine take_ (i := 1) (N := some 182) (v := ?_) (a' := ?_) #[true,true,false,false,false,false,false,false,false,false,false] rfl rfl (take_ofW HT_.out HW_.out (by kernel_rfl)) (fun _ _ _ h => h) (Or.inl ⟨by rfl, ?_⟩) hHeld ?_ ?_
      rotate_left
      ·rintro w' ⟨s0, s1, s2, s3, s4, s5, s6, s7, s8, s9, s10, s11, s12, s13, s14, s15, s16, s17, s18, s19, s20, s21, s22, s23⟩
       go_simp
       with_reducible rfl
      rotate_left
      ·simp only [Act.put, List.setIfInBounds_toArray, List.set_cons_zero, List.set_cons_succ, i64_w, i32_w]
       rfl
      refine take_ (i := 3) (N := some 184) (v := ?_) (a' := ?_) #[true,true,false,true,false,false,false,false,false,false,false] rfl rfl (take_ofW HT_.out HW_.out (by kernel_rfl)) (fun _ _ _ h => h) (Or.inl ⟨by rfl, ?_⟩) hHeld ?_ ?_
      rotate_left
      ·rintro w' ⟨s0, s1, s2, s3, s4, s5, s6, s7, s8, s9, s10, s11, s12, s13, s14, s15, s16, s17, s18, s19, s20, s21, s22, s23⟩
       go_simp
       with_reducible rfl
      rotate_left
      ·simp only [Act.put, List.setIfInBounds_toArray, List.set_cons_zero, List.set_cons_succ, i64_w, i32_w]
       rfl
      refine take_ (i := 4) (N := some 185) (v := ?_) (a' := ?_) #[true,true,false,true,true,false,false,false,false,false,false] rfl rfl (take_ofW HT_.out HW_.out (by kernel_rfl)) (fun _ _ _ h => h) (Or.inl ⟨by rfl, ?_⟩) hHeld ?_ ?_
      rotate_left
      ·rintro w' ⟨s0, s1, s2, s3, s4, s5, s6, s7, s8, s9, s10, s11, s12, s13, s14, s15, s16, s17, s18, s19, s20, s21, s22, s23⟩
       go_simp
       with_reducible rfl
      rotate_left
      ·simp only [Act.put, List.setIfInBounds_toArray, List.set_cons_zero, List.set_cons_succ, i64_w, i32_w]
       rfl
      refine one_ (i := 2) (N := some 183) #[true,true,true,true,true,false,false,false,false,false,false] rfl rfl (one_of HT_.out (by kernel_rfl)) (by decide) (fun K hK => ?_)
      refine goes_ Try.func23 (by kernel_rfl) rfl #[.agg #[.string a0_0, .int .i64 a0_1, .slice (some ad229) l0_2.length c0_2, .int .i64 a0_3, .slice A0_4 l0_4.length c0_4, .int .i64 a0_5], .agg #[.string t187, .int .i64 t188, .slice (some ⟨go99, 0, none⟩) y226.length co29, .int .i64 t192, .slice Ao85 x198004_54.length co85, .int .i64 t196]] (by rfl) rfl rfl (by (try simp only [List.map_toArray, List.map_cons, List.map_nil]); first | done | (rw [show y226.length = t189.length from (Kd.R_reads' HO_198002.out).1.symm] <;> rfl) | rfl | (simp only [List.length_drop, List.length_take]; rfl)) ?_
      with_reducible refine (metric_Same.calls kj69 a0_0 a0_1 _ _ l0_2 a0_3 _ _ l0_4 a0_5 t187 t188 _ _ y226 t192 _ _ x198004_54 t196 t237 _ ?side1 ?side2 ?side3 ?side4 ?side5 ?side6 ?side7 ?side8 A103.out).mono ?_
      (case side1 => repeat (first | exact (Kd.C_below HR0_2.out HB.out) | (with_reducible refine Kd.C_alloc ?_ _) | (with_reducible refine Kd.C_drewN ?_ _) | (with_reducible refine Kd.C_drew ?_)))
      (case side2 => exact HC0_2.out)
      (case side3 => repeat (first | exact (Kd.C_below HR0_4.out HB.out) | (with_reducible refine Kd.C_alloc ?_ _) | (with_reducible refine Kd.C_drewN ?_ _) | (with_reducible refine Kd.C_drew ?_)))
      (case side4 => exact HC0_4.out)
      (case side5 => repeat (first | exact (Kd.R_reads' HO_198002.out).2.2 | (with_reducible refine Kd.C_alloc ?_ _) | (with_reducible refine Kd.C_drewN ?_ _) | (with_reducible refine Kd.C_drew ?_)))
      (case side6 => rw [show y226.length = t189.length from (Kd.R_reads' HO_198002.out).1.symm]; exact (Kd.R_reads' HO_198002.out).2.1)
      (case side7 => repeat (first | exact (Kd.R_reads' HO_198004.out).2.2 | (with_reducible refine Kd.C_alloc ?_ _) | (with_reducible refine Kd.C_drewN ?_ _) | (with_reducible refine Kd.C_drew ?_)))
      (case side8 => exact (Kd.R_reads' HO_198004.out).2.1)
      rintro e w144 ⟨rfl, hb⟩
      refine ⟨_, rfl, ?_⟩
      have n0_ := Aside0.mk (Kd.R_below (by (with_reducible repeat (first | apply Kd.R_alloc | apply Kd.R_drewN | apply Kd.R_drew)); exact HO_198002.out) hb)
      have n1_ := Aside0.mk (Kd.R_below (by (with_reducible repeat (first | apply Kd.R_alloc | apply Kd.R_drewN | apply Kd.R_drew)); exact HO_198004.out) hb)
      have n2_ := Aside0.mk (Kd.R_below (by (with_reducible repeat (first | apply Kd.R_alloc | apply Kd.R_drewN | apply Kd.R_drew)); exact HO_221002.out) hb)
      have n3_ := Aside0.mk (Kd.V_below (by (with_reducible repeat (first | apply Kd.V_alloc | apply Kd.V_drewN | apply Kd.V_drew)); exact HO_221004.out) hb)
      have n4_ := Aside0.mk (Kd.R_below (by (with_reducible repeat (first | apply Kd.R_alloc | apply Kd.R_drewN | apply Kd.R_drew)); exact HO232.out) hb)
      have n5_ := Aside0.mk (Kd.R_below (by (with_reducible repeat (first | apply Kd.R_alloc | apply Kd.R_drewN | apply Kd.R_drew)); exact HO236.out) hb)
      have n6_ := Aside0.mk (blk_below (g := gb183) (o := .cells #[.string a0_0, .int .i64 a0_1, .slice (some ad229) l0_2.length c0_2, .int .i64 a0_3, .slice A0_4 l0_4.length c0_4, .int .i64 a0_5] 25 (0, 0)) (by (with_reducible repeat (first | refine blk_drewN ?_ _ | refine blk_drew ?_ | refine blk_alloc ?_ _)); exact BK183.out) hb)
      have n7_ := Aside0.mk (blk_below (g := gb184) (o := .cells #[.int .i64 a2_0, .int .i64 a2_1, .int .i64 a2_2] 34 (0, 0)) (by (with_reducible repeat (first | refine blk_drewN ?_ _ | refine blk_drew ?_ | refine blk_alloc ?_ _)); exact BK184.out) hb)
      have n8_ := Aside0.mk (blk_below (g := gb197) (o := .cells #[.string t187, .int .i64 t188, .slice (some ⟨go99, 0, none⟩) t189.length co29, .int .i64 t192, .slice Ao85 x198004_54.length co85, .int .i64 t196] 25 (0, 0)) (by (with_reducible repeat (first | refine blk_drewN ?_ _ | refine blk_drew ?_ | refine blk_alloc ?_ _)); exact BK197.out) hb)
      have n9_ := Aside0.mk (blk_below (g := gb220) (o := .cells #[.string t209, .int .i64 t210, .slice Ao80 t211.length co80, .int .i64 t214, .slice Ao81 t215.length co81, .int .i64 t218] 25 (0, 0)) (by (with_reducible repeat (first | refine blk_drewN ?_ _ | refine blk_drew ?_ | refine blk_alloc ?_ _)); exact BK220.out) hb)
      have n10_ := Aside0.mk (blk_below (g := gb227) (o := .cells #[.string a0_0, .int .i64 a0_1, .slice Ao135 y230.length co135, .int .i64 a0_3, .slice A0_4 l0_4.length c0_4, .int .i64 a0_5] 25 (0, 0)) (by (with_reducible repeat (first | refine blk_drewN ?_ _ | refine blk_drew ?_ | refine blk_alloc ?_ _)); exact BK227.out) hb)
      have n11_ := Aside0.mk (blk_below (g := gb228) (o := .cells #[.string a0_0, .int .i64 a0_1, .slice Ao140 y234.length co140, .int .i64 a0_3, .slice A0_4 l0_4.length c0_4, .int .i64 a0_5] 25 (0, 0)) (by (with_reducible repeat (first | refine blk_drewN ?_ _ | refine blk_drew ?_ | refine blk_alloc ?_ _)); exact BK228.out) hb)
      have n12_ := Aside0.mk (below_step (by repeat (first | (with_reducible first | exact HB.out | apply below_alloc | apply pw_below_drewN | apply below_drew1 | refine below_set ?_ GE183.out | refine below_set ?_ GE184.out | refine below_set ?_ GE197.out | refine below_set ?_ GE220.out | refine below_set ?_ GE227.out | refine below_set ?_ GE228.out) | exact HB.out)) hb)
      clear HO_198002
      clear HO_198004
      clear HO_221002
      clear HO_221004
      clear HO232
      clear HO236
      clear BK183
      clear BK184
      clear BK197
      clear BK220
      clear BK227
      clear BK228
      clear HB
      have HO_198002 := n0_
      have HO_198004 := n1_
      have HO_221002 := n2_
      have HO_221004 := n3_
      have HO232 := n4_
      have HO236 := n5_
      have BK183 := n6_
      have BK184 := n7_
      have BK197 := n8_
      have BK220 := n9_
      have BK227 := n10_
      have BK228 := n11_
      have HB := n12_
      clear n0_ n1_ n2_ n3_ n4_ n5_ n6_ n7_ n8_ n9_ n10_ n11_ n12_
      (try clear hb)
      (try clear hb2)
      (try clear hk)
      (try clear hi)
      refine hK.out _ _ ⟨(blk_cell BK183.out 0).trans rfl, (blk_cell BK183.out 1).trans rfl, (blk_cell BK183.out 2).trans rfl, (blk_cell BK183.out 3).trans rfl, (blk_cell BK183.out 4).trans rfl, (blk_cell BK183.out 5).trans rfl, (blk_cell BK197.out 0).trans rfl, (blk_cell BK197.out 1).trans rfl, (blk_cell BK197.out 2).trans rfl, (blk_cell BK197.out 3).trans rfl, (blk_cell BK197.out 4).trans rfl, (blk_cell BK197.out 5).trans rfl, (blk_cell BK227.out 0).trans rfl, (blk_cell BK227.out 1).trans rfl, (blk_cell BK227.out 2).trans rfl, (blk_cell BK227.out 3).trans rfl, (blk_cell BK227.out 4).trans rfl, (blk_cell BK227.out 5).trans rfl, (blk_cell BK228.out 0).trans rfl, (blk_cell BK228.out 1).trans rfl, (blk_cell BK228.out 2).trans rfl, (blk_cell BK228.out 3).trans rfl, (blk_cell BK228.out 4).trans rfl, (blk_cell BK228.out 5).trans rfl⟩ (fun hHeld => ?_)
      clear hK K
      refine norm_ (a' := ?_) ?_ ?_
      rotate_left
      ·show Act.put _ (some 183) _ = _
       simp only [Act.put, List.setIfInBounds_toArray, List.set_cons_zero, List.set_cons_succ, i64_w, i32_w]
       rfl
      refine one_ (i := 5) (N := some 186) #[true,true,true,true,true,true,false,false,false,false,false] rfl rfl (one_of HT_.out (by kernel_rfl)) (by decide) (fun K hK => ?_)
      refine goes_ Try.func23 (by kernel_rfl) rfl #[.agg #[.string a0_0, .int .i64 a0_1, .slice Ao135 y230.length co135, .int .i64 a0_3, .slice A0_4 l0_4.length c0_4, .int .i64 a0_5], .agg #[.string a0_0, .int .i64 a0_1, .slice Ao140 y234.length co140, .int .i64 a0_3, .slice A0_4 l0_4.length c0_4, .int .i64 a0_5]] (by rfl) rfl rfl (by (try simp only [List.map_toArray, List.map_cons, List.map_nil]); first | done | rfl | (simp only [List.length_drop, List.length_take]; rfl)) ?_
      with_reducible refine (metric_Same.calls kj69 a0_0 a0_1 _ _ y230 a0_3 _ _ l0_4 a0_5 a0_0 a0_1 _ _ y234 a0_3 _ _ l0_4 a0_5 t238 _ ?side1 ?side2 ?side3 ?side4 ?side5 ?side6 ?side7 ?side8 A104.out).mono ?_
      (case side1 => repeat (first | exact (Kd.R_reads' HO232.out).2.2 | (with_reducible refine Kd.C_alloc ?_ _) | (with_reducible refine Kd.C_drewN ?_ _) | (with_reducible refine Kd.C_drew ?_)))
      (case side2 => exact (Kd.R_reads' HO232.out).2.1)
      (case side3 => repeat (first | exact (Kd.C_below HR0_4.out HB.out) | (with_reducible refine Kd.C_alloc ?_ _) | (with_reducible refine Kd.C_drewN ?_ _) | (with_reducible refine Kd.C_drew ?_)))
      (case side4 => exact HC0_4.out)
      (case side5 => repeat (first | exact (Kd.R_reads' HO236.out).2.2 | (with_reducible refine Kd.C_alloc ?_ _) | (with_reducible refine Kd.C_drewN ?_ _) | (with_reducible refine Kd.C_drew ?_)))
      (case side6 => exact (Kd.R_reads' HO236.out).2.1)
      (case side7 => repeat (first | exact (Kd.C_below HR0_4.out HB.out) | (with_reducible refine Kd.C_alloc ?_ _) | (with_reducible refine Kd.C_drewN ?_ _) | (with_reducible refine Kd.C_drew ?_)))
      (case side8 => exact HC0_4.out)
      rintro e w145 ⟨rfl, hb⟩
      refine ⟨_, rfl, ?_⟩
      have n0_ := Aside0.mk (Kd.R_below (by (with_reducible repeat (first | apply Kd.R_alloc | apply Kd.R_drewN | apply Kd.R_drew)); exact HO_198002.out) hb)
      have n1_ := Aside0.mk (Kd.R_below (by (with_reducible repeat (first | apply Kd.R_alloc | apply Kd.R_drewN | apply Kd.R_drew)); exact HO_198004.out) hb)
      have n2_ := Aside0.mk (Kd.R_below (by (with_reducible repeat (first | apply Kd.R_alloc | apply Kd.R_drewN | apply Kd.R_drew)); exact HO_221002.out) hb)
      have n3_ := Aside0.mk (Kd.V_below (by (with_reducible repeat (first | apply Kd.V_alloc | apply Kd.V_drewN | apply Kd.V_drew)); exact HO_221004.out) hb)
      have n4_ := Aside0.mk (Kd.R_below (by (with_reducible repeat (first | apply Kd.R_alloc | apply Kd.R_drewN | apply Kd.R_drew)); exact HO232.out) hb)
      have n5_ := Aside0.mk (Kd.R_below (by (with_reducible repeat (first | apply Kd.R_alloc | apply Kd.R_drewN | apply Kd.R_drew)); exact HO236.out) hb)
      have n6_ := Aside0.mk (blk_below (g := gb183) (o := .cells #[.string a0_0, .int .i64 a0_1, .slice (some ad229) l0_2.length c0_2, .int .i64 a0_3, .slice A0_4 l0_4.length c0_4, .int .i64 a0_5] 25 (0, 0)) (by (with_reducible repeat (first | refine blk_drewN ?_ _ | refine blk_drew ?_ | refine blk_alloc ?_ _)); exact BK183.out) hb)
      have n7_ := Aside0.mk (blk_below (g := gb184) (o := .cells #[.int .i64 a2_0, .int .i64 a2_1, .int .i64 a2_2] 34 (0, 0)) (by (with_reducible repeat (first | refine blk_drewN ?_ _ | refine blk_drew ?_ | refine blk_alloc ?_ _)); exact BK184.out) hb)
      have n8_ := Aside0.mk (blk_below (g := gb197) (o := .cells #[.string t187, .int .i64 t188, .slice (some ⟨go99, 0, none⟩) t189.length co29, .int .i64 t192, .slice Ao85 x198004_54.length co85, .int .i64 t196] 25 (0, 0)) (by (with_reducible repeat (first | refine blk_drewN ?_ _ | refine blk_drew ?_ | refine blk_alloc ?_ _)); exact BK197.out) hb)
      have n9_ := Aside0.mk (blk_below (g := gb220) (o := .cells #[.string t209, .int .i64 t210, .slice Ao80 t211.length co80, .int .i64 t214, .slice Ao81 t215.length co81, .int .i64 t218] 25 (0, 0)) (by (with_reducible repeat (first | refine blk_drewN ?_ _ | refine blk_drew ?_ | refine blk_alloc ?_ _)); exact BK220.out) hb)
      have n10_ := Aside0.mk (blk_below (g := gb227) (o := .cells #[.string a0_0, .int .i64 a0_1, .slice Ao135 y230.length co135, .int .i64 a0_3, .slice A0_4 l0_4.length c0_4, .int .i64 a0_5] 25 (0, 0)) (by (with_reducible repeat (first | refine blk_drewN ?_ _ | refine blk_drew ?_ | refine blk_alloc ?_ _)); exact BK227.out) hb)
      have n11_ := Aside0.mk (blk_below (g := gb228) (o := .cells #[.string a0_0, .int .i64 a0_1, .slice Ao140 y234.length co140, .int .i64 a0_3, .slice A0_4 l0_4.length c0_4, .int .i64 a0_5] 25 (0, 0)) (by (with_reducible repeat (first | refine blk_drewN ?_ _ | refine blk_drew ?_ | refine blk_alloc ?_ _)); exact BK228.out) hb)
      have n12_ := Aside0.mk (below_step (by repeat (first | (with_reducible first | exact HB.out | apply below_alloc | apply pw_below_drewN | apply below_drew1 | refine below_set ?_ GE183.out | refine below_set ?_ GE184.out | refine below_set ?_ GE197.out | refine below_set ?_ GE220.out | refine below_set ?_ GE227.out | refine below_set ?_ GE228.out) | exact HB.out)) hb)
      clear HO_198002
      clear HO_198004
      clear HO_221002
      clear HO_221004
      clear HO232
      clear HO236
      clear BK183
      clear BK184
      clear BK197
      clear BK220
      clear BK227
      clear BK228
      clear HB
      have HO_198002 := n0_
      have HO_198004 := n1_
      have HO_221002 := n2_
      have HO_221004 := n3_
      have HO232 := n4_
      have HO236 := n5_
      have BK183 := n6_
      have BK184 := n7_
      have BK197 := n8_
      have BK220 := n9_
      have BK227 := n10_
      have BK228 := n11_
      have HB := n12_
      clear n0_ n1_ n2_ n3_ n4_ n5_ n6_ n7_ n8_ n9_ n10_ n11_ n12_
      (try clear hb)
      (try clear hb2)
      (try clear hk)
      (try clear hi)
      refine hK.out _ _ ⟨(blk_cell BK183.out 0).trans rfl, (blk_cell BK183.out 1).trans rfl, (blk_cell BK183.out 2).trans rfl, (blk_cell BK183.out 3).trans rfl, (blk_cell BK183.out 4).trans rfl, (blk_cell BK183.out 5).trans rfl, (blk_cell BK197.out 0).trans rfl, (blk_cell BK197.out 1).trans rfl, (blk_cell BK197.out 2).trans rfl, (blk_cell BK197.out 3).trans rfl, (blk_cell BK197.out 4).trans rfl, (blk_cell BK197.out 5).trans rfl, (blk_cell BK227.out 0).trans rfl, (blk_cell BK227.out 1).trans rfl, (blk_cell BK227.out 2).trans rfl, (blk_cell BK227.out 3).trans rfl, (blk_cell BK227.out 4).trans rfl, (blk_cell BK227.out 5).trans rfl, (blk_cell BK228.out 0).trans rfl, (blk_cell BK228.out 1).trans rfl, (blk_cell BK228.out 2).trans rfl, (blk_cell BK228.out 3).trans rfl, (blk_cell BK228.out 4).trans rfl, (blk_cell BK228.out 5).trans rfl⟩ (fun hHeld => ?_)
      clear hK K
      refine norm_ (a' := ?_) ?_ ?_
      rotate_left
      ·show Act.put _ (some 186) _ = _
       simp only [Act.put, List.setIfInBounds_toArray, List.set_cons_zero, List.set_cons_succ, i64_w, i32_w]
       rfl
      refine pure_ (i := 6) (N := some 187) (v := ?_) (a' := ?_) #[true,true,true,true,true,true,true,false,false,false,false] rfl rfl (any_of HT_.out (by kernel_rfl)) (fun _ _ _ h => h) (Or.inl ⟨by rfl, ?_⟩) ?_ ?_
      rotate_left
      ·intro w'
       go_simp
       with_reducible rfl
      rotate_left
      ·simp only [Act.put, List.setIfInBounds_toArray, List.set_cons_zero, List.set_cons_succ, i64_w, i32_w]
       rfl
      refine pure_ (i := 7) (N := some 188) (v := ?_) (a' := ?_) #[true,true,true,true,true,true,true,true,false,false,false] rfl rfl (any_of HT_.out (by kernel_rfl)) (fun _ _ _ h => h) (Or.inl ⟨by rfl, ?_⟩) ?_ ?_
      rotate_left
      ·intro w'
       go_simp
       with_reducible rfl
      rotate_left
      ·simp only [Act.put, List.setIfInBounds_toArray, List.set_cons_zero, List.set_cons_succ, i64_w, i32_w]
       rfl
      refine one_ (i := 8) (N := some 189) #[true,true,true,true,true,true,true,true,true,false,false] rfl rfl (one_of HT_.out (by kernel_rfl)) (by decide) (fun K hK => ?_)
      refine goes_ Try.func15 (by kernel_rfl) rfl #[] (by rfl) rfl rfl (by (try simp only [List.map_toArray, List.map_cons, List.map_nil]); first | done | rfl | (simp only [List.length_drop, List.length_take]; rfl)) ?_
      with_reducible refine (forebaylaw07_awake.calls kj69  t239 _ A106.out).mono ?_
      rintro e w146 ⟨rfl, hb⟩
      refine ⟨_, rfl, ?_⟩
      have n0_ := Aside0.mk (Kd.R_below (by (with_reducible repeat (first | apply Kd.R_alloc | apply Kd.R_drewN | apply Kd.R_drew)); exact HO_198002.out) hb)
      have n1_ := Aside0.mk (Kd.R_below (by (with_reducible repeat (first | apply Kd.R_alloc | apply Kd.R_drewN | apply Kd.R_drew)); exact HO_198004.out) hb)
      have n2_ := Aside0.mk (Kd.R_below (by (with_reducible repeat (first | apply Kd.R_alloc | apply Kd.R_drewN | apply Kd.R_drew)); exact HO_221002.out) hb)
      have n3_ := Aside0.mk (Kd.V_below (by (with_reducible repeat (first | apply Kd.V_alloc | apply Kd.V_drewN | apply Kd.V_drew)); exact HO_221004.out) hb)
      have n4_ := Aside0.mk (Kd.R_below (by (with_reducible repeat (first | apply Kd.R_alloc | apply Kd.R_drewN | apply Kd.R_drew)); exact HO232.out) hb)
      have n5_ := Aside0.mk (Kd.R_below (by (with_reducible repeat (first | apply Kd.R_alloc | apply Kd.R_drewN | apply Kd.R_drew)); exact HO236.out) hb)
      have n6_ := Aside0.mk (blk_below (g := gb183) (o := .cells #[.string a0_0, .int .i64 a0_1, .slice (some ad229) l0_2.length c0_2, .int .i64 a0_3, .slice A0_4 l0_4.length c0_4, .int .i64 a0_5] 25 (0, 0)) (by (with_reducible repeat (first | refine blk_drewN ?_ _ | refine blk_drew ?_ | refine blk_alloc ?_ _)); exact BK183.out) hb)
      have n7_ := Aside0.mk (blk_below (g := gb184) (o := .cells #[.int .i64 a2_0, .int .i64 a2_1, .int .i64 a2_2] 34 (0, 0)) (by (with_reducible repeat (first | refine blk_drewN ?_ _ | refine blk_drew ?_ | refine blk_alloc ?_ _)); exact BK184.out) hb)
      have n8_ := Aside0.mk (blk_below (g := gb197) (o := .cells #[.string t187, .int .i64 t188, .slice (some ⟨go99, 0, none⟩) t189.length co29, .int .i64 t192, .slice Ao85 x198004_54.length co85, .int .i64 t196] 25 (0, 0)) (by (with_reducible repeat (first | refine blk_drewN ?_ _ | refine blk_drew ?_ | refine blk_alloc ?_ _)); exact BK197.out) hb)
      have n9_ := Aside0.mk (blk_below (g := gb220) (o := .cells #[.string t209, .int .i64 t210, .slice Ao80 t211.length co80, .int .i64 t214, .slice Ao81 t215.length co81, .int .i64 t218] 25 (0, 0)) (by (with_reducible repeat (first | refine blk_drewN ?_ _ | refine blk_drew ?_ | refine blk_alloc ?_ _)); exact BK220.out) hb)
      have n10_ := Aside0.mk (blk_below (g := gb227) (o := .cells #[.string a0_0, .int .i64 a0_1, .slice Ao135 y230.length co135, .int .i64 a0_3, .slice A0_4 l0_4.length c0_4, .int .i64 a0_5] 25 (0, 0)) (by (with_reducible repeat (first | refine blk_drewN ?_ _ | refine blk_drew ?_ | refine blk_alloc ?_ _)); exact BK227.out) hb)
      have n11_ := Aside0.mk (blk_below (g := gb228) (o := .cells #[.string a0_0, .int .i64 a0_1, .slice Ao140 y234.length co140, .int .i64 a0_3, .slice A0_4 l0_4.length c0_4, .int .i64 a0_5] 25 (0, 0)) (by (with_reducible repeat (first | refine blk_drewN ?_ _ | refine blk_drew ?_ | refine blk_alloc ?_ _)); exact BK228.out) hb)
      have n12_ := Aside0.mk (below_step (by repeat (first | (with_reducible first | exact HB.out | apply below_alloc | apply pw_below_drewN | apply below_drew1 | refine below_set ?_ GE183.out | refine below_set ?_ GE184.out | refine below_set ?_ GE197.out | refine below_set ?_ GE220.out | refine below_set ?_ GE227.out | refine below_set ?_ GE228.out) | exact HB.out)) hb)
      clear HO_198002
      clear HO_198004
      clear HO_221002
      clear HO_221004
      clear HO232
      clear HO236
      clear BK183
      clear BK184
      clear BK197
      clear BK220
      clear BK227
      clear BK228
      clear HB
      have HO_198002 := n0_
      have HO_198004 := n1_
      have HO_221002 := n2_
      have HO_221004 := n3_
      have HO232 := n4_
      have HO236 := n5_
      have BK183 := n6_
      have BK184 := n7_
      have BK197 := n8_
      have BK220 := n9_
      have BK227 := n10_
      have BK228 := n11_
      have HB := n12_
      clear n0_ n1_ n2_ n3_ n4_ n5_ n6_ n7_ n8_ n9_ n10_ n11_ n12_
      (try clear hb)
      (try clear hb2)
      (try clear hk)
      (try clear hi)
      refine hK.out _ _ ⟨(blk_cell BK183.out 0).trans rfl, (blk_cell BK183.out 1).trans rfl, (blk_cell BK183.out 2).trans rfl, (blk_cell BK183.out 3).trans rfl, (blk_cell BK183.out 4).trans rfl, (blk_cell BK183.out 5).trans rfl, (blk_cell BK197.out 0).trans rfl, (blk_cell BK197.out 1).trans rfl, (blk_cell BK197.out 2).trans rfl, (blk_cell BK197.out 3).trans rfl, (blk_cell BK197.out 4).trans rfl, (blk_cell BK197.out 5).trans rfl, (blk_cell BK227.out 0).trans rfl, (blk_cell BK227.out 1).trans rfl, (blk_cell BK227.out 2).trans rfl, (blk_cell BK227.out 3).trans rfl, (blk_cell BK227.out 4).trans rfl, (blk_cell BK227.out 5).trans rfl, (blk_cell BK228.out 0).trans rfl, (blk_cell BK228.out 1).trans rfl, (blk_cell BK228.out 2).trans rfl, (blk_cell BK228.out 3).trans rfl, (blk_cell BK228.out 4).trans rfl, (blk_cell BK228.out 5).trans rfl⟩ (fun hHeld => ?_)
      clear hK K
      refine norm_ (a' := ?_) ?_ ?_
      rotate_left
      ·show Act.put _ (some 189) _ = _
       simp only [Act.put, List.setIfInBounds_toArray, List.set_cons_zero, List.set_cons_succ, i64_w, i32_w]
       rfl
      refine pure_ (i := 9) (N := some 190) (v := ?_) (a' := ?_) #[true,true,true,true,true,true,true,true,true,true,false] rfl rfl (any_of HT_.out (by kernel_rfl)) (fun _ _ _ h => h) (Or.inl ⟨by rfl, ?_⟩) ?_ ?_
      rotate_left
      ·intro w'
       go_simp
       with_reducible rfl
      rotate_left
      ·simp only [Act.put, List.setIfInBounds_toArray, List.set_cons_zero, List.set_cons_succ, i64_w, i32_w]
       rfl
      refine pure_ (i := 10) (N := some 6) (v := ?_) (a' := ?_) #[true,true,true,true,true,true,true,true,true,true,true] rfl rfl (any_of HT_.out (by kernel_rfl)) (fun _ _ _ h => h) (Or.inl ⟨by rfl, ?_⟩) ?_ ?_
      rotate_left
      ·intro w'
       go_simp
       with_reducible rfl
      rotate_left
      ·simp only [Act.put, List.setIfInBounds_toArray, List.set_cons_zero, List.set_cons_succ, i64_w, i32_w]
       rfl
      refine done_ (done_of HT_.out (by kernel_rfl)) ?_
      try go_wp2
      go_ret
      exact ⟨by first | rfl | (simp [errW_none, errW_some] <;> rfl) | (simp only [← hji93, ← hji96]; first | rfl | (simp [errW_none, errW_some] <;> rfl)) | (simp [*, errW_none, errW_some] <;> rfl), by repeat (first | (with_reducible first | exact HB.out | apply below_alloc | apply pw_below_drewN | apply below_drew1 | refine below_set ?_ GE183.out | refine below_set ?_ GE184.out | refine below_set ?_ GE197.out | refine below_set ?_ GE220.out | refine below_set ?_ GE227.out | refine below_set ?_ GE228.out) | exact HB.out)⟩
end Go.Proofs.Yteamldgngknmfaa.PE
