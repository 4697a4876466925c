-- Out of a text that print.sh wrote for this seat: what this claim does not use is left out.
import Derived.Test.YtbdennijmfgdpaaZPEx0
import Derived.Test.YtbdennijmfgdpaaZPEx1
import Derived.Test.YtbdennijmfgdpaaZPEx2
namespace Go.Proofs.Ytbdennijmfgdpaa.PE
open Go.RowKit Go.Proofs.YtbdennijmfgdpaaW.PrintWords Go.Proofs.YtbdennijmfgdpaaW.PrintLast Go.Proofs.YtbdennijmfgdpaaW.PrintMore
attribute [local go_sem] max2_int min2_int max_two min_two max_three min_three max_four min_four   -- for this text's walks alone
set_option linter.unusedVariables false
set_option linter.unusedSimpArgs false
attribute [local go_sem high] eqA46 eqA48
/-! ### forebayref07_Equal: function 49 -/
mutual
def forebayref07_Equal.j0 : Nat → Bool → ByteArray → Int → List (S46) → Int → List (S48) → Int → ByteArray → Int → List (S46) → Int → List (S48) → Int → Option (Bool)
  | 0, _, _, _, _, _, _, _, _, _, _, _, _, _ => none
  | k + 1, x50, x181000, x181001, x181002, x181003, x181004, x181005, x182000, x182001, x182002, x182003, x182004, x182005 => if x50 = true then (some false) else (forebayref07_Equal.l0 k 0 x181000 x181001 x181002 x181003 x181004 x181005 x182000 x182001 x182002 x182003 x182004 x182005)
def forebayref07_Equal.l0 : Nat → Int → ByteArray → Int → List (S46) → Int → List (S48) → Int → ByteArray → Int → List (S46) → Int → List (S48) → Int → Option (Bool)
  | 0, _, _, _, _, _, _, _, _, _, _, _, _, _ => none
  | k + 1, x5, x181000, x181001, x181002, x181003, x181004, x181005, x182000, x182001, x182002, x182003, x182004, x182005 => if x5 < (x181002.length : Int) then (if 0 ≤ x5 then (if x5 < (x182002.length : Int) then (if (!(((rd_T46 x181002 x5).f0) == ((rd_T46 x182002 x5).f0)) || (!(((rd_T46 x181002 x5).f1) == ((rd_T46 x182002 x5).f1)) || (!(((rd_T46 x181002 x5).f2) == ((rd_T46 x182002 x5).f2))))) = true then (some false) else (forebayref07_Equal.l0 k (wrap64 (x5 + 1)) x181000 x181001 x181002 x181003 x181004 x181005 x182000 x182001 x182002 x182003 x182004 x182005)) else (none)) else (none)) else (forebayref07_Equal.l1 k 0 x181000 x181001 x181002 x181003 x181004 x181005 x182000 x182001 x182002 x182003 x182004 x182005)
def forebayref07_Equal.l1 : Nat → Int → ByteArray → Int → List (S46) → Int → List (S48) → Int → ByteArray → Int → List (S46) → Int → List (S48) → Int → Option (Bool)
  | 0, _, _, _, _, _, _, _, _, _, _, _, _, _ => none
  | k + 1, x6, x181000, x181001, x181002, x181003, x181004, x181005, x182000, x182001, x182002, x182003, x182004, x182005 => if x6 < (x181004.length : Int) then (if 0 ≤ x6 then (if x6 < (x182004.length : Int) then (if (!((((rd_T48 x181004 x6).f0).toList) == (((rd_T48 x182004 x6).f0).toList)) || (!((((rd_T48 x181004 x6).f1).toList) == (((rd_T48 x182004 x6).f1).toList)))) = true then (some false) else (forebayref07_Equal.l1 k (wrap64 (x6 + 1)) x181000 x181001 x181002 x181003 x181004 x181005 x182000 x182001 x182002 x182003 x182004 x182005)) else (none)) else (none)) else (some true)
end
def forebayref07_Equal.f (k : Nat) (a0_0 : ByteArray) (a0_1 : Int) (l0_2 : List (S46)) (a0_3 : Int) (l0_4 : List (S48)) (a0_5 : Int) (a1_0 : ByteArray) (a1_1 : Int) (l1_2 : List (S46)) (a1_3 : Int) (l1_4 : List (S48)) (a1_5 : Int) : Option (Bool) := if a0_0.toList = a1_0.toList then (if a0_1 = a1_1 then (if a0_3 = a1_3 then (if a0_5 = a1_5 then (if (l0_2.length : Int) = (l1_2.length : Int) then (forebayref07_Equal.j0 k ((l0_4.length : Int) != (l1_4.length : Int)) a0_0 a0_1 l0_2 a0_3 l0_4 a0_5 a1_0 a1_1 l1_2 a1_3 l1_4 a1_5) else (forebayref07_Equal.j0 k true a0_0 a0_1 l0_2 a0_3 l0_4 a0_5 a1_0 a1_1 l1_2 a1_3 l1_4 a1_5)) else (forebayref07_Equal.j0 k true a0_0 a0_1 l0_2 a0_3 l0_4 a0_5 a1_0 a1_1 l1_2 a1_3 l1_4 a1_5)) else (forebayref07_Equal.j0 k true a0_0 a0_1 l0_2 a0_3 l0_4 a0_5 a1_0 a1_1 l1_2 a1_3 l1_4 a1_5)) else (forebayref07_Equal.j0 k true a0_0 a0_1 l0_2 a0_3 l0_4 a0_5 a1_0 a1_1 l1_2 a1_3 l1_4 a1_5)) else (forebayref07_Equal.j0 k true a0_0 a0_1 l0_2 a0_3 l0_4 a0_5 a1_0 a1_1 l1_2 a1_3 l1_4 a1_5)
set_option maxHeartbeats 8000000 in
set_option maxRecDepth 100000 in
theorem forebayref07_Equal.calls (k : Nat) (a0_0 : ByteArray) (a0_1 : Int) (A0_2 : Option Addr) (c0_2 : Nat) (l0_2 : List (S46)) (a0_3 : Int) (A0_4 : Option Addr) (c0_4 : Nat) (l0_4 : List (S48)) (a0_5 : Int) (a1_0 : ByteArray) (a1_1 : Int) (A1_2 : Option Addr) (c1_2 : Nat) (l1_2 : List (S46)) (a1_3 : Int) (A1_4 : Option Addr) (c1_4 : Nat) (l1_4 : List (S48)) (a1_5 : Int) (r : Bool) (w : World) (hr0_2 : Kd.C k46 w A0_2 l0_2.length l0_2) (hc0_2 : l0_2.length ≤ c0_2) (hr0_4 : Kd.C k48 w A0_4 l0_4.length l0_4) (hc0_4 : l0_4.length ≤ c0_4) (hr1_2 : Kd.C k46 w A1_2 l1_2.length l1_2) (hc1_2 : l1_2.length ≤ c1_2) (hr1_4 : Kd.C k48 w A1_4 l1_4.length l1_4) (hc1_4 : l1_4.length ≤ c1_4) (h : forebayref07_Equal.f k a0_0 a0_1 l0_2 a0_3 l0_4 a0_5 a1_0 a1_1 l1_2 a1_3 l1_4 a1_5 = some r) :
    Calls Try.prog 49 #[.agg #[.string a0_0, .int .i64 a0_1, .slice A0_2 l0_2.length c0_2, .int .i64 a0_3, .slice A0_4 l0_4.length c0_4, .int .i64 a0_5], .agg #[.string a1_0, .int .i64 a1_1, .slice A1_2 l1_2.length c1_2, .int .i64 a1_3, .slice A1_4 l1_4.length c1_4, .int .i64 a1_5]] w fun e w' => e = .returned (.bool r) ∧ Below w.heap.size w w' := by
  have hu25 := Try.underlying25
  have hu46 := Try.underlying46
  have hu48 := Try.underlying48
  have HR0_2 := Aside0.mk hr0_2
  have HC0_2 := Aside0.mk hc0_2
  clear hr0_2 hc0_2
  have HR0_4 := Aside0.mk hr0_4
  have HC0_4 := Aside0.mk hc0_4
  clear hr0_4 hc0_4
  have HR1_2 := Aside0.mk hr1_2
  have HC1_2 := Aside0.mk hc1_2
  clear hr1_2 hc1_2
  have HR1_4 := Aside0.mk hr1_4
  have HC1_4 := Aside0.mk hc1_4
  clear hr1_4 hc1_4
  have HB := Aside0.mk (Below.refl w.heap.size w)
  have H : (if a0_0.toList = a1_0.toList then (if a0_1 = a1_1 then (if a0_3 = a1_3 then (if a0_5 = a1_5 then (if (l0_2.length : Int) = (l1_2.length : Int) then (forebayref07_Equal.j0 k ((l0_4.length : Int) != (l1_4.length : Int)) a0_0 a0_1 l0_2 a0_3 l0_4 a0_5 a1_0 a1_1 l1_2 a1_3 l1_4 a1_5) else (forebayref07_Equal.j0 k true a0_0 a0_1 l0_2 a0_3 l0_4 a0_5 a1_0 a1_1 l1_2 a1_3 l1_4 a1_5)) else (forebayref07_Equal.j0 k true a0_0 a0_1 l0_2 a0_3 l0_4 a0_5 a1_0 a1_1 l1_2 a1_3 l1_4 a1_5)) else (forebayref07_Equal.j0 k true a0_0 a0_1 l0_2 a0_3 l0_4 a0_5 a1_0 a1_1 l1_2 a1_3 l1_4 a1_5)) else (forebayref07_Equal.j0 k true a0_0 a0_1 l0_2 a0_3 l0_4 a0_5 a1_0 a1_1 l1_2 a1_3 l1_4 a1_5)) else (forebayref07_Equal.j0 k true a0_0 a0_1 l0_2 a0_3 l0_4 a0_5 a1_0 a1_1 l1_2 a1_3 l1_4 a1_5)) = some r := h
  clear h
  have HC3 := Aside0.mk H
  clear H
  go_enter Try.func49, Try.ntmps49
  go_upto_region 1 with (first | ((with_reducible refine gate_dst (N := 2) rfl ?_); (try (refine gate_guard (by rfl) ?_; dsimp only)); refine box_event ?hg (N := 2) ?hd (cs := #[.string a0_0, .int .i64 a0_1, .slice A0_2 l0_2.length c0_2, .int .i64 a0_3, .slice A0_4 l0_4.length c0_4, .int .i64 a0_5]) (t := 25) ?hr ?_; (case hd => rfl); (case hg => rfl); (case hr => first | (go_simp; done) | (go_simp; rfl)); intro gb180 hg w4 hbox hb; have n0_ := Aside0.mk (below_step (by repeat (first | (with_reducible first | exact HB.out | apply below_alloc | apply pw_below_drewN | apply below_drew1) | exact HB.out)) hb); have n1_ := Aside0.mk (hbox); have n2_ := Aside0.mk ((by rw [hg]; exact (below_size (by repeat (first | (with_reducible first | exact HB.out | apply below_alloc | apply pw_below_drewN | apply below_drew1) | exact HB.out))) : w.heap.size ≤ gb180)); have n3_ := Aside0.mk ((by rw [hg]; exact (below_size (by repeat (first | (with_reducible first | exact HB.out | apply below_alloc | apply pw_below_drewN | apply below_drew1) | exact HB.out))) : w.heap.size ≤ gb180)); clear HB; have HB := n0_; have BK180 := n1_; have GW180 := n2_; have GE180 := n3_; clear n0_ n1_ n2_ n3_; clear hb hbox hg) | ((with_reducible refine gate_dst (N := 3) rfl ?_); (try (refine gate_guard (by rfl) ?_; dsimp only)); refine box_event ?hg (N := 3) ?hd (cs := #[.string a1_0, .int .i64 a1_1, .slice A1_2 l1_2.length c1_2, .int .i64 a1_3, .slice A1_4 l1_4.length c1_4, .int .i64 a1_5]) (t := 25) ?hr ?_; (case hd => rfl); (case hg => rfl); (case hr => first | (go_simp; done) | (go_simp; rfl)); intro gb181 hg w5 hbox hb; have n0_ := Aside0.mk (blk_below (g := gb180) (o := .cells #[.string a0_0, .int .i64 a0_1, .slice A0_2 l0_2.length c0_2, .int .i64 a0_3, .slice A0_4 l0_4.length c0_4, .int .i64 a0_5] 25 (0, 0)) (by (with_reducible repeat (first | refine blk_drewN ?_ _ | refine blk_drew ?_ | refine blk_alloc ?_ _)); exact BK180.out) hb); have n1_ := Aside0.mk (below_step (by repeat (first | (with_reducible first | exact HB.out | apply below_alloc | apply pw_below_drewN | apply below_drew1 | refine below_set ?_ GE180.out) | exact HB.out)) hb); have n2_ := Aside0.mk (hbox); have n3_ := Aside0.mk ((by rw [hg]; exact (below_size (by repeat (first | (with_reducible first | exact HB.out | apply below_alloc | apply pw_below_drewN | apply below_drew1 | refine below_set ?_ GE180.out) | exact HB.out))) : w.heap.size ≤ gb181)); have n4_ := Aside0.mk ((by rw [hg]; exact (below_size (by repeat (first | (with_reducible first | exact HB.out | apply below_alloc | apply pw_below_drewN | apply below_drew1 | refine below_set ?_ GE180.out) | exact HB.out))) : w.heap.size ≤ gb181)); have n5_ := Aside0.mk ((by rw [hg]; exact Nat.ne_of_lt (blk_lt (g := gb180) (o := .cells #[.string a0_0, .int .i64 a0_1, .slice A0_2 l0_2.length c0_2, .int .i64 a0_3, .slice A0_4 l0_4.length c0_4, .int .i64 a0_5] 25 (0, 0)) (by (with_reducible repeat (first | refine blk_drewN ?_ _ | refine blk_drew ?_ | refine blk_alloc ?_ _)); exact BK180.out)) : gb180 ≠ gb181)); have n6_ := Aside0.mk ((by rw [hg]; exact Nat.ne_of_gt (blk_lt (g := gb180) (o := .cells #[.string a0_0, .int .i64 a0_1, .slice A0_2 l0_2.length c0_2, .int .i64 a0_3, .slice A0_4 l0_4.length c0_4, .int .i64 a0_5] 25 (0, 0)) (by (with_reducible repeat (first | refine blk_drewN ?_ _ | refine blk_drew ?_ | refine blk_alloc ?_ _)); exact BK180.out)) : gb181 ≠ gb180)); clear BK180; clear HB; have BK180 := n0_; have HB := n1_; have BK181 := n2_; have GW181 := n3_; have GE181 := n4_; have NB180_181 := n5_; have NB181_180 := n6_; clear n0_ n1_ n2_ n3_ n4_ n5_ n6_; clear hb hbox hg))
  repeat (go_quiet (first | ((with_reducible refine gate_dst (N := 2) rfl ?_); (try (refine gate_guard (by rfl) ?_; dsimp only)); refine box_event ?hg (N := 2) ?hd (cs := #[.string a0_0, .int .i64 a0_1, .slice A0_2 l0_2.length c0_2, .int .i64 a0_3, .slice A0_4 l0_4.length c0_4, .int .i64 a0_5]) (t := 25) ?hr ?_; (case hd => rfl); (case hg => rfl); (case hr => first | (go_simp; done) | (go_simp; rfl)); intro gb180 hg w4 hbox hb; have n0_ := Aside0.mk (below_step (by repeat (first | (with_reducible first | exact HB.out | apply below_alloc | apply pw_below_drewN | apply below_drew1) | exact HB.out)) hb); have n1_ := Aside0.mk (hbox); have n2_ := Aside0.mk ((by rw [hg]; exact (below_size (by repeat (first | (with_reducible first | exact HB.out | apply below_alloc | apply pw_below_drewN | apply below_drew1) | exact HB.out))) : w.heap.size ≤ gb180)); have n3_ := Aside0.mk ((by rw [hg]; exact (below_size (by repeat (first | (with_reducible first | exact HB.out | apply below_alloc | apply pw_below_drewN | apply below_drew1) | exact HB.out))) : w.heap.size ≤ gb180)); clear HB; have HB := n0_; have BK180 := n1_; have GW180 := n2_; have GE180 := n3_; clear n0_ n1_ n2_ n3_; clear hb hbox hg) | ((with_reducible refine gate_dst (N := 3) rfl ?_); (try (refine gate_guard (by rfl) ?_; dsimp only)); refine box_event ?hg (N := 3) ?hd (cs := #[.string a1_0, .int .i64 a1_1, .slice A1_2 l1_2.length c1_2, .int .i64 a1_3, .slice A1_4 l1_4.length c1_4, .int .i64 a1_5]) (t := 25) ?hr ?_; (case hd => rfl); (case hg => rfl); (case hr => first | (go_simp; done) | (go_simp; rfl)); intro gb181 hg w5 hbox hb; have n0_ := Aside0.mk (blk_below (g := gb180) (o := .cells #[.string a0_0, .int .i64 a0_1, .slice A0_2 l0_2.length c0_2, .int .i64 a0_3, .slice A0_4 l0_4.length c0_4, .int .i64 a0_5] 25 (0, 0)) (by (with_reducible repeat (first | refine blk_drewN ?_ _ | refine blk_drew ?_ | refine blk_alloc ?_ _)); exact BK180.out) hb); have n1_ := Aside0.mk (below_step (by repeat (first | (with_reducible first | exact HB.out | apply below_alloc | apply pw_below_drewN | apply below_drew1 | refine below_set ?_ GE180.out) | exact HB.out)) hb); have n2_ := Aside0.mk (hbox); have n3_ := Aside0.mk ((by rw [hg]; exact (below_size (by repeat (first | (with_reducible first | exact HB.out | apply below_alloc | apply pw_below_drewN | apply below_drew1 | refine below_set ?_ GE180.out) | exact HB.out))) : w.heap.size ≤ gb181)); have n4_ := Aside0.mk ((by rw [hg]; exact (below_size (by repeat (first | (with_reducible first | exact HB.out | apply below_alloc | apply pw_below_drewN | apply below_drew1 | refine below_set ?_ GE180.out) | exact HB.out))) : w.heap.size ≤ gb181)); have n5_ := Aside0.mk ((by rw [hg]; exact Nat.ne_of_lt (blk_lt (g := gb180) (o := .cells #[.string a0_0, .int .i64 a0_1, .slice A0_2 l0_2.length c0_2, .int .i64 a0_3, .slice A0_4 l0_4.length c0_4, .int .i64 a0_5] 25 (0, 0)) (by (with_reducible repeat (first | refine blk_drewN ?_ _ | refine blk_drew ?_ | refine blk_alloc ?_ _)); exact BK180.out)) : gb180 ≠ gb181)); have n6_ := Aside0.mk ((by rw [hg]; exact Nat.ne_of_gt (blk_lt (g := gb180) (o := .cells #[.string a0_0, .int .i64 a0_1, .slice A0_2 l0_2.length c0_2, .int .i64 a0_3, .slice A0_4 l0_4.length c0_4, .int .i64 a0_5] 25 (0, 0)) (by (with_reducible repeat (first | refine blk_drewN ?_ _ | refine blk_drew ?_ | refine blk_alloc ?_ _)); exact BK180.out)) : gb181 ≠ gb180)); clear BK180; clear HB; have BK180 := n0_; have HB := n1_; have BK181 := n2_; have GW181 := n3_; have GE181 := n4_; have NB180_181 := n5_; have NB181_180 := n6_; clear n0_ n1_ n2_ n3_ n4_ n5_ n6_; clear hb hbox hg)); go_upto_region 1 with (first | ((with_reducible refine gate_dst (N := 2) rfl ?_); (try (refine gate_guard (by rfl) ?_; dsimp only)); refine box_event ?hg (N := 2) ?hd (cs := #[.string a0_0, .int .i64 a0_1, .slice A0_2 l0_2.length c0_2, .int .i64 a0_3, .slice A0_4 l0_4.length c0_4, .int .i64 a0_5]) (t := 25) ?hr ?_; (case hd => rfl); (case hg => rfl); (case hr => first | (go_simp; done) | (go_simp; rfl)); intro gb180 hg w4 hbox hb; have n0_ := Aside0.mk (below_step (by repeat (first | (with_reducible first | exact HB.out | apply below_alloc | apply pw_below_drewN | apply below_drew1) | exact HB.out)) hb); have n1_ := Aside0.mk (hbox); have n2_ := Aside0.mk ((by rw [hg]; exact (below_size (by repeat (first | (with_reducible first | exact HB.out | apply below_alloc | apply pw_below_drewN | apply below_drew1) | exact HB.out))) : w.heap.size ≤ gb180)); have n3_ := Aside0.mk ((by rw [hg]; exact (below_size (by repeat (first | (with_reducible first | exact HB.out | apply below_alloc | apply pw_below_drewN | apply below_drew1) | exact HB.out))) : w.heap.size ≤ gb180)); clear HB; have HB := n0_; have BK180 := n1_; have GW180 := n2_; have GE180 := n3_; clear n0_ n1_ n2_ n3_; clear hb hbox hg) | ((with_reducible refine gate_dst (N := 3) rfl ?_); (try (refine gate_guard (by rfl) ?_; dsimp only)); refine box_event ?hg (N := 3) ?hd (cs := #[.string a1_0, .int .i64 a1_1, .slice A1_2 l1_2.length c1_2, .int .i64 a1_3, .slice A1_4 l1_4.length c1_4, .int .i64 a1_5]) (t := 25) ?hr ?_; (case hd => rfl); (case hg => rfl); (case hr => first | (go_simp; done) | (go_simp; rfl)); intro gb181 hg w5 hbox hb; have n0_ := Aside0.mk (blk_below (g := gb180) (o := .cells #[.string a0_0, .int .i64 a0_1, .slice A0_2 l0_2.length c0_2, .int .i64 a0_3, .slice A0_4 l0_4.length c0_4, .int .i64 a0_5] 25 (0, 0)) (by (with_reducible repeat (first | refine blk_drewN ?_ _ | refine blk_drew ?_ | refine blk_alloc ?_ _)); exact BK180.out) hb); have n1_ := Aside0.mk (below_step (by repeat (first | (with_reducible first | exact HB.out | apply below_alloc | apply pw_below_drewN | apply below_drew1 | refine below_set ?_ GE180.out) | exact HB.out)) hb); have n2_ := Aside0.mk (hbox); have n3_ := Aside0.mk ((by rw [hg]; exact (below_size (by repeat (first | (with_reducible first | exact HB.out | apply below_alloc | apply pw_below_drewN | apply below_drew1 | refine below_set ?_ GE180.out) | exact HB.out))) : w.heap.size ≤ gb181)); have n4_ := Aside0.mk ((by rw [hg]; exact (below_size (by repeat (first | (with_reducible first | exact HB.out | apply below_alloc | apply pw_below_drewN | apply below_drew1 | refine below_set ?_ GE180.out) | exact HB.out))) : w.heap.size ≤ gb181)); have n5_ := Aside0.mk ((by rw [hg]; exact Nat.ne_of_lt (blk_lt (g := gb180) (o := .cells #[.string a0_0, .int .i64 a0_1, .slice A0_2 l0_2.length c0_2, .int .i64 a0_3, .slice A0_4 l0_4.length c0_4, .int .i64 a0_5] 25 (0, 0)) (by (with_reducible repeat (first | refine blk_drewN ?_ _ | refine blk_drew ?_ | refine blk_alloc ?_ _)); exact BK180.out)) : gb180 ≠ gb181)); have n6_ := Aside0.mk ((by rw [hg]; exact Nat.ne_of_gt (blk_lt (g := gb180) (o := .cells #[.string a0_0, .int .i64 a0_1, .slice A0_2 l0_2.length c0_2, .int .i64 a0_3, .slice A0_4 l0_4.length c0_4, .int .i64 a0_5] 25 (0, 0)) (by (with_reducible repeat (first | refine blk_drewN ?_ _ | refine blk_drew ?_ | refine blk_alloc ?_ _)); exact BK180.out)) : gb181 ≠ gb180)); clear BK180; clear HB; have BK180 := n0_; have HB := n1_; have BK181 := n2_; have GW181 := n3_; have GE181 := n4_; have NB180_181 := n5_; have NB181_180 := n6_; clear n0_ n1_ n2_ n3_ n4_ n5_ n6_; clear hb hbox hg)))
  (try simp only [Act.put, List.setIfInBounds_toArray, List.set_cons_zero, List.set_cons_succ])
  go_cut [50] (fun v50 wc => ∃ (kq : Nat) (x50_2 : Bool), v50 = .bool x50_2 ∧ Aside0 (forebayref07_Equal.j0 kq x50_2 a0_0 a0_1 l0_2 a0_3 l0_4 a0_5 a1_0 a1_1 l1_2 a1_3 l1_4 a1_5 = some r) ∧ Aside0 (kq ≤ k) ∧ Aside0 (wc.heap[gb180]? = some (.cells #[.string a0_0, .int .i64 a0_1, (.slice A0_2 l0_2.length c0_2), .int .i64 a0_3, (.slice A0_4 l0_4.length c0_4), .int .i64 a0_5] 25 (0, 0))) ∧ Aside0 (wc.heap[gb181]? = some (.cells #[.string a1_0, .int .i64 a1_1, (.slice A1_2 l1_2.length c1_2), .int .i64 a1_3, (.slice A1_4 l1_4.length c1_4), .int .i64 a1_5] 25 (0, 0))) ∧ Aside0 (Below w.heap.size w wc))
  case first =>
    have H := HC3.out
    clear HC3
    by_cases c6 : a0_0.toList = a1_0.toList
    · rw [if_pos c6] at H
      have c6b0 : (a0_0.toList == a1_0.toList) = true := beq_iff_eq.mpr c6
      have c6b1 : (a0_0.toList != a1_0.toList) = false := bne_eq_false_iff_eq.mpr c6
      clear c6
      (first | rw [c6b0] | (simp only [i64_w, i32_w]; rw [c6b0]) | skip)
      by_cases c7 : a0_1 = a1_1
      · rw [if_pos c7] at H
        have c7b0 : (a0_1 == a1_1) = true := beq_iff_eq.mpr c7
        have c7b1 : (a0_1 != a1_1) = false := bne_eq_false_iff_eq.mpr c7
        clear c7
        by_cases c8 : a0_3 = a1_3
        · rw [if_pos c8] at H
          have c8b0 : (a0_3 == a1_3) = true := beq_iff_eq.mpr c8
          have c8b1 : (a0_3 != a1_3) = false := bne_eq_false_iff_eq.mpr c8
          clear c8
          by_cases c9 : a0_5 = a1_5
          · rw [if_pos c9] at H
            have c9b0 : (a0_5 == a1_5) = true := beq_iff_eq.mpr c9
            have c9b1 : (a0_5 != a1_5) = false := bne_eq_false_iff_eq.mpr c9
            clear c9
            by_cases c10 : (l0_2.length : Int) = (l1_2.length : Int)
            · rw [if_pos c10] at H
              have c10b0 : ((l0_2.length : Int) == (l1_2.length : Int)) = true := beq_iff_eq.mpr c10
              have c10b1 : ((l0_2.length : Int) != (l1_2.length : Int)) = false := bne_eq_false_iff_eq.mpr c10
              have c10b2 : (l0_2.length == l1_2.length) = true := by first | simpa using c10 | (simp at c10 ⊢; omega)
              clear c10
              have H' := Aside0.mk H
              clear H
              have hnb11 := NB180_181.out
              have hnc11 := NB181_180.out
              have hcz12_0 : w5.cell? ⟨gb180, 0, none⟩ = some (.string a0_0) := (blk_cell BK180.out 0).trans rfl
              have hcz12_1 : w5.cell? ⟨gb180, 1, none⟩ = some (.int .i64 a0_1) := (blk_cell BK180.out 1).trans rfl
              have hcz12_2 : w5.cell? ⟨gb180, 2, none⟩ = some (.slice A0_2 l0_2.length c0_2) := (blk_cell BK180.out 2).trans rfl
              have hcz12_3 : w5.cell? ⟨gb180, 3, none⟩ = some (.int .i64 a0_3) := (blk_cell BK180.out 3).trans rfl
              have hcz12_4 : w5.cell? ⟨gb180, 4, none⟩ = some (.slice A0_4 l0_4.length c0_4) := (blk_cell BK180.out 4).trans rfl
              have hcz12_5 : w5.cell? ⟨gb180, 5, none⟩ = some (.int .i64 a0_5) := (blk_cell BK180.out 5).trans rfl
              have hfz12_0 := blk_frozen BK180.out 0
              have hfz12_1 := blk_frozen BK180.out 1
              have hfz12_2 := blk_frozen BK180.out 2
              have hfz12_3 := blk_frozen BK180.out 3
              have hfz12_4 := blk_frozen BK180.out 4
              have hfz12_5 := blk_frozen BK180.out 5
              have hcz13_0 : w5.cell? ⟨gb181, 0, none⟩ = some (.string a1_0) := (blk_cell BK181.out 0).trans rfl
              have hcz13_1 : w5.cell? ⟨gb181, 1, none⟩ = some (.int .i64 a1_1) := (blk_cell BK181.out 1).trans rfl
              have hcz13_2 : w5.cell? ⟨gb181, 2, none⟩ = some (.slice A1_2 l1_2.length c1_2) := (blk_cell BK181.out 2).trans rfl
              have hcz13_3 : w5.cell? ⟨gb181, 3, none⟩ = some (.int .i64 a1_3) := (blk_cell BK181.out 3).trans rfl
              have hcz13_4 : w5.cell? ⟨gb181, 4, none⟩ = some (.slice A1_4 l1_4.length c1_4) := (blk_cell BK181.out 4).trans rfl
              have hcz13_5 : w5.cell? ⟨gb181, 5, none⟩ = some (.int .i64 a1_5) := (blk_cell BK181.out 5).trans rfl
              have hfz13_0 := blk_frozen BK181.out 0
              have hfz13_1 := blk_frozen BK181.out 1
              have hfz13_2 := blk_frozen BK181.out 2
              have hfz13_3 := blk_frozen BK181.out 3
              have hfz13_4 := blk_frozen BK181.out 4
              have hfz13_5 := blk_frozen BK181.out 5
              go_wp2
              repeat (go_quiet (fail); try go_wp2)
              go_meet
              case rel => exact ⟨_, (((l0_4.length : Int) != (l1_4.length : Int))), (by first | rfl | (simp; done) | (simp [*]; done)), H', ⟨by first | omega | exact Nat.le_refl _⟩, ⟨by (with_reducible repeat (first | refine blk_drewN ?_ _ | refine blk_drew ?_ | refine blk_alloc ?_ _)); exact BK180.out⟩, ⟨by (with_reducible repeat (first | refine blk_drewN ?_ _ | refine blk_drew ?_ | refine blk_alloc ?_ _)); exact BK181.out⟩, ⟨by repeat (first | (with_reducible first | exact HB.out | apply below_alloc | apply pw_below_drewN | apply below_drew1 | refine below_set ?_ GE180.out | refine below_set ?_ GE181.out) | exact HB.out)⟩⟩
            · rw [if_neg c10] at H
              have c10b0 : ((l0_2.length : Int) == (l1_2.length : Int)) = false := beq_eq_false_iff_ne.mpr c10
              have c10b1 : ((l0_2.length : Int) != (l1_2.length : Int)) = true := bne_iff_ne.mpr c10
              have c10b2 : (l0_2.length == l1_2.length) = false := by first | simpa using c10 | (simp at c10 ⊢; omega)
              have H' := Aside0.mk H
              clear H
              have hnb14 := NB180_181.out
              have hnc14 := NB181_180.out
              have hcz15_0 : w5.cell? ⟨gb180, 0, none⟩ = some (.string a0_0) := (blk_cell BK180.out 0).trans rfl
              have hcz15_1 : w5.cell? ⟨gb180, 1, none⟩ = some (.int .i64 a0_1) := (blk_cell BK180.out 1).trans rfl
              have hcz15_2 : w5.cell? ⟨gb180, 2, none⟩ = some (.slice A0_2 l0_2.length c0_2) := (blk_cell BK180.out 2).trans rfl
              have hcz15_3 : w5.cell? ⟨gb180, 3, none⟩ = some (.int .i64 a0_3) := (blk_cell BK180.out 3).trans rfl
              have hcz15_4 : w5.cell? ⟨gb180, 4, none⟩ = some (.slice A0_4 l0_4.length c0_4) := (blk_cell BK180.out 4).trans rfl
              have hcz15_5 : w5.cell? ⟨gb180, 5, none⟩ = some (.int .i64 a0_5) := (blk_cell BK180.out 5).trans rfl
              have hfz15_0 := blk_frozen BK180.out 0
              have hfz15_1 := blk_frozen BK180.out 1
              have hfz15_2 := blk_frozen BK180.out 2
              have hfz15_3 := blk_frozen BK180.out 3
              have hfz15_4 := blk_frozen BK180.out 4
              have hfz15_5 := blk_frozen BK180.out 5
              have hcz16_0 : w5.cell? ⟨gb181, 0, none⟩ = some (.string a1_0) := (blk_cell BK181.out 0).trans rfl
              have hcz16_1 : w5.cell? ⟨gb181, 1, none⟩ = some (.int .i64 a1_1) := (blk_cell BK181.out 1).trans rfl
              have hcz16_2 : w5.cell? ⟨gb181, 2, none⟩ = some (.slice A1_2 l1_2.length c1_2) := (blk_cell BK181.out 2).trans rfl
              have hcz16_3 : w5.cell? ⟨gb181, 3, none⟩ = some (.int .i64 a1_3) := (blk_cell BK181.out 3).trans rfl
              have hcz16_4 : w5.cell? ⟨gb181, 4, none⟩ = some (.slice A1_4 l1_4.length c1_4) := (blk_cell BK181.out 4).trans rfl
              have hcz16_5 : w5.cell? ⟨gb181, 5, none⟩ = some (.int .i64 a1_5) := (blk_cell BK181.out 5).trans rfl
              have hfz16_0 := blk_frozen BK181.out 0
              have hfz16_1 := blk_frozen BK181.out 1
              have hfz16_2 := blk_frozen BK181.out 2
              have hfz16_3 := blk_frozen BK181.out 3
              have hfz16_4 := blk_frozen BK181.out 4
              have hfz16_5 := blk_frozen BK181.out 5
              go_wp2
              repeat (go_quiet (fail); try go_wp2)
              go_meet
              case rel => exact ⟨_, (true), (by first | rfl | (simp; done) | (simp [*]; done)), H', ⟨by first | omega | exact Nat.le_refl _⟩, ⟨by (with_reducible repeat (first | refine blk_drewN ?_ _ | refine blk_drew ?_ | refine blk_alloc ?_ _)); exact BK180.out⟩, ⟨by (with_reducible repeat (first | refine blk_drewN ?_ _ | refine blk_drew ?_ | refine blk_alloc ?_ _)); exact BK181.out⟩, ⟨by repeat (first | (with_reducible first | exact HB.out | apply below_alloc | apply pw_below_drewN | apply below_drew1 | refine below_set ?_ GE180.out | refine below_set ?_ GE181.out) | exact HB.out)⟩⟩
          · rw [if_neg c9] at H
            have c9b0 : (a0_5 == a1_5) = false := beq_eq_false_iff_ne.mpr c9
            have c9b1 : (a0_5 != a1_5) = true := bne_iff_ne.mpr c9
            have H' := Aside0.mk H
            clear H
            have hnb17 := NB180_181.out
            have hnc17 := NB181_180.out
            have hcz18_0 : w5.cell? ⟨gb180, 0, none⟩ = some (.string a0_0) := (blk_cell BK180.out 0).trans rfl
            have hcz18_1 : w5.cell? ⟨gb180, 1, none⟩ = some (.int .i64 a0_1) := (blk_cell BK180.out 1).trans rfl
            have hcz18_2 : w5.cell? ⟨gb180, 2, none⟩ = some (.slice A0_2 l0_2.length c0_2) := (blk_cell BK180.out 2).trans rfl
            have hcz18_3 : w5.cell? ⟨gb180, 3, none⟩ = some (.int .i64 a0_3) := (blk_cell BK180.out 3).trans rfl
            have hcz18_4 : w5.cell? ⟨gb180, 4, none⟩ = some (.slice A0_4 l0_4.length c0_4) := (blk_cell BK180.out 4).trans rfl
            have hcz18_5 : w5.cell? ⟨gb180, 5, none⟩ = some (.int .i64 a0_5) := (blk_cell BK180.out 5).trans rfl
            have hfz18_0 := blk_frozen BK180.out 0
            have hfz18_1 := blk_frozen BK180.out 1
            have hfz18_2 := blk_frozen BK180.out 2
            have hfz18_3 := blk_frozen BK180.out 3
            have hfz18_4 := blk_frozen BK180.out 4
            have hfz18_5 := blk_frozen BK180.out 5
            have hcz19_0 : w5.cell? ⟨gb181, 0, none⟩ = some (.string a1_0) := (blk_cell BK181.out 0).trans rfl
            have hcz19_1 : w5.cell? ⟨gb181, 1, none⟩ = some (.int .i64 a1_1) := (blk_cell BK181.out 1).trans rfl
            have hcz19_2 : w5.cell? ⟨gb181, 2, none⟩ = some (.slice A1_2 l1_2.length c1_2) := (blk_cell BK181.out 2).trans rfl
            have hcz19_3 : w5.cell? ⟨gb181, 3, none⟩ = some (.int .i64 a1_3) := (blk_cell BK181.out 3).trans rfl
            have hcz19_4 : w5.cell? ⟨gb181, 4, none⟩ = some (.slice A1_4 l1_4.length c1_4) := (blk_cell BK181.out 4).trans rfl
            have hcz19_5 : w5.cell? ⟨gb181, 5, none⟩ = some (.int .i64 a1_5) := (blk_cell BK181.out 5).trans rfl
            have hfz19_0 := blk_frozen BK181.out 0
            have hfz19_1 := blk_frozen BK181.out 1
            have hfz19_2 := blk_frozen BK181.out 2
            have hfz19_3 := blk_frozen BK181.out 3
            have hfz19_4 := blk_frozen BK181.out 4
            have hfz19_5 := blk_frozen BK181.out 5
            go_wp2
            repeat (go_quiet (fail); try go_wp2)
            go_meet
            case rel => exact ⟨_, (true), (by first | rfl | (simp; done) | (simp [*]; done)), H', ⟨by first | omega | exact Nat.le_refl _⟩, ⟨by (with_reducible repeat (first | refine blk_drewN ?_ _ | refine blk_drew ?_ | refine blk_alloc ?_ _)); exact BK180.out⟩, ⟨by (with_reducible repeat (first | refine blk_drewN ?_ _ | refine blk_drew ?_ | refine blk_alloc ?_ _)); exact BK181.out⟩, ⟨by repeat (first | (with_reducible first | exact HB.out | apply below_alloc | apply pw_below_drewN | apply below_drew1 | refine below_set ?_ GE180.out | refine below_set ?_ GE181.out) | exact HB.out)⟩⟩
        · rw [if_neg c8] at H
          have c8b0 : (a0_3 == a1_3) = false := beq_eq_false_iff_ne.mpr c8
          have c8b1 : (a0_3 != a1_3) = true := bne_iff_ne.mpr c8
          have H' := Aside0.mk H
          clear H
          have hnb20 := NB180_181.out
          have hnc20 := NB181_180.out
          have hcz21_0 : w5.cell? ⟨gb180, 0, none⟩ = some (.string a0_0) := (blk_cell BK180.out 0).trans rfl
          have hcz21_1 : w5.cell? ⟨gb180, 1, none⟩ = some (.int .i64 a0_1) := (blk_cell BK180.out 1).trans rfl
          have hcz21_2 : w5.cell? ⟨gb180, 2, none⟩ = some (.slice A0_2 l0_2.length c0_2) := (blk_cell BK180.out 2).trans rfl
          have hcz21_3 : w5.cell? ⟨gb180, 3, none⟩ = some (.int .i64 a0_3) := (blk_cell BK180.out 3).trans rfl
          have hcz21_4 : w5.cell? ⟨gb180, 4, none⟩ = some (.slice A0_4 l0_4.length c0_4) := (blk_cell BK180.out 4).trans rfl
          have hcz21_5 : w5.cell? ⟨gb180, 5, none⟩ = some (.int .i64 a0_5) := (blk_cell BK180.out 5).trans rfl
          have hfz21_0 := blk_frozen BK180.out 0
          have hfz21_1 := blk_frozen BK180.out 1
          have hfz21_2 := blk_frozen BK180.out 2
          have hfz21_3 := blk_frozen BK180.out 3
          have hfz21_4 := blk_frozen BK180.out 4
          have hfz21_5 := blk_frozen BK180.out 5
          have hcz22_0 : w5.cell? ⟨gb181, 0, none⟩ = some (.string a1_0) := (blk_cell BK181.out 0).trans rfl
          have hcz22_1 : w5.cell? ⟨gb181, 1, none⟩ = some (.int .i64 a1_1) := (blk_cell BK181.out 1).trans rfl
          have hcz22_2 : w5.cell? ⟨gb181, 2, none⟩ = some (.slice A1_2 l1_2.length c1_2) := (blk_cell BK181.out 2).trans rfl
          have hcz22_3 : w5.cell? ⟨gb181, 3, none⟩ = some (.int .i64 a1_3) := (blk_cell BK181.out 3).trans rfl
          have hcz22_4 : w5.cell? ⟨gb181, 4, none⟩ = some (.slice A1_4 l1_4.length c1_4) := (blk_cell BK181.out 4).trans rfl
          have hcz22_5 : w5.cell? ⟨gb181, 5, none⟩ = some (.int .i64 a1_5) := (blk_cell BK181.out 5).trans rfl
          have hfz22_0 := blk_frozen BK181.out 0
          have hfz22_1 := blk_frozen BK181.out 1
          have hfz22_2 := blk_frozen BK181.out 2
          have hfz22_3 := blk_frozen BK181.out 3
          have hfz22_4 := blk_frozen BK181.out 4
          have hfz22_5 := blk_frozen BK181.out 5
          go_wp2
          repeat (go_quiet (fail); try go_wp2)
          go_meet
          case rel => exact ⟨_, (true), (by first | rfl | (simp; done) | (simp [*]; done)), H', ⟨by first | omega | exact Nat.le_refl _⟩, ⟨by (with_reducible repeat (first | refine blk_drewN ?_ _ | refine blk_drew ?_ | refine blk_alloc ?_ _)); exact BK180.out⟩, ⟨by (with_reducible repeat (first | refine blk_drewN ?_ _ | refine blk_drew ?_ | refine blk_alloc ?_ _)); exact BK181.out⟩, ⟨by repeat (first | (with_reducible first | exact HB.out | apply below_alloc | apply pw_below_drewN | apply below_drew1 | refine below_set ?_ GE180.out | refine below_set ?_ GE181.out) | exact HB.out)⟩⟩
      · rw [if_neg c7] at H
        have c7b0 : (a0_1 == a1_1) = false := beq_eq_false_iff_ne.mpr c7
        have c7b1 : (a0_1 != a1_1) = true := bne_iff_ne.mpr c7
        have H' := Aside0.mk H
        clear H
        have hnb23 := NB180_181.out
        have hnc23 := NB181_180.out
        have hcz24_0 : w5.cell? ⟨gb180, 0, none⟩ = some (.string a0_0) := (blk_cell BK180.out 0).trans rfl
        have hcz24_1 : w5.cell? ⟨gb180, 1, none⟩ = some (.int .i64 a0_1) := (blk_cell BK180.out 1).trans rfl
        have hcz24_2 : w5.cell? ⟨gb180, 2, none⟩ = some (.slice A0_2 l0_2.length c0_2) := (blk_cell BK180.out 2).trans rfl
        have hcz24_3 : w5.cell? ⟨gb180, 3, none⟩ = some (.int .i64 a0_3) := (blk_cell BK180.out 3).trans rfl
        have hcz24_4 : w5.cell? ⟨gb180, 4, none⟩ = some (.slice A0_4 l0_4.length c0_4) := (blk_cell BK180.out 4).trans rfl
        have hcz24_5 : w5.cell? ⟨gb180, 5, none⟩ = some (.int .i64 a0_5) := (blk_cell BK180.out 5).trans rfl
        have hfz24_0 := blk_frozen BK180.out 0
        have hfz24_1 := blk_frozen BK180.out 1
        have hfz24_2 := blk_frozen BK180.out 2
        have hfz24_3 := blk_frozen BK180.out 3
        have hfz24_4 := blk_frozen BK180.out 4
        have hfz24_5 := blk_frozen BK180.out 5
        have hcz25_0 : w5.cell? ⟨gb181, 0, none⟩ = some (.string a1_0) := (blk_cell BK181.out 0).trans rfl
        have hcz25_1 : w5.cell? ⟨gb181, 1, none⟩ = some (.int .i64 a1_1) := (blk_cell BK181.out 1).trans rfl
        have hcz25_2 : w5.cell? ⟨gb181, 2, none⟩ = some (.slice A1_2 l1_2.length c1_2) := (blk_cell BK181.out 2).trans rfl
        have hcz25_3 : w5.cell? ⟨gb181, 3, none⟩ = some (.int .i64 a1_3) := (blk_cell BK181.out 3).trans rfl
        have hcz25_4 : w5.cell? ⟨gb181, 4, none⟩ = some (.slice A1_4 l1_4.length c1_4) := (blk_cell BK181.out 4).trans rfl
        have hcz25_5 : w5.cell? ⟨gb181, 5, none⟩ = some (.int .i64 a1_5) := (blk_cell BK181.out 5).trans rfl
        have hfz25_0 := blk_frozen BK181.out 0
        have hfz25_1 := blk_frozen BK181.out 1
        have hfz25_2 := blk_frozen BK181.out 2
        have hfz25_3 := blk_frozen BK181.out 3
        have hfz25_4 := blk_frozen BK181.out 4
        have hfz25_5 := blk_frozen BK181.out 5
        go_wp2
        repeat (go_quiet (fail); try go_wp2)
        go_meet
        case rel => exact ⟨_, (true), (by first | rfl | (simp; done) | (simp [*]; done)), H', ⟨by first | omega | exact Nat.le_refl _⟩, ⟨by (with_reducible repeat (first | refine blk_drewN ?_ _ | refine blk_drew ?_ | refine blk_alloc ?_ _)); exact BK180.out⟩, ⟨by (with_reducible repeat (first | refine blk_drewN ?_ _ | refine blk_drew ?_ | refine blk_alloc ?_ _)); exact BK181.out⟩, ⟨by repeat (first | (with_reducible first | exact HB.out | apply below_alloc | apply pw_below_drewN | apply below_drew1 | refine below_set ?_ GE180.out | refine below_set ?_ GE181.out) | exact HB.out)⟩⟩
    · rw [if_neg c6] at H
      have c6b0 : (a0_0.toList == a1_0.toList) = false := beq_eq_false_iff_ne.mpr c6
      have c6b1 : (a0_0.toList != a1_0.toList) = true := bne_iff_ne.mpr c6
      (first | rw [c6b0] | (simp only [i64_w, i32_w]; rw [c6b0]) | skip)
      have H' := Aside0.mk H
      clear H
      have hnb26 := NB180_181.out
      have hnc26 := NB181_180.out
      have hcz27_0 : w5.cell? ⟨gb180, 0, none⟩ = some (.string a0_0) := (blk_cell BK180.out 0).trans rfl
      have hcz27_1 : w5.cell? ⟨gb180, 1, none⟩ = some (.int .i64 a0_1) := (blk_cell BK180.out 1).trans rfl
      have hcz27_2 : w5.cell? ⟨gb180, 2, none⟩ = some (.slice A0_2 l0_2.length c0_2) := (blk_cell BK180.out 2).trans rfl
      have hcz27_3 : w5.cell? ⟨gb180, 3, none⟩ = some (.int .i64 a0_3) := (blk_cell BK180.out 3).trans rfl
      have hcz27_4 : w5.cell? ⟨gb180, 4, none⟩ = some (.slice A0_4 l0_4.length c0_4) := (blk_cell BK180.out 4).trans rfl
      have hcz27_5 : w5.cell? ⟨gb180, 5, none⟩ = some (.int .i64 a0_5) := (blk_cell BK180.out 5).trans rfl
      have hfz27_0 := blk_frozen BK180.out 0
      have hfz27_1 := blk_frozen BK180.out 1
      have hfz27_2 := blk_frozen BK180.out 2
      have hfz27_3 := blk_frozen BK180.out 3
      have hfz27_4 := blk_frozen BK180.out 4
      have hfz27_5 := blk_frozen BK180.out 5
      have hcz28_0 : w5.cell? ⟨gb181, 0, none⟩ = some (.string a1_0) := (blk_cell BK181.out 0).trans rfl
      have hcz28_1 : w5.cell? ⟨gb181, 1, none⟩ = some (.int .i64 a1_1) := (blk_cell BK181.out 1).trans rfl
      have hcz28_2 : w5.cell? ⟨gb181, 2, none⟩ = some (.slice A1_2 l1_2.length c1_2) := (blk_cell BK181.out 2).trans rfl
      have hcz28_3 : w5.cell? ⟨gb181, 3, none⟩ = some (.int .i64 a1_3) := (blk_cell BK181.out 3).trans rfl
      have hcz28_4 : w5.cell? ⟨gb181, 4, none⟩ = some (.slice A1_4 l1_4.length c1_4) := (blk_cell BK181.out 4).trans rfl
      have hcz28_5 : w5.cell? ⟨gb181, 5, none⟩ = some (.int .i64 a1_5) := (blk_cell BK181.out 5).trans rfl
      have hfz28_0 := blk_frozen BK181.out 0
      have hfz28_1 := blk_frozen BK181.out 1
      have hfz28_2 := blk_frozen BK181.out 2
      have hfz28_3 := blk_frozen BK181.out 3
      have hfz28_4 := blk_frozen BK181.out 4
      have hfz28_5 := blk_frozen BK181.out 5
      go_wp2
      repeat (go_quiet (fail); try go_wp2)
      go_meet
      case rel => exact ⟨_, (true), (by first | rfl | (simp; done) | (simp [*]; done)), H', ⟨by first | omega | exact Nat.le_refl _⟩, ⟨by (with_reducible repeat (first | refine blk_drewN ?_ _ | refine blk_drew ?_ | refine blk_alloc ?_ _)); exact BK180.out⟩, ⟨by (with_reducible repeat (first | refine blk_drewN ?_ _ | refine blk_drew ?_ | refine blk_alloc ?_ _)); exact BK181.out⟩, ⟨by repeat (first | (with_reducible first | exact HB.out | apply below_alloc | apply pw_below_drewN | apply below_drew1 | refine below_set ?_ GE180.out | refine below_set ?_ GE181.out) | exact HB.out)⟩⟩
  case rest =>
    clear HC3
    try clear c1
    try clear c2
    try clear p2
    try clear c4
    try clear c6
    try clear c6b0
    try clear c6b1
    try clear c7
    try clear c7b0
    try clear c7b1
    try clear c8
    try clear c8b0
    try clear c8b1
    try clear c9
    try clear c9b0
    try clear c9b1
    try clear c10
    try clear c10b0
    try clear c10b1
    try clear c10b2
    try clear c11
    try clear c14
    try clear c17
    try clear c20
    try clear c23
    try clear c26
    try clear hcz12_0
    try clear hcz12_1
    try clear hcz12_2
    try clear hcz12_3
    try clear hcz12_4
    try clear hcz12_5
    try clear hcz13_0
    try clear hcz13_1
    try clear hcz13_2
    try clear hcz13_3
    try clear hcz13_4
    try clear hcz13_5
    try clear hcz15_0
    try clear hcz15_1
    try clear hcz15_2
    try clear hcz15_3
    try clear hcz15_4
    try clear hcz15_5
    try clear hcz16_0
    try clear hcz16_1
    try clear hcz16_2
    try clear hcz16_3
    try clear hcz16_4
    try clear hcz16_5
    try clear hcz18_0
    try clear hcz18_1
    try clear hcz18_2
    try clear hcz18_3
    try clear hcz18_4
    try clear hcz18_5
    try clear hcz19_0
    try clear hcz19_1
    try clear hcz19_2
    try clear hcz19_3
    try clear hcz19_4
    try clear hcz19_5
    try clear hcz21_0
    try clear hcz21_1
    try clear hcz21_2
    try clear hcz21_3
    try clear hcz21_4
    try clear hcz21_5
    try clear hcz22_0
    try clear hcz22_1
    try clear hcz22_2
    try clear hcz22_3
    try clear hcz22_4
    try clear hcz22_5
    try clear hcz24_0
    try clear hcz24_1
    try clear hcz24_2
    try clear hcz24_3
    try clear hcz24_4
    try clear hcz24_5
    try clear hcz25_0
    try clear hcz25_1
    try clear hcz25_2
    try clear hcz25_3
    try clear hcz25_4
    try clear hcz25_5
    try clear hcz27_0
    try clear hcz27_1
    try clear hcz27_2
    try clear hcz27_3
    try clear hcz27_4
    try clear hcz27_5
    try clear hcz28_0
    try clear hcz28_1
    try clear hcz28_2
    try clear hcz28_3
    try clear hcz28_4
    try clear hcz28_5
    try clear hfz12_0
    try clear hfz12_1
    try clear hfz12_2
    try clear hfz12_3
    try clear hfz12_4
    try clear hfz12_5
    try clear hfz13_0
    try clear hfz13_1
    try clear hfz13_2
    try clear hfz13_3
    try clear hfz13_4
    try clear hfz13_5
    try clear hfz15_0
    try clear hfz15_1
    try clear hfz15_2
    try clear hfz15_3
    try clear hfz15_4
    try clear hfz15_5
    try clear hfz16_0
    try clear hfz16_1
    try clear hfz16_2
    try clear hfz16_3
    try clear hfz16_4
    try clear hfz16_5
    try clear hfz18_0
    try clear hfz18_1
    try clear hfz18_2
    try clear hfz18_3
    try clear hfz18_4
    try clear hfz18_5
    try clear hfz19_0
    try clear hfz19_1
    try clear hfz19_2
    try clear hfz19_3
    try clear hfz19_4
    try clear hfz19_5
    try clear hfz21_0
    try clear hfz21_1
    try clear hfz21_2
    try clear hfz21_3
    try clear hfz21_4
    try clear hfz21_5
    try clear hfz22_0
    try clear hfz22_1
    try clear hfz22_2
    try clear hfz22_3
    try clear hfz22_4
    try clear hfz22_5
    try clear hfz24_0
    try clear hfz24_1
    try clear hfz24_2
    try clear hfz24_3
    try clear hfz24_4
    try clear hfz24_5
    try clear hfz25_0
    try clear hfz25_1
    try clear hfz25_2
    try clear hfz25_3
    try clear hfz25_4
    try clear hfz25_5
    try clear hfz27_0
    try clear hfz27_1
    try clear hfz27_2
    try clear hfz27_3
    try clear hfz27_4
    try clear hfz27_5
    try clear hfz28_0
    try clear hfz28_1
    try clear hfz28_2
    try clear hfz28_3
    try clear hfz28_4
    try clear hfz28_5
    obtain ⟨kq, x50_2, rfl, HA, HJ2, BK180, BK181, HB⟩ := hcut
    cases kq with
    | zero => exact absurd HA.out (by simp [forebayref07_Equal.j0])
    | succ kj2 =>
      have H := HA.out
      clear HA
      simp only [forebayref07_Equal.j0] at H
      by_cases c29 : x50_2 = true
      · subst c29
        have H1 : (some false) = some r := by rw [if_pos rfl] at H; exact H
        clear H
        have H := H1
        clear H1
        obtain rfl := Option.some.inj H
        go_wp2
        repeat (go_quiet (fail); try go_wp2)
        go_ret
        exact ⟨by first | rfl | (simp [errW_none, errW_some] <;> rfl) | (simp [*, errW_none, errW_some] <;> rfl), by repeat (first | (with_reducible first | exact HB.out | apply below_alloc | apply pw_below_drewN | apply below_drew1 | refine below_set ?_ GE180.out | refine below_set ?_ GE181.out) | exact HB.out)⟩
      · replace c29 := Bool.eq_false_iff.mpr c29
        subst c29
        have H1 : (forebayref07_Equal.l0 kj2 0 a0_0 a0_1 l0_2 a0_3 l0_4 a0_5 a1_0 a1_1 l1_2 a1_3 l1_4 a1_5) = some r := by rw [if_neg (show ¬ (false = true) by decide)] at H; exact H
        clear H
        have H := H1
        clear H1
        have H' := Aside0.mk H
        clear H
        go_wp2
        repeat (go_quiet (fail); try go_wp2)
        go_loopg [5] kj2 (fun kq v5 w' => ∃ (x5_2 : Int), v5 = .int .i64 x5_2 ∧ Aside0 (forebayref07_Equal.l0 kq x5_2 a0_0 a0_1 l0_2 a0_3 l0_4 a0_5 a1_0 a1_1 l1_2 a1_3 l1_4 a1_5 = some r) ∧ Aside0 (kq ≤ kj2) ∧ Aside0 (w'.heap[gb180]? = some (.cells #[.string a0_0, .int .i64 a0_1, (.slice A0_2 l0_2.length c0_2), .int .i64 a0_3, (.slice A0_4 l0_4.length c0_4), .int .i64 a0_5] 25 (0, 0))) ∧ Aside0 (w'.heap[gb181]? = some (.cells #[.string a1_0, .int .i64 a1_1, (.slice A1_2 l1_2.length c1_2), .int .i64 a1_3, (.slice A1_4 l1_4.length c1_4), .int .i64 a1_5] 25 (0, 0))) ∧ Aside0 (Below w.heap.size w w'))
        case atStart => exact ⟨(0), (by first | rfl | (simp; done) | (simp [*]; done)), H', ⟨Nat.le_refl _⟩, ⟨by (with_reducible repeat (first | refine blk_drewN ?_ _ | refine blk_drew ?_ | refine blk_alloc ?_ _)); exact BK180.out⟩, ⟨by (with_reducible repeat (first | refine blk_drewN ?_ _ | refine blk_drew ?_ | refine blk_alloc ?_ _)); exact BK181.out⟩, ⟨by repeat (first | (with_reducible first | exact HB.out | apply below_alloc | apply pw_below_drewN | apply below_drew1 | refine below_set ?_ GE180.out | refine below_set ?_ GE181.out) | exact HB.out)⟩⟩
        case round =>
          clear H'
          try clear c1
          try clear c2
          try clear p2
          try clear c4
          try clear c6
          try clear c6b0
          try clear c6b1
          try clear c7
          try clear c7b0
          try clear c7b1
          try clear c8
          try clear c8b0
          try clear c8b1
          try clear c9
          try clear c9b0
          try clear c9b1
          try clear c10
          try clear c10b0
          try clear c10b1
          try clear c10b2
          try clear c11
          try clear c14
          try clear c17
          try clear c20
          try clear c23
          try clear c26
          try clear c29
          try clear hcz12_0
          try clear hcz12_1
          try clear hcz12_2
          try clear hcz12_3
          try clear hcz12_4
          try clear hcz12_5
          try clear hcz13_0
          try clear hcz13_1
          try clear hcz13_2
          try clear hcz13_3
          try clear hcz13_4
          try clear hcz13_5
          try clear hcz15_0
          try clear hcz15_1
          try clear hcz15_2
          try clear hcz15_3
          try clear hcz15_4
          try clear hcz15_5
          try clear hcz16_0
          try clear hcz16_1
          try clear hcz16_2
          try clear hcz16_3
          try clear hcz16_4
          try clear hcz16_5
          try clear hcz18_0
          try clear hcz18_1
          try clear hcz18_2
          try clear hcz18_3
          try clear hcz18_4
          try clear hcz18_5
          try clear hcz19_0
          try clear hcz19_1
          try clear hcz19_2
          try clear hcz19_3
          try clear hcz19_4
          try clear hcz19_5
          try clear hcz21_0
          try clear hcz21_1
          try clear hcz21_2
          try clear hcz21_3
          try clear hcz21_4
          try clear hcz21_5
          try clear hcz22_0
          try clear hcz22_1
          try clear hcz22_2
          try clear hcz22_3
          try clear hcz22_4
          try clear hcz22_5
          try clear hcz24_0
          try clear hcz24_1
          try clear hcz24_2
          try clear hcz24_3
          try clear hcz24_4
          try clear hcz24_5
          try clear hcz25_0
          try clear hcz25_1
          try clear hcz25_2
          try clear hcz25_3
          try clear hcz25_4
          try clear hcz25_5
          try clear hcz27_0
          try clear hcz27_1
          try clear hcz27_2
          try clear hcz27_3
          try clear hcz27_4
          try clear hcz27_5
          try clear hcz28_0
          try clear hcz28_1
          try clear hcz28_2
          try clear hcz28_3
          try clear hcz28_4
          try clear hcz28_5
          try clear hfz12_0
          try clear hfz12_1
          try clear hfz12_2
          try clear hfz12_3
          try clear hfz12_4
          try clear hfz12_5
          try clear hfz13_0
          try clear hfz13_1
          try clear hfz13_2
          try clear hfz13_3
          try clear hfz13_4
          try clear hfz13_5
          try clear hfz15_0
          try clear hfz15_1
          try clear hfz15_2
          try clear hfz15_3
          try clear hfz15_4
          try clear hfz15_5
          try clear hfz16_0
          try clear hfz16_1
          try clear hfz16_2
          try clear hfz16_3
          try clear hfz16_4
          try clear hfz16_5
          try clear hfz18_0
          try clear hfz18_1
          try clear hfz18_2
          try clear hfz18_3
          try clear hfz18_4
          try clear hfz18_5
          try clear hfz19_0
          try clear hfz19_1
          try clear hfz19_2
          try clear hfz19_3
          try clear hfz19_4
          try clear hfz19_5
          try clear hfz21_0
          try clear hfz21_1
          try clear hfz21_2
          try clear hfz21_3
          try clear hfz21_4
          try clear hfz21_5
          try clear hfz22_0
          try clear hfz22_1
          try clear hfz22_2
          try clear hfz22_3
          try clear hfz22_4
          try clear hfz22_5
          try clear hfz24_0
          try clear hfz24_1
          try clear hfz24_2
          try clear hfz24_3
          try clear hfz24_4
          try clear hfz24_5
          try clear hfz25_0
          try clear hfz25_1
          try clear hfz25_2
          try clear hfz25_3
          try clear hfz25_4
          try clear hfz25_5
          try clear hfz27_0
          try clear hfz27_1
          try clear hfz27_2
          try clear hfz27_3
          try clear hfz27_4
          try clear hfz27_5
          try clear hfz28_0
          try clear hfz28_1
          try clear hfz28_2
          try clear hfz28_3
          try clear hfz28_4
          try clear hfz28_5
          try clear p2
          obtain ⟨x5_2, rfl, HA, HK2, BK180, BK181, HB⟩ := hrel
          cases gk with
          | zero => exact absurd HA.out (by simp [forebayref07_Equal.l0])
          | succ k2 =>
            have H := HA.out
            clear HA
            simp only [forebayref07_Equal.l0] at H
            by_cases c30 : x5_2 < (l0_2.length : Int)
            · rw [if_pos c30] at H
              have c30b0 : decide (x5_2 < (l0_2.length : Int)) = true := decide_eq_true c30
              clear c30
              by_cases c31 : 0 ≤ x5_2
              · rw [if_pos c31] at H
                have c31b0 : decide (0 ≤ x5_2) = true := decide_eq_true c31
                clear c31
                by_cases c32 : x5_2 < (l1_2.length : Int)
                · rw [if_pos c32] at H
                  have c32b0 : decide (x5_2 < (l1_2.length : Int)) = true := decide_eq_true c32
                  clear c32
                  by_cases c33 : (!(((rd_T46 l0_2 x5_2).f0) == ((rd_T46 l1_2 x5_2).f0)) || (!(((rd_T46 l0_2 x5_2).f1) == ((rd_T46 l1_2 x5_2).f1)) || (!(((rd_T46 l0_2 x5_2).f2) == ((rd_T46 l1_2 x5_2).f2))))) = true
                  · rw [if_pos c33] at H
                    have c33b0 : (!(((rd_T46 l0_2 x5_2).f0) == ((rd_T46 l1_2 x5_2).f0)) || (!(((rd_T46 l0_2 x5_2).f1) == ((rd_T46 l1_2 x5_2).f1)) || (!(((rd_T46 l0_2 x5_2).f2) == ((rd_T46 l1_2 x5_2).f2))))) = true := c33
                    clear c33
                    obtain rfl := Option.some.inj H
                    have hnb34 := NB180_181.out
                    have hnc34 := NB181_180.out
                    have hcz35_0 : wr.cell? ⟨gb180, 0, none⟩ = some (.string a0_0) := (blk_cell BK180.out 0).trans rfl
                    have hcz35_1 : wr.cell? ⟨gb180, 1, none⟩ = some (.int .i64 a0_1) := (blk_cell BK180.out 1).trans rfl
                    have hcz35_2 : wr.cell? ⟨gb180, 2, none⟩ = some (.slice A0_2 l0_2.length c0_2) := (blk_cell BK180.out 2).trans rfl
                    have hcz35_3 : wr.cell? ⟨gb180, 3, none⟩ = some (.int .i64 a0_3) := (blk_cell BK180.out 3).trans rfl
                    have hcz35_4 : wr.cell? ⟨gb180, 4, none⟩ = some (.slice A0_4 l0_4.length c0_4) := (blk_cell BK180.out 4).trans rfl
                    have hcz35_5 : wr.cell? ⟨gb180, 5, none⟩ = some (.int .i64 a0_5) := (blk_cell BK180.out 5).trans rfl
                    have hfz35_0 := blk_frozen BK180.out 0
                    have hfz35_1 := blk_frozen BK180.out 1
                    have hfz35_2 := blk_frozen BK180.out 2
                    have hfz35_3 := blk_frozen BK180.out 3
                    have hfz35_4 := blk_frozen BK180.out 4
                    have hfz35_5 := blk_frozen BK180.out 5
                    have p182 : 0 ≤ (x5_2 : Int) := of_decide_eq_true (by first | (with_reducible assumption) | assumption)
                    have q182 : x5_2 < (l0_2.length : Int) := of_decide_eq_true (by first | (with_reducible assumption) | assumption)
                    obtain ⟨ad182, e182, hx182_0, hx182_1, hx182_2⟩ := at_T46 HR0_2.out x5_2 p182 q182
                    cases e182
                    replace hx182_0 := (HB.out.cell (World.block_lt_of_cell? w _ hx182_0)).trans hx182_0
                    replace hx182_1 := (HB.out.cell (World.block_lt_of_cell? w _ hx182_1)).trans hx182_1
                    replace hx182_2 := (HB.out.cell (World.block_lt_of_cell? w _ hx182_2)).trans hx182_2
                    replace p182 := eq_true p182
                    replace q182 := eq_true q182
                    have hcz36_0 : wr.cell? ⟨gb181, 0, none⟩ = some (.string a1_0) := (blk_cell BK181.out 0).trans rfl
                    have hcz36_1 : wr.cell? ⟨gb181, 1, none⟩ = some (.int .i64 a1_1) := (blk_cell BK181.out 1).trans rfl
                    have hcz36_2 : wr.cell? ⟨gb181, 2, none⟩ = some (.slice A1_2 l1_2.length c1_2) := (blk_cell BK181.out 2).trans rfl
                    have hcz36_3 : wr.cell? ⟨gb181, 3, none⟩ = some (.int .i64 a1_3) := (blk_cell BK181.out 3).trans rfl
                    have hcz36_4 : wr.cell? ⟨gb181, 4, none⟩ = some (.slice A1_4 l1_4.length c1_4) := (blk_cell BK181.out 4).trans rfl
                    have hcz36_5 : wr.cell? ⟨gb181, 5, none⟩ = some (.int .i64 a1_5) := (blk_cell BK181.out 5).trans rfl
                    have hfz36_0 := blk_frozen BK181.out 0
                    have hfz36_1 := blk_frozen BK181.out 1
                    have hfz36_2 := blk_frozen BK181.out 2
                    have hfz36_3 := blk_frozen BK181.out 3
                    have hfz36_4 := blk_frozen BK181.out 4
                    have hfz36_5 := blk_frozen BK181.out 5
                    have p183 : 0 ≤ (x5_2 : Int) := of_decide_eq_true (by first | (with_reducible assumption) | assumption)
                    have q183 : x5_2 < (l1_2.length : Int) := of_decide_eq_true (by first | (with_reducible assumption) | assumption)
                    obtain ⟨ad183, e183, hx183_0, hx183_1, hx183_2⟩ := at_T46 HR1_2.out x5_2 p183 q183
                    cases e183
                    replace hx183_0 := (HB.out.cell (World.block_lt_of_cell? w _ hx183_0)).trans hx183_0
                    replace hx183_1 := (HB.out.cell (World.block_lt_of_cell? w _ hx183_1)).trans hx183_1
                    replace hx183_2 := (HB.out.cell (World.block_lt_of_cell? w _ hx183_2)).trans hx183_2
                    replace p183 := eq_true p183
                    replace q183 := eq_true q183
                    go_wp2
                    repeat (go_quiet (fail); try go_wp2)
                    go_ret
                    exact ⟨by first | rfl | (simp [errW_none, errW_some] <;> rfl) | (simp [*, errW_none, errW_some] <;> rfl), by repeat (first | (with_reducible first | exact HB.out | apply below_alloc | apply pw_below_drewN | apply below_drew1 | refine below_set ?_ GE180.out | refine below_set ?_ GE181.out) | exact HB.out)⟩
                  · rw [if_neg c33] at H
                    have c33b0 : (!(((rd_T46 l0_2 x5_2).f0) == ((rd_T46 l1_2 x5_2).f0)) || (!(((rd_T46 l0_2 x5_2).f1) == ((rd_T46 l1_2 x5_2).f1)) || (!(((rd_T46 l0_2 x5_2).f2) == ((rd_T46 l1_2 x5_2).f2))))) = false := by simpa using c33
                    clear c33
                    have H' := Aside0.mk H
                    clear H
                    have hnb37 := NB180_181.out
                    have hnc37 := NB181_180.out
                    have hcz38_0 : wr.cell? ⟨gb180, 0, none⟩ = some (.string a0_0) := (blk_cell BK180.out 0).trans rfl
                    have hcz38_1 : wr.cell? ⟨gb180, 1, none⟩ = some (.int .i64 a0_1) := (blk_cell BK180.out 1).trans rfl
                    have hcz38_2 : wr.cell? ⟨gb180, 2, none⟩ = some (.slice A0_2 l0_2.length c0_2) := (blk_cell BK180.out 2).trans rfl
                    have hcz38_3 : wr.cell? ⟨gb180, 3, none⟩ = some (.int .i64 a0_3) := (blk_cell BK180.out 3).trans rfl
                    have hcz38_4 : wr.cell? ⟨gb180, 4, none⟩ = some (.slice A0_4 l0_4.length c0_4) := (blk_cell BK180.out 4).trans rfl
                    have hcz38_5 : wr.cell? ⟨gb180, 5, none⟩ = some (.int .i64 a0_5) := (blk_cell BK180.out 5).trans rfl
                    have hfz38_0 := blk_frozen BK180.out 0
                    have hfz38_1 := blk_frozen BK180.out 1
                    have hfz38_2 := blk_frozen BK180.out 2
                    have hfz38_3 := blk_frozen BK180.out 3
                    have hfz38_4 := blk_frozen BK180.out 4
                    have hfz38_5 := blk_frozen BK180.out 5
                    have p182 : 0 ≤ (x5_2 : Int) := of_decide_eq_true (by first | (with_reducible assumption) | assumption)
                    have q182 : x5_2 < (l0_2.length : Int) := of_decide_eq_true (by first | (with_reducible assumption) | assumption)
                    obtain ⟨ad182, e182, hx182_0, hx182_1, hx182_2⟩ := at_T46 HR0_2.out x5_2 p182 q182
                    cases e182
                    replace hx182_0 := (HB.out.cell (World.block_lt_of_cell? w _ hx182_0)).trans hx182_0
                    replace hx182_1 := (HB.out.cell (World.block_lt_of_cell? w _ hx182_1)).trans hx182_1
                    replace hx182_2 := (HB.out.cell (World.block_lt_of_cell? w _ hx182_2)).trans hx182_2
                    replace p182 := eq_true p182
                    replace q182 := eq_true q182
                    have hcz39_0 : wr.cell? ⟨gb181, 0, none⟩ = some (.string a1_0) := (blk_cell BK181.out 0).trans rfl
                    have hcz39_1 : wr.cell? ⟨gb181, 1, none⟩ = some (.int .i64 a1_1) := (blk_cell BK181.out 1).trans rfl
                    have hcz39_2 : wr.cell? ⟨gb181, 2, none⟩ = some (.slice A1_2 l1_2.length c1_2) := (blk_cell BK181.out 2).trans rfl
                    have hcz39_3 : wr.cell? ⟨gb181, 3, none⟩ = some (.int .i64 a1_3) := (blk_cell BK181.out 3).trans rfl
                    have hcz39_4 : wr.cell? ⟨gb181, 4, none⟩ = some (.slice A1_4 l1_4.length c1_4) := (blk_cell BK181.out 4).trans rfl
                    have hcz39_5 : wr.cell? ⟨gb181, 5, none⟩ = some (.int .i64 a1_5) := (blk_cell BK181.out 5).trans rfl
                    have hfz39_0 := blk_frozen BK181.out 0
                    have hfz39_1 := blk_frozen BK181.out 1
                    have hfz39_2 := blk_frozen BK181.out 2
                    have hfz39_3 := blk_frozen BK181.out 3
                    have hfz39_4 := blk_frozen BK181.out 4
                    have hfz39_5 := blk_frozen BK181.out 5
                    have p183 : 0 ≤ (x5_2 : Int) := of_decide_eq_true (by first | (with_reducible assumption) | assumption)
                    have q183 : x5_2 < (l1_2.length : Int) := of_decide_eq_true (by first | (with_reducible assumption) | assumption)
                    obtain ⟨ad183, e183, hx183_0, hx183_1, hx183_2⟩ := at_T46 HR1_2.out x5_2 p183 q183
                    cases e183
                    replace hx183_0 := (HB.out.cell (World.block_lt_of_cell? w _ hx183_0)).trans hx183_0
                    replace hx183_1 := (HB.out.cell (World.block_lt_of_cell? w _ hx183_1)).trans hx183_1
                    replace hx183_2 := (HB.out.cell (World.block_lt_of_cell? w _ hx183_2)).trans hx183_2
                    replace p183 := eq_true p183
                    replace q183 := eq_true q183
                    go_wp2
                    repeat (go_quiet (fail); try go_wp2)
                    go_roundg k2
                    case measure => have := HJ2.out; have := HK2.out; omega
                    case rel => exact ⟨(wrap64 (x5_2 + 1)), (by first | rfl | (simp; done) | (simp [*]; done)), H', ⟨by have := HJ2.out; have := HK2.out; omega⟩, ⟨by (with_reducible repeat (first | refine blk_drewN ?_ _ | refine blk_drew ?_ | refine blk_alloc ?_ _)); exact BK180.out⟩, ⟨by (with_reducible repeat (first | refine blk_drewN ?_ _ | refine blk_drew ?_ | refine blk_alloc ?_ _)); exact BK181.out⟩, ⟨by repeat (first | (with_reducible first | exact HB.out | apply below_alloc | apply pw_below_drewN | apply below_drew1 | refine below_set ?_ GE180.out | refine below_set ?_ GE181.out) | exact HB.out)⟩⟩
                · rw [if_neg c32] at H
                  exact absurd H (by simp)
              · rw [if_neg c31] at H
                exact absurd H (by simp)
            · rw [if_neg c30] at H
              have c30b0 : decide (x5_2 < (l0_2.length : Int)) = false := decide_eq_false c30
              clear c30
              have H' := Aside0.mk H
              clear H
              have hnb40 := NB180_181.out
              have hnc40 := NB181_180.out
              have hcz41_0 : wr.cell? ⟨gb180, 0, none⟩ = some (.string a0_0) := (blk_cell BK180.out 0).trans rfl
              have hcz41_1 : wr.cell? ⟨gb180, 1, none⟩ = some (.int .i64 a0_1) := (blk_cell BK180.out 1).trans rfl
              have hcz41_2 : wr.cell? ⟨gb180, 2, none⟩ = some (.slice A0_2 l0_2.length c0_2) := (blk_cell BK180.out 2).trans rfl
              have hcz41_3 : wr.cell? ⟨gb180, 3, none⟩ = some (.int .i64 a0_3) := (blk_cell BK180.out 3).trans rfl
              have hcz41_4 : wr.cell? ⟨gb180, 4, none⟩ = some (.slice A0_4 l0_4.length c0_4) := (blk_cell BK180.out 4).trans rfl
              have hcz41_5 : wr.cell? ⟨gb180, 5, none⟩ = some (.int .i64 a0_5) := (blk_cell BK180.out 5).trans rfl
              have hfz41_0 := blk_frozen BK180.out 0
              have hfz41_1 := blk_frozen BK180.out 1
              have hfz41_2 := blk_frozen BK180.out 2
              have hfz41_3 := blk_frozen BK180.out 3
              have hfz41_4 := blk_frozen BK180.out 4
              have hfz41_5 := blk_frozen BK180.out 5
              go_wp2
              repeat (go_quiet (fail); try go_wp2)
              go_loopg [6] k2 (fun kq v6 w' => ∃ (x6_3 : Int), v6 = .int .i64 x6_3 ∧ Aside0 (forebayref07_Equal.l1 kq x6_3 a0_0 a0_1 l0_2 a0_3 l0_4 a0_5 a1_0 a1_1 l1_2 a1_3 l1_4 a1_5 = some r) ∧ Aside0 (kq ≤ k2) ∧ Aside0 (w'.heap[gb180]? = some (.cells #[.string a0_0, .int .i64 a0_1, (.slice A0_2 l0_2.length c0_2), .int .i64 a0_3, (.slice A0_4 l0_4.length c0_4), .int .i64 a0_5] 25 (0, 0))) ∧ Aside0 (w'.heap[gb181]? = some (.cells #[.string a1_0, .int .i64 a1_1, (.slice A1_2 l1_2.length c1_2), .int .i64 a1_3, (.slice A1_4 l1_4.length c1_4), .int .i64 a1_5] 25 (0, 0))) ∧ Aside0 (Below w.heap.size w w'))
              case atStart => exact ⟨(0), (by first | rfl | (simp; done) | (simp [*]; done)), H', ⟨Nat.le_refl _⟩, ⟨by (with_reducible repeat (first | refine blk_drewN ?_ _ | refine blk_drew ?_ | refine blk_alloc ?_ _)); exact BK180.out⟩, ⟨by (with_reducible repeat (first | refine blk_drewN ?_ _ | refine blk_drew ?_ | refine blk_alloc ?_ _)); exact BK181.out⟩, ⟨by repeat (first | (with_reducible first | exact HB.out | apply below_alloc | apply pw_below_drewN | apply below_drew1 | refine below_set ?_ GE180.out | refine below_set ?_ GE181.out) | exact HB.out)⟩⟩
              case round =>
                clear H'
                try clear c1
                try clear p1
                try clear q1
                try clear hx1
                try clear c2
                try clear p2
                try clear c3
                try clear c4
                try clear c6
                try clear c6b0
                try clear c6b1
                try clear p6
                try clear c7
                try clear c7b0
                try clear c7b1
                try clear c8
                try clear c8b0
                try clear c8b1
                try clear c9
                try clear c9b0
                try clear c9b1
                try clear c10
                try clear c10b0
                try clear c10b1
                try clear c10b2
                try clear c11
                try clear c14
                try clear c17
                try clear p18
                try clear q18
                try clear hx18
                try clear c20
                try clear c23
                try clear c26
                try clear c29
                try clear c30
                try clear c30b0
                try clear c31
                try clear c31b0
                try clear c32
                try clear c32b0
                try clear c33
                try clear c33b0
                try clear c34
                try clear c37
                try clear c40
                try clear hcz12_0
                try clear hcz12_1
                try clear hcz12_2
                try clear hcz12_3
                try clear hcz12_4
                try clear hcz12_5
                try clear hcz13_0
                try clear hcz13_1
                try clear hcz13_2
                try clear hcz13_3
                try clear hcz13_4
                try clear hcz13_5
                try clear hcz15_0
                try clear hcz15_1
                try clear hcz15_2
                try clear hcz15_3
                try clear hcz15_4
                try clear hcz15_5
                try clear hcz16_0
                try clear hcz16_1
                try clear hcz16_2
                try clear hcz16_3
                try clear hcz16_4
                try clear hcz16_5
                try clear hcz18_0
                try clear hcz18_1
                try clear hcz18_2
                try clear hcz18_3
                try clear hcz18_4
                try clear hcz18_5
                try clear hcz19_0
                try clear hcz19_1
                try clear hcz19_2
                try clear hcz19_3
                try clear hcz19_4
                try clear hcz19_5
                try clear hcz21_0
                try clear hcz21_1
                try clear hcz21_2
                try clear hcz21_3
                try clear hcz21_4
                try clear hcz21_5
                try clear hcz22_0
                try clear hcz22_1
                try clear hcz22_2
                try clear hcz22_3
                try clear hcz22_4
                try clear hcz22_5
                try clear hcz24_0
                try clear hcz24_1
                try clear hcz24_2
                try clear hcz24_3
                try clear hcz24_4
                try clear hcz24_5
                try clear hcz25_0
                try clear hcz25_1
                try clear hcz25_2
                try clear hcz25_3
                try clear hcz25_4
                try clear hcz25_5
                try clear hcz27_0
                try clear hcz27_1
                try clear hcz27_2
                try clear hcz27_3
                try clear hcz27_4
                try clear hcz27_5
                try clear hcz28_0
                try clear hcz28_1
                try clear hcz28_2
                try clear hcz28_3
                try clear hcz28_4
                try clear hcz28_5
                try clear hcz35_0
                try clear hcz35_1
                try clear hcz35_2
                try clear hcz35_3
                try clear hcz35_4
                try clear hcz35_5
                try clear hcz36_0
                try clear hcz36_1
                try clear hcz36_2
                try clear hcz36_3
                try clear hcz36_4
                try clear hcz36_5
                try clear hcz38_0
                try clear hcz38_1
                try clear hcz38_2
                try clear hcz38_3
                try clear hcz38_4
                try clear hcz38_5
                try clear hcz39_0
                try clear hcz39_1
                try clear hcz39_2
                try clear hcz39_3
                try clear hcz39_4
                try clear hcz39_5
                try clear hcz41_0
                try clear hcz41_1
                try clear hcz41_2
                try clear hcz41_3
                try clear hcz41_4
                try clear hcz41_5
                try clear hfz12_0
                try clear hfz12_1
                try clear hfz12_2
                try clear hfz12_3
                try clear hfz12_4
                try clear hfz12_5
                try clear hfz13_0
                try clear hfz13_1
                try clear hfz13_2
                try clear hfz13_3
                try clear hfz13_4
                try clear hfz13_5
                try clear hfz15_0
                try clear hfz15_1
                try clear hfz15_2
                try clear hfz15_3
                try clear hfz15_4
                try clear hfz15_5
                try clear hfz16_0
                try clear hfz16_1
                try clear hfz16_2
                try clear hfz16_3
                try clear hfz16_4
                try clear hfz16_5
                try clear hfz18_0
                try clear hfz18_1
                try clear hfz18_2
                try clear hfz18_3
                try clear hfz18_4
                try clear hfz18_5
                try clear hfz19_0
                try clear hfz19_1
                try clear hfz19_2
                try clear hfz19_3
                try clear hfz19_4
                try clear hfz19_5
                try clear hfz21_0
                try clear hfz21_1
                try clear hfz21_2
                try clear hfz21_3
                try clear hfz21_4
                try clear hfz21_5
                try clear hfz22_0
                try clear hfz22_1
                try clear hfz22_2
                try clear hfz22_3
                try clear hfz22_4
                try clear hfz22_5
                try clear hfz24_0
                try clear hfz24_1
                try clear hfz24_2
                try clear hfz24_3
                try clear hfz24_4
                try clear hfz24_5
                try clear hfz25_0
                try clear hfz25_1
                try clear hfz25_2
                try clear hfz25_3
                try clear hfz25_4
                try clear hfz25_5
                try clear hfz27_0
                try clear hfz27_1
                try clear hfz27_2
                try clear hfz27_3
                try clear hfz27_4
                try clear hfz27_5
                try clear hfz28_0
                try clear hfz28_1
                try clear hfz28_2
                try clear hfz28_3
                try clear hfz28_4
                try clear hfz28_5
                try clear hfz35_0
                try clear hfz35_1
                try clear hfz35_2
                try clear hfz35_3
                try clear hfz35_4
                try clear hfz35_5
                try clear hfz36_0
                try clear hfz36_1
                try clear hfz36_2
                try clear hfz36_3
                try clear hfz36_4
                try clear hfz36_5
                try clear hfz38_0
                try clear hfz38_1
                try clear hfz38_2
                try clear hfz38_3
                try clear hfz38_4
                try clear hfz38_5
                try clear hfz39_0
                try clear hfz39_1
                try clear hfz39_2
                try clear hfz39_3
                try clear hfz39_4
                try clear hfz39_5
                try clear hfz41_0
                try clear hfz41_1
                try clear hfz41_2
                try clear hfz41_3
                try clear hfz41_4
                try clear hfz41_5
                try clear hx182_0
                try clear hx182_1
                try clear hx182_2
                try clear hx183_0
                try clear hx183_1
                try clear hx183_2
                try clear p182
                try clear p183
                try clear p2
                try clear q182
                try clear q183
                obtain ⟨x6_3, rfl, HA, HK3, BK180, BK181, HB⟩ := hrel
                cases gk with
                | zero => exact absurd HA.out (by simp [forebayref07_Equal.l1])
                | succ k3 =>
                  have H := HA.out
                  clear HA
                  simp only [forebayref07_Equal.l1] at H
                  by_cases c42 : x6_3 < (l0_4.length : Int)
                  · rw [if_pos c42] at H
                    have c42b0 : decide (x6_3 < (l0_4.length : Int)) = true := decide_eq_true c42
                    clear c42
                    by_cases c43 : 0 ≤ x6_3
                    · rw [if_pos c43] at H
                      have c43b0 : decide (0 ≤ x6_3) = true := decide_eq_true c43
                      clear c43
                      by_cases c44 : x6_3 < (l1_4.length : Int)
                      · rw [if_pos c44] at H
                        have c44b0 : decide (x6_3 < (l1_4.length : Int)) = true := decide_eq_true c44
                        clear c44
                        by_cases c45 : (!((((rd_T48 l0_4 x6_3).f0).toList) == (((rd_T48 l1_4 x6_3).f0).toList)) || (!((((rd_T48 l0_4 x6_3).f1).toList) == (((rd_T48 l1_4 x6_3).f1).toList)))) = true
                        · rw [if_pos c45] at H
                          have c45b0 : (!((((rd_T48 l0_4 x6_3).f0).toList) == (((rd_T48 l1_4 x6_3).f0).toList)) || (!((((rd_T48 l0_4 x6_3).f1).toList) == (((rd_T48 l1_4 x6_3).f1).toList)))) = true := c45
                          clear c45
                          obtain rfl := Option.some.inj H
                          have hnb46 := NB180_181.out
                          have hnc46 := NB181_180.out
                          have hcz47_0 : wr.cell? ⟨gb180, 0, none⟩ = some (.string a0_0) := (blk_cell BK180.out 0).trans rfl
                          have hcz47_1 : wr.cell? ⟨gb180, 1, none⟩ = some (.int .i64 a0_1) := (blk_cell BK180.out 1).trans rfl
                          have hcz47_2 : wr.cell? ⟨gb180, 2, none⟩ = some (.slice A0_2 l0_2.length c0_2) := (blk_cell BK180.out 2).trans rfl
                          have hcz47_3 : wr.cell? ⟨gb180, 3, none⟩ = some (.int .i64 a0_3) := (blk_cell BK180.out 3).trans rfl
                          have hcz47_4 : wr.cell? ⟨gb180, 4, none⟩ = some (.slice A0_4 l0_4.length c0_4) := (blk_cell BK180.out 4).trans rfl
                          have hcz47_5 : wr.cell? ⟨gb180, 5, none⟩ = some (.int .i64 a0_5) := (blk_cell BK180.out 5).trans rfl
                          have hfz47_0 := blk_frozen BK180.out 0
                          have hfz47_1 := blk_frozen BK180.out 1
                          have hfz47_2 := blk_frozen BK180.out 2
                          have hfz47_3 := blk_frozen BK180.out 3
                          have hfz47_4 := blk_frozen BK180.out 4
                          have hfz47_5 := blk_frozen BK180.out 5
                          have p184 : 0 ≤ (x6_3 : Int) := of_decide_eq_true (by first | (with_reducible assumption) | assumption)
                          have q184 : x6_3 < (l0_4.length : Int) := of_decide_eq_true (by first | (with_reducible assumption) | assumption)
                          obtain ⟨ad184, e184, hx184_0, hx184_1⟩ := at_T48 HR0_4.out x6_3 p184 q184
                          cases e184
                          replace hx184_0 := (HB.out.cell (World.block_lt_of_cell? w _ hx184_0)).trans hx184_0
                          replace hx184_1 := (HB.out.cell (World.block_lt_of_cell? w _ hx184_1)).trans hx184_1
                          replace p184 := eq_true p184
                          replace q184 := eq_true q184
                          have hcz48_0 : wr.cell? ⟨gb181, 0, none⟩ = some (.string a1_0) := (blk_cell BK181.out 0).trans rfl
                          have hcz48_1 : wr.cell? ⟨gb181, 1, none⟩ = some (.int .i64 a1_1) := (blk_cell BK181.out 1).trans rfl
                          have hcz48_2 : wr.cell? ⟨gb181, 2, none⟩ = some (.slice A1_2 l1_2.length c1_2) := (blk_cell BK181.out 2).trans rfl
                          have hcz48_3 : wr.cell? ⟨gb181, 3, none⟩ = some (.int .i64 a1_3) := (blk_cell BK181.out 3).trans rfl
                          have hcz48_4 : wr.cell? ⟨gb181, 4, none⟩ = some (.slice A1_4 l1_4.length c1_4) := (blk_cell BK181.out 4).trans rfl
                          have hcz48_5 : wr.cell? ⟨gb181, 5, none⟩ = some (.int .i64 a1_5) := (blk_cell BK181.out 5).trans rfl
                          have hfz48_0 := blk_frozen BK181.out 0
                          have hfz48_1 := blk_frozen BK181.out 1
                          have hfz48_2 := blk_frozen BK181.out 2
                          have hfz48_3 := blk_frozen BK181.out 3
                          have hfz48_4 := blk_frozen BK181.out 4
                          have hfz48_5 := blk_frozen BK181.out 5
                          have p185 : 0 ≤ (x6_3 : Int) := of_decide_eq_true (by first | (with_reducible assumption) | assumption)
                          have q185 : x6_3 < (l1_4.length : Int) := of_decide_eq_true (by first | (with_reducible assumption) | assumption)
                          obtain ⟨ad185, e185, hx185_0, hx185_1⟩ := at_T48 HR1_4.out x6_3 p185 q185
                          cases e185
                          replace hx185_0 := (HB.out.cell (World.block_lt_of_cell? w _ hx185_0)).trans hx185_0
                          replace hx185_1 := (HB.out.cell (World.block_lt_of_cell? w _ hx185_1)).trans hx185_1
                          replace p185 := eq_true p185
                          replace q185 := eq_true q185
                          go_wp2
                          repeat (go_quiet (fail); try go_wp2)
                          go_ret
                          exact ⟨by first | rfl | (simp [errW_none, errW_some] <;> rfl) | (simp [*, errW_none, errW_some] <;> rfl), by repeat (first | (with_reducible first | exact HB.out | apply below_alloc | apply pw_below_drewN | apply below_drew1 | refine below_set ?_ GE180.out | refine below_set ?_ GE181.out) | exact HB.out)⟩
                        · rw [if_neg c45] at H
                          have c45b0 : (!((((rd_T48 l0_4 x6_3).f0).toList) == (((rd_T48 l1_4 x6_3).f0).toList)) || (!((((rd_T48 l0_4 x6_3).f1).toList) == (((rd_T48 l1_4 x6_3).f1).toList)))) = false := by simpa using c45
                          clear c45
                          have H' := Aside0.mk H
                          clear H
                          have hnb49 := NB180_181.out
                          have hnc49 := NB181_180.out
                          have hcz50_0 : wr.cell? ⟨gb180, 0, none⟩ = some (.string a0_0) := (blk_cell BK180.out 0).trans rfl
                          have hcz50_1 : wr.cell? ⟨gb180, 1, none⟩ = some (.int .i64 a0_1) := (blk_cell BK180.out 1).trans rfl
                          have hcz50_2 : wr.cell? ⟨gb180, 2, none⟩ = some (.slice A0_2 l0_2.length c0_2) := (blk_cell BK180.out 2).trans rfl
                          have hcz50_3 : wr.cell? ⟨gb180, 3, none⟩ = some (.int .i64 a0_3) := (blk_cell BK180.out 3).trans rfl
                          have hcz50_4 : wr.cell? ⟨gb180, 4, none⟩ = some (.slice A0_4 l0_4.length c0_4) := (blk_cell BK180.out 4).trans rfl
                          have hcz50_5 : wr.cell? ⟨gb180, 5, none⟩ = some (.int .i64 a0_5) := (blk_cell BK180.out 5).trans rfl
                          have hfz50_0 := blk_frozen BK180.out 0
                          have hfz50_1 := blk_frozen BK180.out 1
                          have hfz50_2 := blk_frozen BK180.out 2
                          have hfz50_3 := blk_frozen BK180.out 3
                          have hfz50_4 := blk_frozen BK180.out 4
                          have hfz50_5 := blk_frozen BK180.out 5
                          have p184 : 0 ≤ (x6_3 : Int) := of_decide_eq_true (by first | (with_reducible assumption) | assumption)
                          have q184 : x6_3 < (l0_4.length : Int) := of_decide_eq_true (by first | (with_reducible assumption) | assumption)
                          obtain ⟨ad184, e184, hx184_0, hx184_1⟩ := at_T48 HR0_4.out x6_3 p184 q184
                          cases e184
                          replace hx184_0 := (HB.out.cell (World.block_lt_of_cell? w _ hx184_0)).trans hx184_0
                          replace hx184_1 := (HB.out.cell (World.block_lt_of_cell? w _ hx184_1)).trans hx184_1
                          replace p184 := eq_true p184
                          replace q184 := eq_true q184
                          have hcz51_0 : wr.cell? ⟨gb181, 0, none⟩ = some (.string a1_0) := (blk_cell BK181.out 0).trans rfl
                          have hcz51_1 : wr.cell? ⟨gb181, 1, none⟩ = some (.int .i64 a1_1) := (blk_cell BK181.out 1).trans rfl
                          have hcz51_2 : wr.cell? ⟨gb181, 2, none⟩ = some (.slice A1_2 l1_2.length c1_2) := (blk_cell BK181.out 2).trans rfl
                          have hcz51_3 : wr.cell? ⟨gb181, 3, none⟩ = some (.int .i64 a1_3) := (blk_cell BK181.out 3).trans rfl
                          have hcz51_4 : wr.cell? ⟨gb181, 4, none⟩ = some (.slice A1_4 l1_4.length c1_4) := (blk_cell BK181.out 4).trans rfl
                          have hcz51_5 : wr.cell? ⟨gb181, 5, none⟩ = some (.int .i64 a1_5) := (blk_cell BK181.out 5).trans rfl
                          have hfz51_0 := blk_frozen BK181.out 0
                          have hfz51_1 := blk_frozen BK181.out 1
                          have hfz51_2 := blk_frozen BK181.out 2
                          have hfz51_3 := blk_frozen BK181.out 3
                          have hfz51_4 := blk_frozen BK181.out 4
                          have hfz51_5 := blk_frozen BK181.out 5
                          have p185 : 0 ≤ (x6_3 : Int) := of_decide_eq_true (by first | (with_reducible assumption) | assumption)
                          have q185 : x6_3 < (l1_4.length : Int) := of_decide_eq_true (by first | (with_reducible assumption) | assumption)
                          obtain ⟨ad185, e185, hx185_0, hx185_1⟩ := at_T48 HR1_4.out x6_3 p185 q185
                          cases e185
                          replace hx185_0 := (HB.out.cell (World.block_lt_of_cell? w _ hx185_0)).trans hx185_0
                          replace hx185_1 := (HB.out.cell (World.block_lt_of_cell? w _ hx185_1)).trans hx185_1
                          replace p185 := eq_true p185
                          replace q185 := eq_true q185
                          go_wp2
                          repeat (go_quiet (fail); try go_wp2)
                          go_roundg k3
                          case measure => have := HJ2.out; have := HK2.out; have := HK3.out; omega
                          case rel => exact ⟨(wrap64 (x6_3 + 1)), (by first | rfl | (simp; done) | (simp [*]; done)), H', ⟨by have := HJ2.out; have := HK2.out; have := HK3.out; omega⟩, ⟨by (with_reducible repeat (first | refine blk_drewN ?_ _ | refine blk_drew ?_ | refine blk_alloc ?_ _)); exact BK180.out⟩, ⟨by (with_reducible repeat (first | refine blk_drewN ?_ _ | refine blk_drew ?_ | refine blk_alloc ?_ _)); exact BK181.out⟩, ⟨by repeat (first | (with_reducible first | exact HB.out | apply below_alloc | apply pw_below_drewN | apply below_drew1 | refine below_set ?_ GE180.out | refine below_set ?_ GE181.out) | exact HB.out)⟩⟩
                      · rw [if_neg c44] at H
                        exact absurd H (by simp)
                    · rw [if_neg c43] at H
                      exact absurd H (by simp)
                  · rw [if_neg c42] at H
                    have c42b0 : decide (x6_3 < (l0_4.length : Int)) = false := decide_eq_false c42
                    clear c42
                    obtain rfl := Option.some.inj H
                    have hnb52 := NB180_181.out
                    have hnc52 := NB181_180.out
                    have hcz53_0 : wr.cell? ⟨gb180, 0, none⟩ = some (.string a0_0) := (blk_cell BK180.out 0).trans rfl
                    have hcz53_1 : wr.cell? ⟨gb180, 1, none⟩ = some (.int .i64 a0_1) := (blk_cell BK180.out 1).trans rfl
                    have hcz53_2 : wr.cell? ⟨gb180, 2, none⟩ = some (.slice A0_2 l0_2.length c0_2) := (blk_cell BK180.out 2).trans rfl
                    have hcz53_3 : wr.cell? ⟨gb180, 3, none⟩ = some (.int .i64 a0_3) := (blk_cell BK180.out 3).trans rfl
                    have hcz53_4 : wr.cell? ⟨gb180, 4, none⟩ = some (.slice A0_4 l0_4.length c0_4) := (blk_cell BK180.out 4).trans rfl
                    have hcz53_5 : wr.cell? ⟨gb180, 5, none⟩ = some (.int .i64 a0_5) := (blk_cell BK180.out 5).trans rfl
                    have hfz53_0 := blk_frozen BK180.out 0
                    have hfz53_1 := blk_frozen BK180.out 1
                    have hfz53_2 := blk_frozen BK180.out 2
                    have hfz53_3 := blk_frozen BK180.out 3
                    have hfz53_4 := blk_frozen BK180.out 4
                    have hfz53_5 := blk_frozen BK180.out 5
                    go_wp2
                    repeat (go_quiet (fail); try go_wp2)
                    go_ret
                    exact ⟨by first | rfl | (simp [errW_none, errW_some] <;> rfl) | (simp [*, errW_none, errW_some] <;> rfl), by repeat (first | (with_reducible first | exact HB.out | apply below_alloc | apply pw_below_drewN | apply below_drew1 | refine below_set ?_ GE180.out | refine below_set ?_ GE181.out) | exact HB.out)⟩
/-! ### forebayref08_Equal: function 16 -/
def forebayref08_Equal.l0 : Nat → List (S25) → List (S25) → Int → Option (Bool)
  | 0, _, _, _ => none
  | k + 1, x0, x1, x5 => if x5 < (x0.length : Int) then (if 0 ≤ x5 then (if x5 < (x1.length : Int) then ((forebayref07_Equal.f k ((rd_T25 x0 x5).f0) ((rd_T25 x0 x5).f1) ((rd_T25 x0 x5).f2) ((rd_T25 x0 x5).f3) ((rd_T25 x0 x5).f4) ((rd_T25 x0 x5).f5) ((rd_T25 x1 x5).f0) ((rd_T25 x1 x5).f1) ((rd_T25 x1 x5).f2) ((rd_T25 x1 x5).f3) ((rd_T25 x1 x5).f4) ((rd_T25 x1 x5).f5)).bind fun t188 => (if t188 = true then (forebayref08_Equal.l0 k x0 x1 (wrap64 (x5 + 1))) else (some false))) else (none)) else (none)) else (some true)
def forebayref08_Equal.f (k : Nat) (l0 : List (S25)) (l1 : List (S25)) : Option (Bool) := if (l0.length : Int) = (l1.length : Int) then (forebayref08_Equal.l0 k l0 l1 0) else (some false)
def forebayref08_Equal.T6 : Bool × List (List Nat × List Nat) := (true, [([], []), ([], []), ([0, 1], [0, 1]), ([2], [2]), ([], []), ([], []), ([4, 5], [4, 5]), ([6], [6]), ([3, 7], [3, 7]), ([8], [8])])
def forebayref08_Equal.B6 : List Nat := [0, 0, 3, 7, 0, 0, 48, 112, 255, 511]
theorem forebayref08_Equal.tab6 : rtab .any (opsOf Try.f16 6) = forebayref08_Equal.T6 := by kernel_rfl
theorem forebayref08_Equal.bits6 : waitsOk forebayref08_Equal.T6.2 forebayref08_Equal.B6 = true := by kernel_rfl
set_option maxHeartbeats 8000000 in
set_option maxRecDepth 100000 in
theorem forebayref08_Equal.calls (k : Nat) (A0 : Option Addr) (c0 : Nat) (l0 : List (S25)) (A1 : Option Addr) (c1 : Nat) (l1 : List (S25)) (r : Bool) (w : World) (hr0 : Kd.C k25 w A0 l0.length l0) (hc0 : l0.length ≤ c0) (hr1 : Kd.C k25 w A1 l1.length l1) (hc1 : l1.length ≤ c1) (h : forebayref08_Equal.f k l0 l1 = some r) :
    Calls Try.prog 16 #[.slice A0 l0.length c0, .slice A1 l1.length c1] w fun e w' => e = .returned (.bool r) ∧ Below w.heap.size w w' := by
  have hu25 := Try.underlying25
  have HR0 := Aside0.mk hr0
  have HC0 := Aside0.mk hc0
  clear hr0 hc0
  have HR1 := Aside0.mk hr1
  have HC1 := Aside0.mk hc1
  clear hr1 hc1
  have HB := Aside0.mk (Below.refl w.heap.size w)
  have H : (if (l0.length : Int) = (l1.length : Int) then (forebayref08_Equal.l0 k l0 l1 0) else (some false)) = some r := h
  clear h
  by_cases c3 : (l0.length : Int) = (l1.length : Int)
  · rw [if_pos c3] at H
    have c3b0 : ((l0.length : Int) == (l1.length : Int)) = true := beq_iff_eq.mpr c3
    have c3b1 : ((l0.length : Int) != (l1.length : Int)) = false := bne_eq_false_iff_eq.mpr c3
    have c3b2 : (l0.length == l1.length) = true := by first | simpa using c3 | (simp at c3 ⊢; omega)
    clear c3
    have H' := Aside0.mk H
    clear H
    go_enter Try.func16, Try.ntmps16
    go_wp2
    go_loopg [5] k (fun kq v5 w' => ∃ (x5_1 : Int), v5 = .int .i64 x5_1 ∧ Aside0 (forebayref08_Equal.l0 kq l0 l1 x5_1 = some r) ∧ Aside0 (kq ≤ k) ∧ Aside0 (Below w.heap.size w w'))
    case atStart => exact ⟨(0), (by first | rfl | (simp; done) | (simp [*]; done)), H', ⟨Nat.le_refl _⟩, ⟨by repeat (first | (with_reducible first | exact HB.out | apply below_alloc | apply pw_below_drewN | apply below_drew1) | exact HB.out)⟩⟩
    case round =>
      clear H'
      try clear c1
      try clear p2
      try clear c3
      try clear c3b0
      try clear c3b1
      try clear c3b2
      obtain ⟨x5_1, rfl, HA, HK1, HB⟩ := hrel
      cases gk with
      | zero => exact absurd HA.out (by simp [forebayref08_Equal.l0])
      | succ k1 =>
        have H := HA.out
        clear HA
        simp only [forebayref08_Equal.l0] at H
        by_cases c4 : x5_1 < (l0.length : Int)
        · rw [if_pos c4] at H
          have c4b0 : decide (x5_1 < (l0.length : Int)) = true := decide_eq_true c4
          clear c4
          by_cases c5 : 0 ≤ x5_1
          · rw [if_pos c5] at H
            have c5b0 : decide (0 ≤ x5_1) = true := decide_eq_true c5
            clear c5
            by_cases c6 : x5_1 < (l1.length : Int)
            · rw [if_pos c6] at H
              have c6b0 : decide (x5_1 < (l1.length : Int)) = true := decide_eq_true c6
              clear c6
              replace H := Option.bind_eq_some_iff.mp H
              obtain ⟨t188, A70, H⟩ := H
              replace H : (if t188 = true then (forebayref08_Equal.l0 k1 l0 l1 (wrap64 (x5_1 + 1))) else (some false)) = some r := H
              have A7 := Aside0.mk A70
              clear A70
              by_cases c8 : t188 = true
              · subst c8
                have H1 : (forebayref08_Equal.l0 k1 l0 l1 (wrap64 (x5_1 + 1))) = some r := by rw [if_pos rfl] at H; exact H
                clear H
                have H := H1
                clear H1
                have H' := Aside0.mk H
                clear H
                try go_wp2
                have n0_ := Aside0.mk (below_drew1 HB.out)
                clear HB
                have HB := n0_
                clear n0_
                have p186 : 0 ≤ (x5_1 : Int) := of_decide_eq_true (by first | (with_reducible assumption) | assumption)
                have q186 : x5_1 < (l0.length : Int) := of_decide_eq_true (by first | (with_reducible assumption) | assumption)
                obtain ⟨ad186, A186_2, c186_2, A186_4, c186_4, e186, hx186_0, hx186_1, hx186_2, hx186_3, hx186_4, hx186_5, hl186_2, hi186_2, hl186_4, hi186_4⟩ := at_T25 HR0.out x5_1 p186 q186
                have hw186_5 := hx186_5
                have hw186_4 := hx186_4
                have hw186_3 := hx186_3
                have hw186_2 := hx186_2
                have hw186_1 := hx186_1
                have hw186_0 := hx186_0
                cases e186
                replace hx186_0 := (HB.out.cell (World.block_lt_of_cell? w _ hx186_0)).trans hx186_0
                replace hx186_1 := (HB.out.cell (World.block_lt_of_cell? w _ hx186_1)).trans hx186_1
                replace hx186_2 := (HB.out.cell (World.block_lt_of_cell? w _ hx186_2)).trans hx186_2
                replace hx186_3 := (HB.out.cell (World.block_lt_of_cell? w _ hx186_3)).trans hx186_3
                replace hx186_4 := (HB.out.cell (World.block_lt_of_cell? w _ hx186_4)).trans hx186_4
                replace hx186_5 := (HB.out.cell (World.block_lt_of_cell? w _ hx186_5)).trans hx186_5
                have HR186_2 := Aside0.mk hi186_2
                have HC186_2 := Aside0.mk hl186_2
                clear hi186_2 hl186_2
                have HR186_4 := Aside0.mk hi186_4
                have HC186_4 := Aside0.mk hl186_4
                clear hi186_4 hl186_4
                replace p186 := eq_true p186
                replace q186 := eq_true q186
                have p187 : 0 ≤ (x5_1 : Int) := of_decide_eq_true (by first | (with_reducible assumption) | assumption)
                have q187 : x5_1 < (l1.length : Int) := of_decide_eq_true (by first | (with_reducible assumption) | assumption)
                obtain ⟨ad187, A187_2, c187_2, A187_4, c187_4, e187, hx187_0, hx187_1, hx187_2, hx187_3, hx187_4, hx187_5, hl187_2, hi187_2, hl187_4, hi187_4⟩ := at_T25 HR1.out x5_1 p187 q187
                have hw187_5 := hx187_5
                have hw187_4 := hx187_4
                have hw187_3 := hx187_3
                have hw187_2 := hx187_2
                have hw187_1 := hx187_1
                have hw187_0 := hx187_0
                cases e187
                replace hx187_0 := (HB.out.cell (World.block_lt_of_cell? w _ hx187_0)).trans hx187_0
                replace hx187_1 := (HB.out.cell (World.block_lt_of_cell? w _ hx187_1)).trans hx187_1
                replace hx187_2 := (HB.out.cell (World.block_lt_of_cell? w _ hx187_2)).trans hx187_2
                replace hx187_3 := (HB.out.cell (World.block_lt_of_cell? w _ hx187_3)).trans hx187_3
                replace hx187_4 := (HB.out.cell (World.block_lt_of_cell? w _ hx187_4)).trans hx187_4
                replace hx187_5 := (HB.out.cell (World.block_lt_of_cell? w _ hx187_5)).trans hx187_5
                have HR187_2 := Aside0.mk hi187_2
                have HC187_2 := Aside0.mk hl187_2
                clear hi187_2 hl187_2
                have HR187_4 := Aside0.mk hi187_4
                have HC187_4 := Aside0.mk hl187_4
                clear hi187_4 hl187_4
                replace p187 := eq_true p187
                replace q187 := eq_true q187
                refine start_ (n := 10) (S := fun w' => w'.cell? (ad186.add ((x5_1).toNat * 6)) = some (.string ((rd_T25 l0 x5_1).f0)) ∧ w'.cell? ⟨(ad186.add ((x5_1).toNat * 6)).block, (ad186.add ((x5_1).toNat * 6)).off + 1, none⟩ = some (.int .i64 ((rd_T25 l0 x5_1).f1)) ∧ w'.cell? ⟨(ad186.add ((x5_1).toNat * 6)).block, (ad186.add ((x5_1).toNat * 6)).off + 2, none⟩ = some (.slice A186_2 ((rd_T25 l0 x5_1).f2).length c186_2) ∧ w'.cell? ⟨(ad186.add ((x5_1).toNat * 6)).block, (ad186.add ((x5_1).toNat * 6)).off + 3, none⟩ = some (.int .i64 ((rd_T25 l0 x5_1).f3)) ∧ w'.cell? ⟨(ad186.add ((x5_1).toNat * 6)).block, (ad186.add ((x5_1).toNat * 6)).off + 4, none⟩ = some (.slice A186_4 ((rd_T25 l0 x5_1).f4).length c186_4) ∧ w'.cell? ⟨(ad186.add ((x5_1).toNat * 6)).block, (ad186.add ((x5_1).toNat * 6)).off + 5, none⟩ = some (.int .i64 ((rd_T25 l0 x5_1).f5)) ∧ w'.cell? (ad187.add ((x5_1).toNat * 6)) = some (.string ((rd_T25 l1 x5_1).f0)) ∧ w'.cell? ⟨(ad187.add ((x5_1).toNat * 6)).block, (ad187.add ((x5_1).toNat * 6)).off + 1, none⟩ = some (.int .i64 ((rd_T25 l1 x5_1).f1)) ∧ w'.cell? ⟨(ad187.add ((x5_1).toNat * 6)).block, (ad187.add ((x5_1).toNat * 6)).off + 2, none⟩ = some (.slice A187_2 ((rd_T25 l1 x5_1).f2).length c187_2) ∧ w'.cell? ⟨(ad187.add ((x5_1).toNat * 6)).block, (ad187.add ((x5_1).toNat * 6)).off + 3, none⟩ = some (.int .i64 ((rd_T25 l1 x5_1).f3)) ∧ w'.cell? ⟨(ad187.add ((x5_1).toNat * 6)).block, (ad187.add ((x5_1).toNat * 6)).off + 4, none⟩ = some (.slice A187_4 ((rd_T25 l1 x5_1).f4).length c187_4) ∧ w'.cell? ⟨(ad187.add ((x5_1).toNat * 6)).block, (ad187.add ((x5_1).toNat * 6)).off + 5, none⟩ = some (.int .i64 ((rd_T25 l1 x5_1).f5))) (ds := []) #[false, false, false, false, false, false, false, false, false, false] (by kernel_rfl) rfl rfl ⟨((HB.out.cell (World.block_lt_of_cell? w _ hw186_0)).trans hw186_0), ((HB.out.cell (World.block_lt_of_cell? w _ hw186_1)).trans hw186_1), ((HB.out.cell (World.block_lt_of_cell? w _ hw186_2)).trans hw186_2), ((HB.out.cell (World.block_lt_of_cell? w _ hw186_3)).trans hw186_3), ((HB.out.cell (World.block_lt_of_cell? w _ hw186_4)).trans hw186_4), ((HB.out.cell (World.block_lt_of_cell? w _ hw186_5)).trans hw186_5), ((HB.out.cell (World.block_lt_of_cell? w _ hw187_0)).trans hw187_0), ((HB.out.cell (World.block_lt_of_cell? w _ hw187_1)).trans hw187_1), ((HB.out.cell (World.block_lt_of_cell? w _ hw187_2)).trans hw187_2), ((HB.out.cell (World.block_lt_of_cell? w _ hw187_3)).trans hw187_3), ((HB.out.cell (World.block_lt_of_cell? w _ hw187_4)).trans hw187_4), ((HB.out.cell (World.block_lt_of_cell? w _ hw187_5)).trans hw187_5)⟩ (fun hHeld => ?_); refine with_tabW forebayref08_Equal.tab6 forebayref08_Equal.bits6 (fun HT_ HW_ => ?_)
                generalize wr.drew = w9 at HB HR186_2 HR186_4 HR187_2 HR187_4 hx186_0 hx186_1 hx186_2 hx186_3 hx186_4 hx186_5 hx187_0 hx187_1 hx187_2 hx187_3 hx187_4 hx187_5 hHeld ⊢
                refine pure_ (i := 0) (N := some 17) (v := ?_) (a' := ?_) #[true, false, false, false, false, false, false, false, false, false] rfl rfl (any_of HT_.out (by kernel_rfl)) (fun _ _ _ h => h) (Or.inl ⟨by rfl, ?_⟩) ?_ ?_
                rotate_left
                · intro w'
                  go_simp
                  with_reducible rfl
                rotate_left
                · simp only [Act.put, List.setIfInBounds_toArray, List.set_cons_zero, List.set_cons_succ, i64_w, i32_w]
                  rfl
                refine pure_ (i := 1) (N := some 18) (v := ?_) (a' := ?_) #[true, true, false, false, false, false, false, false, false, false] rfl rfl (any_of HT_.out (by kernel_rfl)) (fun _ _ _ h => h) (Or.inl ⟨by rfl, ?_⟩) ?_ ?_
                rotate_left
                · intro w'
                  go_simp
                  with_reducible rfl
                rotate_left
                · simp only [Act.put, List.setIfInBounds_toArray, List.set_cons_zero, List.set_cons_succ, i64_w, i32_w]
                  rfl
                refine pure_ (i := 2) (N := some 19) (v := ?_) (a' := ?_) #[true, true, true, false, false, false, false, false, false, false] rfl rfl (any_of HT_.out (by kernel_rfl)) (fun _ _ _ h => h) (Or.inl ⟨by rfl, ?_⟩) ?_ ?_
                rotate_left
                · intro w'
                  go_simp
                  with_reducible rfl
                rotate_left
                · simp only [Act.put, List.setIfInBounds_toArray, List.set_cons_zero, List.set_cons_succ, i64_w, i32_w]
                  rfl
                refine pure_ (i := 4) (N := some 21) (v := ?_) (a' := ?_) #[true, true, true, false, true, false, false, false, false, false] rfl rfl (any_of HT_.out (by kernel_rfl)) (fun _ _ _ h => h) (Or.inl ⟨by rfl, ?_⟩) ?_ ?_
                rotate_left
                · intro w'
                  go_simp
                  with_reducible rfl
                rotate_left
                · simp only [Act.put, List.setIfInBounds_toArray, List.set_cons_zero, List.set_cons_succ, i64_w, i32_w]
                  rfl
                refine pure_ (i := 5) (N := some 22) (v := ?_) (a' := ?_) #[true, true, true, false, true, true, false, false, false, false] rfl rfl (any_of HT_.out (by kernel_rfl)) (fun _ _ _ h => h) (Or.inl ⟨by rfl, ?_⟩) ?_ ?_
                rotate_left
                · intro w'
                  go_simp
                  with_reducible rfl
                rotate_left
                · simp only [Act.put, List.setIfInBounds_toArray, List.set_cons_zero, List.set_cons_succ, i64_w, i32_w]
                  rfl
                refine pure_ (i := 6) (N := some 23) (v := ?_) (a' := ?_) #[true, true, true, false, true, true, true, false, false, false] rfl rfl (any_of HT_.out (by kernel_rfl)) (fun _ _ _ h => h) (Or.inl ⟨by rfl, ?_⟩) ?_ ?_
                rotate_left
                · intro w'
                  go_simp
                  with_reducible rfl
                rotate_left
                · simp only [Act.put, List.setIfInBounds_toArray, List.set_cons_zero, List.set_cons_succ, i64_w, i32_w]
                  rfl
                refine take_ (i := 3) (N := some 20) (v := ?_) (a' := ?_) #[true, true, true, true, true, true, true, false, false, false] rfl rfl (take_ofW HT_.out HW_.out (by kernel_rfl)) (fun _ _ _ h => h) (Or.inl ⟨by rfl, ?_⟩) hHeld ?_ ?_
                rotate_left
                · rintro w' ⟨s0, s1, s2, s3, s4, s5, s6, s7, s8, s9, s10, s11⟩
                  go_simp
                  with_reducible rfl
                rotate_left
                · simp only [Act.put, List.setIfInBounds_toArray, List.set_cons_zero, List.set_cons_succ, i64_w, i32_w]
                  rfl
                refine take_ (i := 7) (N := some 24) (v := ?_) (a' := ?_) #[true, true, true, true, true, true, true, true, false, false] rfl rfl (take_ofW HT_.out HW_.out (by kernel_rfl)) (fun _ _ _ h => h) (Or.inl ⟨by rfl, ?_⟩) hHeld ?_ ?_
                rotate_left
                · rintro w' ⟨s0, s1, s2, s3, s4, s5, s6, s7, s8, s9, s10, s11⟩
                  go_simp
                  with_reducible rfl
                rotate_left
                · simp only [Act.put, List.setIfInBounds_toArray, List.set_cons_zero, List.set_cons_succ, i64_w, i32_w]
                  rfl
                refine one_ (i := 8) (N := some 25) #[true, true, true, true, true, true, true, true, true, false] rfl rfl (one_of HT_.out (by kernel_rfl)) (by decide) (fun K hK => ?_)
                refine goes_ Try.func49 (by kernel_rfl) rfl #[.agg #[.string ((rd_T25 l0 x5_1).f0), .int .i64 ((rd_T25 l0 x5_1).f1), .slice A186_2 ((rd_T25 l0 x5_1).f2).length c186_2, .int .i64 ((rd_T25 l0 x5_1).f3), .slice A186_4 ((rd_T25 l0 x5_1).f4).length c186_4, .int .i64 ((rd_T25 l0 x5_1).f5)], .agg #[.string ((rd_T25 l1 x5_1).f0), .int .i64 ((rd_T25 l1 x5_1).f1), .slice A187_2 ((rd_T25 l1 x5_1).f2).length c187_2, .int .i64 ((rd_T25 l1 x5_1).f3), .slice A187_4 ((rd_T25 l1 x5_1).f4).length c187_4, .int .i64 ((rd_T25 l1 x5_1).f5)]] (by rfl) rfl rfl (by (try simp only [List.map_toArray, List.map_cons, List.map_nil]); first | done | rfl | (simp only [List.length_drop, List.length_take]; rfl)) ?_
                with_reducible refine (forebayref07_Equal.calls k1 ((rd_T25 l0 x5_1).f0) ((rd_T25 l0 x5_1).f1) _ _ ((rd_T25 l0 x5_1).f2) ((rd_T25 l0 x5_1).f3) _ _ ((rd_T25 l0 x5_1).f4) ((rd_T25 l0 x5_1).f5) ((rd_T25 l1 x5_1).f0) ((rd_T25 l1 x5_1).f1) _ _ ((rd_T25 l1 x5_1).f2) ((rd_T25 l1 x5_1).f3) _ _ ((rd_T25 l1 x5_1).f4) ((rd_T25 l1 x5_1).f5) true _ ?side1 ?side2 ?side3 ?side4 ?side5 ?side6 ?side7 ?side8 A7.out).mono ?_
                (case side1 => repeat (first | exact (Kd.C_below HR186_2.out HB.out) | (with_reducible refine Kd.C_alloc ?_ _) | (with_reducible refine Kd.C_drewN ?_ _) | (with_reducible refine Kd.C_drew ?_)))
                (case side2 => exact HC186_2.out)
                (case side3 => repeat (first | exact (Kd.C_below HR186_4.out HB.out) | (with_reducible refine Kd.C_alloc ?_ _) | (with_reducible refine Kd.C_drewN ?_ _) | (with_reducible refine Kd.C_drew ?_)))
                (case side4 => exact HC186_4.out)
                (case side5 => repeat (first | exact (Kd.C_below HR187_2.out HB.out) | (with_reducible refine Kd.C_alloc ?_ _) | (with_reducible refine Kd.C_drewN ?_ _) | (with_reducible refine Kd.C_drew ?_)))
                (case side6 => exact HC187_2.out)
                (case side7 => repeat (first | exact (Kd.C_below HR187_4.out HB.out) | (with_reducible refine Kd.C_alloc ?_ _) | (with_reducible refine Kd.C_drewN ?_ _) | (with_reducible refine Kd.C_drew ?_)))
                (case side8 => exact HC187_4.out)
                rintro e w10 ⟨rfl, hb⟩
                refine ⟨_, rfl, ?_⟩
                have n0_ := Aside0.mk (below_step (by repeat (first | (with_reducible first | exact HB.out | apply below_alloc | apply pw_below_drewN | apply below_drew1) | exact HB.out)) hb)
                clear HB
                have HB := n0_
                clear n0_
                (try clear hb)
                (try clear hb2)
                (try clear hk)
                (try clear hi)
                refine hK.out _ _ ⟨((HB.out.cell (World.block_lt_of_cell? w _ hw186_0)).trans hw186_0), ((HB.out.cell (World.block_lt_of_cell? w _ hw186_1)).trans hw186_1), ((HB.out.cell (World.block_lt_of_cell? w _ hw186_2)).trans hw186_2), ((HB.out.cell (World.block_lt_of_cell? w _ hw186_3)).trans hw186_3), ((HB.out.cell (World.block_lt_of_cell? w _ hw186_4)).trans hw186_4), ((HB.out.cell (World.block_lt_of_cell? w _ hw186_5)).trans hw186_5), ((HB.out.cell (World.block_lt_of_cell? w _ hw187_0)).trans hw187_0), ((HB.out.cell (World.block_lt_of_cell? w _ hw187_1)).trans hw187_1), ((HB.out.cell (World.block_lt_of_cell? w _ hw187_2)).trans hw187_2), ((HB.out.cell (World.block_lt_of_cell? w _ hw187_3)).trans hw187_3), ((HB.out.cell (World.block_lt_of_cell? w _ hw187_4)).trans hw187_4), ((HB.out.cell (World.block_lt_of_cell? w _ hw187_5)).trans hw187_5)⟩ (fun hHeld => ?_)
                clear hK K
                refine norm_ (a' := ?_) ?_ ?_
                rotate_left
                · show Act.put _ (some 25) _ = _
                  simp only [Act.put, List.setIfInBounds_toArray, List.set_cons_zero, List.set_cons_succ, i64_w, i32_w]
                  rfl
                refine pure_ (i := 9) (N := some 26) (v := ?_) (a' := ?_) #[true, true, true, true, true, true, true, true, true, true] rfl rfl (any_of HT_.out (by kernel_rfl)) (fun _ _ _ h => h) (Or.inl ⟨by rfl, ?_⟩) ?_ ?_
                rotate_left
                · intro w'
                  go_simp
                  with_reducible rfl
                rotate_left
                · simp only [Act.put, List.setIfInBounds_toArray, List.set_cons_zero, List.set_cons_succ, i64_w, i32_w]
                  rfl
                refine done_ (done_of HT_.out (by kernel_rfl)) ?_
                try go_wp2
                go_roundg k1
                case measure => have := HK1.out; omega
                case rel => exact ⟨(wrap64 (x5_1 + 1)), (by first | rfl | (simp; done) | (simp [*]; done)), H', ⟨by have := HK1.out; omega⟩, ⟨by repeat (first | (with_reducible first | exact HB.out | apply below_alloc | apply pw_below_drewN | apply below_drew1) | exact HB.out)⟩⟩
              · replace c8 := Bool.eq_false_iff.mpr c8
                subst c8
                have H1 : (some false) = some r := by rw [if_neg (show ¬ (false = true) by decide)] at H; exact H
                clear H
                have H := H1
                clear H1
                obtain rfl := Option.some.inj H
                try go_wp2
                have n0_ := Aside0.mk (below_drew1 HB.out)
                clear HB
                have HB := n0_
                clear n0_
                have p186 : 0 ≤ (x5_1 : Int) := of_decide_eq_true (by first | (with_reducible assumption) | assumption)
                have q186 : x5_1 < (l0.length : Int) := of_decide_eq_true (by first | (with_reducible assumption) | assumption)
                obtain ⟨ad186, A186_2, c186_2, A186_4, c186_4, e186, hx186_0, hx186_1, hx186_2, hx186_3, hx186_4, hx186_5, hl186_2, hi186_2, hl186_4, hi186_4⟩ := at_T25 HR0.out x5_1 p186 q186
                have hw186_5 := hx186_5
                have hw186_4 := hx186_4
                have hw186_3 := hx186_3
                have hw186_2 := hx186_2
                have hw186_1 := hx186_1
                have hw186_0 := hx186_0
                cases e186
                replace hx186_0 := (HB.out.cell (World.block_lt_of_cell? w _ hx186_0)).trans hx186_0
                replace hx186_1 := (HB.out.cell (World.block_lt_of_cell? w _ hx186_1)).trans hx186_1
                replace hx186_2 := (HB.out.cell (World.block_lt_of_cell? w _ hx186_2)).trans hx186_2
                replace hx186_3 := (HB.out.cell (World.block_lt_of_cell? w _ hx186_3)).trans hx186_3
                replace hx186_4 := (HB.out.cell (World.block_lt_of_cell? w _ hx186_4)).trans hx186_4
                replace hx186_5 := (HB.out.cell (World.block_lt_of_cell? w _ hx186_5)).trans hx186_5
                have HR186_2 := Aside0.mk hi186_2
                have HC186_2 := Aside0.mk hl186_2
                clear hi186_2 hl186_2
                have HR186_4 := Aside0.mk hi186_4
                have HC186_4 := Aside0.mk hl186_4
                clear hi186_4 hl186_4
                replace p186 := eq_true p186
                replace q186 := eq_true q186
                have p187 : 0 ≤ (x5_1 : Int) := of_decide_eq_true (by first | (with_reducible assumption) | assumption)
                have q187 : x5_1 < (l1.length : Int) := of_decide_eq_true (by first | (with_reducible assumption) | assumption)
                obtain ⟨ad187, A187_2, c187_2, A187_4, c187_4, e187, hx187_0, hx187_1, hx187_2, hx187_3, hx187_4, hx187_5, hl187_2, hi187_2, hl187_4, hi187_4⟩ := at_T25 HR1.out x5_1 p187 q187
                have hw187_5 := hx187_5
                have hw187_4 := hx187_4
                have hw187_3 := hx187_3
                have hw187_2 := hx187_2
                have hw187_1 := hx187_1
                have hw187_0 := hx187_0
                cases e187
                replace hx187_0 := (HB.out.cell (World.block_lt_of_cell? w _ hx187_0)).trans hx187_0
                replace hx187_1 := (HB.out.cell (World.block_lt_of_cell? w _ hx187_1)).trans hx187_1
                replace hx187_2 := (HB.out.cell (World.block_lt_of_cell? w _ hx187_2)).trans hx187_2
                replace hx187_3 := (HB.out.cell (World.block_lt_of_cell? w _ hx187_3)).trans hx187_3
                replace hx187_4 := (HB.out.cell (World.block_lt_of_cell? w _ hx187_4)).trans hx187_4
                replace hx187_5 := (HB.out.cell (World.block_lt_of_cell? w _ hx187_5)).trans hx187_5
                have HR187_2 := Aside0.mk hi187_2
                have HC187_2 := Aside0.mk hl187_2
                clear hi187_2 hl187_2
                have HR187_4 := Aside0.mk hi187_4
                have HC187_4 := Aside0.mk hl187_4
                clear hi187_4 hl187_4
                replace p187 := eq_true p187
                replace q187 := eq_true q187
                refine start_ (n := 10) (S := fun w' => w'.cell? (ad186.add ((x5_1).toNat * 6)) = some (.string ((rd_T25 l0 x5_1).f0)) ∧ w'.cell? ⟨(ad186.add ((x5_1).toNat * 6)).block, (ad186.add ((x5_1).toNat * 6)).off + 1, none⟩ = some (.int .i64 ((rd_T25 l0 x5_1).f1)) ∧ w'.cell? ⟨(ad186.add ((x5_1).toNat * 6)).block, (ad186.add ((x5_1).toNat * 6)).off + 2, none⟩ = some (.slice A186_2 ((rd_T25 l0 x5_1).f2).length c186_2) ∧ w'.cell? ⟨(ad186.add ((x5_1).toNat * 6)).block, (ad186.add ((x5_1).toNat * 6)).off + 3, none⟩ = some (.int .i64 ((rd_T25 l0 x5_1).f3)) ∧ w'.cell? ⟨(ad186.add ((x5_1).toNat * 6)).block, (ad186.add ((x5_1).toNat * 6)).off + 4, none⟩ = some (.slice A186_4 ((rd_T25 l0 x5_1).f4).length c186_4) ∧ w'.cell? ⟨(ad186.add ((x5_1).toNat * 6)).block, (ad186.add ((x5_1).toNat * 6)).off + 5, none⟩ = some (.int .i64 ((rd_T25 l0 x5_1).f5)) ∧ w'.cell? (ad187.add ((x5_1).toNat * 6)) = some (.string ((rd_T25 l1 x5_1).f0)) ∧ w'.cell? ⟨(ad187.add ((x5_1).toNat * 6)).block, (ad187.add ((x5_1).toNat * 6)).off + 1, none⟩ = some (.int .i64 ((rd_T25 l1 x5_1).f1)) ∧ w'.cell? ⟨(ad187.add ((x5_1).toNat * 6)).block, (ad187.add ((x5_1).toNat * 6)).off + 2, none⟩ = some (.slice A187_2 ((rd_T25 l1 x5_1).f2).length c187_2) ∧ w'.cell? ⟨(ad187.add ((x5_1).toNat * 6)).block, (ad187.add ((x5_1).toNat * 6)).off + 3, none⟩ = some (.int .i64 ((rd_T25 l1 x5_1).f3)) ∧ w'.cell? ⟨(ad187.add ((x5_1).toNat * 6)).block, (ad187.add ((x5_1).toNat * 6)).off + 4, none⟩ = some (.slice A187_4 ((rd_T25 l1 x5_1).f4).length c187_4) ∧ w'.cell? ⟨(ad187.add ((x5_1).toNat * 6)).block, (ad187.add ((x5_1).toNat * 6)).off + 5, none⟩ = some (.int .i64 ((rd_T25 l1 x5_1).f5))) (ds := []) #[false, false, false, false, false, false, false, false, false, false] (by kernel_rfl) rfl rfl ⟨((HB.out.cell (World.block_lt_of_cell? w _ hw186_0)).trans hw186_0), ((HB.out.cell (World.block_lt_of_cell? w _ hw186_1)).trans hw186_1), ((HB.out.cell (World.block_lt_of_cell? w _ hw186_2)).trans hw186_2), ((HB.out.cell (World.block_lt_of_cell? w _ hw186_3)).trans hw186_3), ((HB.out.cell (World.block_lt_of_cell? w _ hw186_4)).trans hw186_4), ((HB.out.cell (World.block_lt_of_cell? w _ hw186_5)).trans hw186_5), ((HB.out.cell (World.block_lt_of_cell? w _ hw187_0)).trans hw187_0), ((HB.out.cell (World.block_lt_of_cell? w _ hw187_1)).trans hw187_1), ((HB.out.cell (World.block_lt_of_cell? w _ hw187_2)).trans hw187_2), ((HB.out.cell (World.block_lt_of_cell? w _ hw187_3)).trans hw187_3), ((HB.out.cell (World.block_lt_of_cell? w _ hw187_4)).trans hw187_4), ((HB.out.cell (World.block_lt_of_cell? w _ hw187_5)).trans hw187_5)⟩ (fun hHeld => ?_); refine with_tabW forebayref08_Equal.tab6 forebayref08_Equal.bits6 (fun HT_ HW_ => ?_)
                generalize wr.drew = w11 at HB HR186_2 HR186_4 HR187_2 HR187_4 hx186_0 hx186_1 hx186_2 hx186_3 hx186_4 hx186_5 hx187_0 hx187_1 hx187_2 hx187_3 hx187_4 hx187_5 hHeld ⊢
                refine pure_ (i := 0) (N := some 17) (v := ?_) (a' := ?_) #[true, false, false, false, false, false, false, false, false, false] rfl rfl (any_of HT_.out (by kernel_rfl)) (fun _ _ _ h => h) (Or.inl ⟨by rfl, ?_⟩) ?_ ?_
                rotate_left
                · intro w'
                  go_simp
                  with_reducible rfl
                rotate_left
                · simp only [Act.put, List.setIfInBounds_toArray, List.set_cons_zero, List.set_cons_succ, i64_w, i32_w]
                  rfl
                refine pure_ (i := 1) (N := some 18) (v := ?_) (a' := ?_) #[true, true, false, false, false, false, false, false, false, false] rfl rfl (any_of HT_.out (by kernel_rfl)) (fun _ _ _ h => h) (Or.inl ⟨by rfl, ?_⟩) ?_ ?_
                rotate_left
                · intro w'
                  go_simp
                  with_reducible rfl
                rotate_left
                · simp only [Act.put, List.setIfInBounds_toArray, List.set_cons_zero, List.set_cons_succ, i64_w, i32_w]
                  rfl
                refine pure_ (i := 2) (N := some 19) (v := ?_) (a' := ?_) #[true, true, true, false, false, false, false, false, false, false] rfl rfl (any_of HT_.out (by kernel_rfl)) (fun _ _ _ h => h) (Or.inl ⟨by rfl, ?_⟩) ?_ ?_
                rotate_left
                · intro w'
                  go_simp
                  with_reducible rfl
                rotate_left
                · simp only [Act.put, List.setIfInBounds_toArray, List.set_cons_zero, List.set_cons_succ, i64_w, i32_w]
                  rfl
                refine pure_ (i := 4) (N := some 21) (v := ?_) (a' := ?_) #[true, true, true, false, true, false, false, false, false, false] rfl rfl (any_of HT_.out (by kernel_rfl)) (fun _ _ _ h => h) (Or.inl ⟨by rfl, ?_⟩) ?_ ?_
                rotate_left
                · intro w'
                  go_simp
                  with_reducible rfl
                rotate_left
                · simp only [Act.put, List.setIfInBounds_toArray, List.set_cons_zero, List.set_cons_succ, i64_w, i32_w]
                  rfl
                refine pure_ (i := 5) (N := some 22) (v := ?_) (a' := ?_) #[true, true, true, false, true, true, false, false, false, false] rfl rfl (any_of HT_.out (by kernel_rfl)) (fun _ _ _ h => h) (Or.inl ⟨by rfl, ?_⟩) ?_ ?_
                rotate_left
                · intro w'
                  go_simp
                  with_reducible rfl
                rotate_left
                · simp only [Act.put, List.setIfInBounds_toArray, List.set_cons_zero, List.set_cons_succ, i64_w, i32_w]
                  rfl
                refine pure_ (i := 6) (N := some 23) (v := ?_) (a' := ?_) #[true, true, true, false, true, true, true, false, false, false] rfl rfl (any_of HT_.out (by kernel_rfl)) (fun _ _ _ h => h) (Or.inl ⟨by rfl, ?_⟩) ?_ ?_
                rotate_left
                · intro w'
                  go_simp
                  with_reducible rfl
                rotate_left
                · simp only [Act.put, List.setIfInBounds_toArray, List.set_cons_zero, List.set_cons_succ, i64_w, i32_w]
                  rfl
                refine take_ (i := 3) (N := some 20) (v := ?_) (a' := ?_) #[true, true, true, true, true, true, true, false, false, false] rfl rfl (take_ofW HT_.out HW_.out (by kernel_rfl)) (fun _ _ _ h => h) (Or.inl ⟨by rfl, ?_⟩) hHeld ?_ ?_
                rotate_left
                · rintro w' ⟨s0, s1, s2, s3, s4, s5, s6, s7, s8, s9, s10, s11⟩
                  go_simp
                  with_reducible rfl
                rotate_left
                · simp only [Act.put, List.setIfInBounds_toArray, List.set_cons_zero, List.set_cons_succ, i64_w, i32_w]
                  rfl
                refine take_ (i := 7) (N := some 24) (v := ?_) (a' := ?_) #[true, true, true, true, true, true, true, true, false, false] rfl rfl (take_ofW HT_.out HW_.out (by kernel_rfl)) (fun _ _ _ h => h) (Or.inl ⟨by rfl, ?_⟩) hHeld ?_ ?_
                rotate_left
                · rintro w' ⟨s0, s1, s2, s3, s4, s5, s6, s7, s8, s9, s10, s11⟩
                  go_simp
                  with_reducible rfl
                rotate_left
                · simp only [Act.put, List.setIfInBounds_toArray, List.set_cons_zero, List.set_cons_succ, i64_w, i32_w]
                  rfl
                refine one_ (i := 8) (N := some 25) #[true, true, true, true, true, true, true, true, true, false] rfl rfl (one_of HT_.out (by kernel_rfl)) (by decide) (fun K hK => ?_)
                refine goes_ Try.func49 (by kernel_rfl) rfl #[.agg #[.string ((rd_T25 l0 x5_1).f0), .int .i64 ((rd_T25 l0 x5_1).f1), .slice A186_2 ((rd_T25 l0 x5_1).f2).length c186_2, .int .i64 ((rd_T25 l0 x5_1).f3), .slice A186_4 ((rd_T25 l0 x5_1).f4).length c186_4, .int .i64 ((rd_T25 l0 x5_1).f5)], .agg #[.string ((rd_T25 l1 x5_1).f0), .int .i64 ((rd_T25 l1 x5_1).f1), .slice A187_2 ((rd_T25 l1 x5_1).f2).length c187_2, .int .i64 ((rd_T25 l1 x5_1).f3), .slice A187_4 ((rd_T25 l1 x5_1).f4).length c187_4, .int .i64 ((rd_T25 l1 x5_1).f5)]] (by rfl) rfl rfl (by (try simp only [List.map_toArray, List.map_cons, List.map_nil]); first | done | rfl | (simp only [List.length_drop, List.length_take]; rfl)) ?_
                with_reducible refine (forebayref07_Equal.calls k1 ((rd_T25 l0 x5_1).f0) ((rd_T25 l0 x5_1).f1) _ _ ((rd_T25 l0 x5_1).f2) ((rd_T25 l0 x5_1).f3) _ _ ((rd_T25 l0 x5_1).f4) ((rd_T25 l0 x5_1).f5) ((rd_T25 l1 x5_1).f0) ((rd_T25 l1 x5_1).f1) _ _ ((rd_T25 l1 x5_1).f2) ((rd_T25 l1 x5_1).f3) _ _ ((rd_T25 l1 x5_1).f4) ((rd_T25 l1 x5_1).f5) false _ ?side1 ?side2 ?side3 ?side4 ?side5 ?side6 ?side7 ?side8 A7.out).mono ?_
                (case side1 => repeat (first | exact (Kd.C_below HR186_2.out HB.out) | (with_reducible refine Kd.C_alloc ?_ _) | (with_reducible refine Kd.C_drewN ?_ _) | (with_reducible refine Kd.C_drew ?_)))
                (case side2 => exact HC186_2.out)
                (case side3 => repeat (first | exact (Kd.C_below HR186_4.out HB.out) | (with_reducible refine Kd.C_alloc ?_ _) | (with_reducible refine Kd.C_drewN ?_ _) | (with_reducible refine Kd.C_drew ?_)))
                (case side4 => exact HC186_4.out)
                (case side5 => repeat (first | exact (Kd.C_below HR187_2.out HB.out) | (with_reducible refine Kd.C_alloc ?_ _) | (with_reducible refine Kd.C_drewN ?_ _) | (with_reducible refine Kd.C_drew ?_)))
                (case side6 => exact HC187_2.out)
                (case side7 => repeat (first | exact (Kd.C_below HR187_4.out HB.out) | (with_reducible refine Kd.C_alloc ?_ _) | (with_reducible refine Kd.C_drewN ?_ _) | (with_reducible refine Kd.C_drew ?_)))
                (case side8 => exact HC187_4.out)
                rintro e w12 ⟨rfl, hb⟩
                refine ⟨_, rfl, ?_⟩
                have n0_ := Aside0.mk (below_step (by repeat (first | (with_reducible first | exact HB.out | apply below_alloc | apply pw_below_drewN | apply below_drew1) | exact HB.out)) hb)
                clear HB
                have HB := n0_
                clear n0_
                (try clear hb)
                (try clear hb2)
                (try clear hk)
                (try clear hi)
                refine hK.out _ _ ⟨((HB.out.cell (World.block_lt_of_cell? w _ hw186_0)).trans hw186_0), ((HB.out.cell (World.block_lt_of_cell? w _ hw186_1)).trans hw186_1), ((HB.out.cell (World.block_lt_of_cell? w _ hw186_2)).trans hw186_2), ((HB.out.cell (World.block_lt_of_cell? w _ hw186_3)).trans hw186_3), ((HB.out.cell (World.block_lt_of_cell? w _ hw186_4)).trans hw186_4), ((HB.out.cell (World.block_lt_of_cell? w _ hw186_5)).trans hw186_5), ((HB.out.cell (World.block_lt_of_cell? w _ hw187_0)).trans hw187_0), ((HB.out.cell (World.block_lt_of_cell? w _ hw187_1)).trans hw187_1), ((HB.out.cell (World.block_lt_of_cell? w _ hw187_2)).trans hw187_2), ((HB.out.cell (World.block_lt_of_cell? w _ hw187_3)).trans hw187_3), ((HB.out.cell (World.block_lt_of_cell? w _ hw187_4)).trans hw187_4), ((HB.out.cell (World.block_lt_of_cell? w _ hw187_5)).trans hw187_5)⟩ (fun hHeld => ?_)
                clear hK K
                refine norm_ (a' := ?_) ?_ ?_
                rotate_left
                · show Act.put _ (some 25) _ = _
                  simp only [Act.put, List.setIfInBounds_toArray, List.set_cons_zero, List.set_cons_succ, i64_w, i32_w]
                  rfl
                refine pure_ (i := 9) (N := some 26) (v := ?_) (a' := ?_) #[true, true, true, true, true, true, true, true, true, true] rfl rfl (any_of HT_.out (by kernel_rfl)) (fun _ _ _ h => h) (Or.inl ⟨by rfl, ?_⟩) ?_ ?_
                rotate_left
                · intro w'
                  go_simp
                  with_reducible rfl
                rotate_left
                · simp only [Act.put, List.setIfInBounds_toArray, List.set_cons_zero, List.set_cons_succ, i64_w, i32_w]
                  rfl
                refine done_ (done_of HT_.out (by kernel_rfl)) ?_
                try go_wp2
                go_ret
                exact ⟨by first | rfl | (simp [errW_none, errW_some] <;> rfl) | (simp [*, errW_none, errW_some] <;> rfl), by repeat (first | (with_reducible first | exact HB.out | apply below_alloc | apply pw_below_drewN | apply below_drew1) | exact HB.out)⟩
            · rw [if_neg c6] at H
              exact absurd H (by simp)
          · rw [if_neg c5] at H
            exact absurd H (by simp)
        · rw [if_neg c4] at H
          have c4b0 : decide (x5_1 < (l0.length : Int)) = false := decide_eq_false c4
          clear c4
          obtain rfl := Option.some.inj H
          go_wp2
          go_ret
          exact ⟨by first | rfl | (simp [errW_none, errW_some] <;> rfl) | (simp [*, errW_none, errW_some] <;> rfl), by repeat (first | (with_reducible first | exact HB.out | apply below_alloc | apply pw_below_drewN | apply below_drew1) | exact HB.out)⟩
  · rw [if_neg c3] at H
    have c3b0 : ((l0.length : Int) == (l1.length : Int)) = false := beq_eq_false_iff_ne.mpr c3
    have c3b1 : ((l0.length : Int) != (l1.length : Int)) = true := bne_iff_ne.mpr c3
    have c3b2 : (l0.length == l1.length) = false := by first | simpa using c3 | (simp at c3 ⊢; omega)
    obtain rfl := Option.some.inj H
    go_enter Try.func16, Try.ntmps16
    go_wp2
    go_ret
    exact ⟨by first | rfl | (simp [errW_none, errW_some] <;> rfl) | (simp [*, errW_none, errW_some] <;> rfl), by repeat (first | (with_reducible first | exact HB.out | apply below_alloc | apply pw_below_drewN | apply below_drew1) | exact HB.out)⟩
end Go.Proofs.Ytbdennijmfgdpaa.PE
