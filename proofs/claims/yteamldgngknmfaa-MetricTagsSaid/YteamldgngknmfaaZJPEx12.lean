-- Printed by the kit's print.py over contracts of this session's own.
import Derived.Test.YteamldgngknmfaaZJLawMetB
import Derived.Test.YteamldgngknmfaaZJPEx0
import Derived.Test.YteamldgngknmfaaZJPEx4
import Derived.Test.YteamldgngknmfaaZJPEx10
import Derived.Test.YteamldgngknmfaaZJPEx11
namespace Go.Proofs.Yteamldgngknmfaa.PE
open Go.RowKit Go.Proofs.YteamldgngknmfaaW.PrintWords Go.Proofs.YteamldgngknmfaaW.PrintLast Go.Proofs.YteamldgngknmfaaW.PrintMore
attribute [local go_sem] max2_int min2_int max_two min_two max_three min_three max_four min_four   -- for this text's walks alone
set_option linter.unusedVariables false
set_option linter.unusedSimpArgs false
/-! ### forebaylaw07_MetricEquals: function 5 -/
mutual
def forebaylaw07_MetricEquals.j0 : Nat → Bool → ByteArray → Int → List (S40) → Int → List (S37) → Int → ByteArray → Int → List (S40) → Int → List (S37) → Int → Option (Bool)
 | 0, _, _, _, _, _, _, _, _, _, _, _, _, _ => none
 | k + 1, x17, x313000, x313001, x313002, x313003, x313004, x313005, x314000, x314001, x314002, x314003, x314004, x314005 => if x17 = true then ((forebaylaw07_awake.f k).bind fun t316 => (some t316)) else ((forebayref07_Normal.f k x313000 x313001 x313002 x313003 x313004 x313005).bind fun bt317 => ((forebayref07_Normal.f k x314000 x314001 x314002 x314003 x314004 x314005).bind fun bt329 => (if bt317.2.2.2.2.2.2 = 0 then (if bt329.2.2.2.2.2.2 = 0 then ((forebayref07_Equal.f k bt317.1 bt317.2.1 bt317.2.2.1 bt317.2.2.2.1 bt317.2.2.2.2.1 bt317.2.2.2.2.2.1 bt329.1 bt329.2.1 bt329.2.2.1 bt329.2.2.2.1 bt329.2.2.2.2.1 bt329.2.2.2.2.2.1).bind fun t341 => (forebaylaw07_MetricEquals.j1 k t341 x313000 x313001 x313002 x313003 x313004 x313005 x314000 x314001 x314002 x314003 x314004 x314005)) else (forebaylaw07_MetricEquals.j1 k false x313000 x313001 x313002 x313003 x313004 x313005 x314000 x314001 x314002 x314003 x314004 x314005)) else (forebaylaw07_MetricEquals.j1 k false x313000 x313001 x313002 x313003 x313004 x313005 x314000 x314001 x314002 x314003 x314004 x314005))))
def forebaylaw07_MetricEquals.j1 : Nat → Bool → ByteArray → Int → List (S40) → Int → List (S37) → Int → ByteArray → Int → List (S40) → Int → List (S37) → Int → Option (Bool)
 | 0, _, _, _, _, _, _, _, _, _, _, _, _, _ => none
 | k + 1, x9, x313000, x313001, x313002, x313003, x313004, x313005, x314000, x314001, x314002, x314003, x314004, x314005 => (metric_Equal.f k x313000 x313001 x313002 x313003 x313004 x313005 x314000 x314001 x314002 x314003 x314004 x314005).bind fun t342 => ((forebayref07_Equal.f k x313000 x313001 x313002 x313003 x313004 x313005 x314000 x314001 x314002 x314003 x314004 x314005).bind fun t343 => (if (t342 == t343) = true then ((metric_Same.f k x313000 x313001 x313002 x313003 x313004 x313005 x314000 x314001 x314002 x314003 x314004 x314005).bind fun t344 => (if (t344 == x9) = true then ((metric_Same.f k x314000 x314001 x314002 x314003 x314004 x314005 x313000 x313001 x313002 x313003 x313004 x313005).bind fun t345 => (if (t345 == x9) = true then ((forebaylaw07_awake.f k).bind fun t346 => (some t346)) else (none))) else (none))) else (none)))
end
/-! ### metric_Clone: function 24 -/
def metric_Clone.f (a0_0 : ByteArray) (a0_1 : Int) (l0_2 : List (S40)) (a0_3 : Int) (l0_4 : List (S37)) (a0_5 : Int) : Option (ByteArray × Int × (List (S40)) × Int × (List (S37)) × Int) := (slices_Clone_d.f l0_2).bind fun t349 => ((slices_Clone_t.f l0_4).bind fun t352 => (some (a0_0, a0_1, t349, a0_3, t352, a0_5)))
def metric_Clone.T1 : Bool × List (List Nat × List Nat) := (true, [([], []), ([0], [0]), ([1], [1]), ([], []), ([3], [3]), ([4, 2], [4]), ([0, 1, 2, 3, 4], []), ([6, 2, 5, 0, 1, 2, 3, 4], [2, 6]), ([0, 1, 2, 3, 4, 5, 6, 7], []), ([8, 5, 7, 0, 1, 2, 3, 4, 5, 6, 7], [5, 8])])
def metric_Clone.B1 : List Nat := [0, 1, 3, 0, 8, 31, 31, 127, 255, 511]
theorem metric_Clone.tab1 : rtab .any (opsOf Try.f24 1) = metric_Clone.T1 := by kernel_rfl
theorem metric_Clone.bits1 : waitsOk metric_Clone.T1.2 metric_Clone.B1 = true := by kernel_rfl
set_option maxHeartbeats 8000000 in
set_option maxRecDepth 100000 in
theorem metric_Clone.calls (a0_0 : ByteArray) (a0_1 : Int) (A0_2 : Option Addr) (c0_2 : Nat) (l0_2 : List (S40)) (a0_3 : Int) (A0_4 : Option Addr) (c0_4 : Nat) (l0_4 : List (S37)) (a0_5 : Int) (r1 : ByteArray) (r2 : Int) (r3 : List (S40)) (r4 : Int) (r5 : List (S37)) (r6 : Int) (w : World) (hr0_2 : Kd.C k40 w A0_2 l0_2.length l0_2) (hc0_2 : l0_2.length ≤ c0_2) (hr0_4 : Kd.C k37 w A0_4 l0_4.length l0_4) (hc0_4 : l0_4.length ≤ c0_4) (h : metric_Clone.f a0_0 a0_1 l0_2 a0_3 l0_4 a0_5 = some (r1, r2, r3, r4, r5, r6)) :
  Calls Try.prog 24 #[.agg #[.string a0_0, .int .i64 a0_1, .slice A0_2 l0_2.length c0_2, .int .i64 a0_3, .slice A0_4 l0_4.length c0_4, .int .i64 a0_5]] w fun e w' => ∃ v2_ v4_ : Value, e = .returned (.agg #[.string r1, .int .i64 r2, v2_, .int .i64 r4, v4_, .int .i64 r6]) ∧ Kd.R k40 40 w' w.heap.size (fun _ => True) v2_ r3 ∧ Kd.R k37 37 w' w.heap.size (fun _ => True) v4_ r5 ∧ Below w.heap.size w w' := by
 have hu25 := Try.underlying25
 have HR0_2 := Aside0.mk hr0_2
 have HC0_2 := Aside0.mk hc0_2
 clear hr0_2 hc0_2
 have HR0_4 := Aside0.mk hr0_4
 have HC0_4 := Aside0.mk hc0_4
 clear hr0_4 hc0_4
 have HB := Aside0.mk (Below.refl w.heap.size w)
 have H : ((slices_Clone_d.f l0_2).bind fun t349 => ((slices_Clone_t.f l0_4).bind fun t352 => (some (a0_0, a0_1, t349, a0_3, t352, a0_5)))) = some (r1, r2, r3, r4, r5, r6) := h
 clear h
 replace H := Option.bind_eq_some_iff.mp H
 obtain ⟨t349, A20, H⟩ := H
 replace H : ((slices_Clone_t.f l0_4).bind fun t352 => (some (a0_0, a0_1, t349, a0_3, t352, a0_5))) = some (r1, r2, r3, r4, r5, r6) := H
 have A2 := Aside0.mk A20
 clear A20
 replace H := Option.bind_eq_some_iff.mp H
 obtain ⟨t352, A30, H⟩ := H
 replace H : (some (a0_0, a0_1, t349, a0_3, t352, a0_5)) = some (r1, r2, r3, r4, r5, r6) := H
 have A3 := Aside0.mk A30
 clear A30
 simp only [Option.some.injEq, Prod.mk.injEq] at H
 obtain ⟨rfl, rfl, rfl, rfl, rfl, rfl⟩ := H
 go_enter Try.func24, Try.ntmps24
 try go_wp2_with (first | ((with_reducible refine gate_dst (N := 1) rfl ?_); refine box_event ?hg (N := 1) ?hd (cs := #[.string a0_0, .int .i64 a0_1, .slice A0_2 l0_2.length c0_2, .int .i64 a0_3, .slice A0_4 l0_4.length c0_4, .int .i64 a0_5]) (t := 25) ?hr ?_; (case hd => rfl); (case hg => rfl); (case hr => first | (go_simp; done) | (go_simp; rfl)); intro gb347 hg w4 hbox hb; have n0_ := Aside0.mk (below_step (by repeat (first | (with_reducible first | exact HB.out | apply below_alloc | apply pw_below_drewN | apply below_drew1) | exact HB.out)) hb); have n1_ := Aside0.mk (hbox); have n2_ := Aside0.mk ((by rw [hg]; exact (below_size (by repeat (first | (with_reducible first | exact HB.out | apply below_alloc | apply pw_below_drewN | apply below_drew1) | exact HB.out))) : w.heap.size ≤ gb347)); have n3_ := Aside0.mk ((by rw [hg]; exact (below_size (by repeat (first | (with_reducible first | exact HB.out | apply below_alloc | apply pw_below_drewN | apply below_drew1) | exact HB.out))) : w.heap.size ≤ gb347)); clear HB; have HB := n0_; have BK347 := n1_; have GW347 := n2_; have GE347 := n3_; clear n0_ n1_ n2_ n3_; clear hb hbox hg) | ((with_reducible refine gate_dst (N := 2) rfl ?_); refine box_event ?hg (N := 2) ?hd (cs := #[.string (⟨#[]⟩ : ByteArray), .int .i64 0, .slice none 0 0, .int .i64 0, .slice none 0 0, .int .i64 0]) (t := 25) ?hr ?_; (case hd => rfl); (case hg => rfl); (case hr => first | (go_simp; done) | (go_simp; rfl)); intro gb348 hg w5 hbox hb; have n0_ := Aside0.mk (blk_below (g := gb347) (o := .cells #[.string a0_0, .int .i64 a0_1, .slice A0_2 l0_2.length c0_2, .int .i64 a0_3, .slice A0_4 l0_4.length c0_4, .int .i64 a0_5] 25 (0, 0)) (by (with_reducible repeat (first | refine blk_drewN ?_ _ | refine blk_drew ?_ | refine blk_alloc ?_ _)); exact BK347.out) hb); have n1_ := Aside0.mk (below_step (by repeat (first | (with_reducible first | exact HB.out | apply below_alloc | apply pw_below_drewN | apply below_drew1 | refine below_set ?_ GE347.out) | exact HB.out)) hb); have n2_ := Aside0.mk (hbox); have n3_ := Aside0.mk ((by rw [hg]; exact (below_size (by repeat (first | (with_reducible first | exact HB.out | apply below_alloc | apply pw_below_drewN | apply below_drew1 | refine below_set ?_ GE347.out) | exact HB.out))) : w.heap.size ≤ gb348)); have n4_ := Aside0.mk ((by rw [hg]; exact (below_size (by repeat (first | (with_reducible first | exact HB.out | apply below_alloc | apply pw_below_drewN | apply below_drew1 | refine below_set ?_ GE347.out) | exact HB.out))) : w.heap.size ≤ gb348)); have n5_ := Aside0.mk ((by rw [hg]; exact Nat.ne_of_lt (blk_lt (g := gb347) (o := .cells #[.string a0_0, .int .i64 a0_1, .slice A0_2 l0_2.length c0_2, .int .i64 a0_3, .slice A0_4 l0_4.length c0_4, .int .i64 a0_5] 25 (0, 0)) (by (with_reducible repeat (first | refine blk_drewN ?_ _ | refine blk_drew ?_ | refine blk_alloc ?_ _)); exact BK347.out)) : gb347 ≠ gb348)); have n6_ := Aside0.mk ((by rw [hg]; exact Nat.ne_of_gt (blk_lt (g := gb347) (o := .cells #[.string a0_0, .int .i64 a0_1, .slice A0_2 l0_2.length c0_2, .int .i64 a0_3, .slice A0_4 l0_4.length c0_4, .int .i64 a0_5] 25 (0, 0)) (by (with_reducible repeat (first | refine blk_drewN ?_ _ | refine blk_drew ?_ | refine blk_alloc ?_ _)); exact BK347.out)) : gb348 ≠ gb347)); clear BK347; clear HB; have BK347 := n0_; have HB := n1_; have BK348 := n2_; have GW348 := n3_; have GE348 := n4_; have NB347_348 := n5_; have NB348_347 := n6_; clear n0_ n1_ n2_ n3_ n4_ n5_ n6_; clear hb hbox hg))
 have n0_ := Aside0.mk (blk_drew BK347.out)
 have n1_ := Aside0.mk (blk_drew BK348.out)
 have n2_ := Aside0.mk (below_drew1 HB.out)
 clear BK347
 clear BK348
 clear HB
 have BK347 := n0_
 have BK348 := n1_
 have HB := n2_
 clear n0_ n1_ n2_
 refine start_ (n := 10) (S := fun w' => w'.cell? ⟨gb347, 0, none⟩ = some (.string a0_0) ∧ w'.cell? ⟨gb347, 1, none⟩ = some (.int .i64 a0_1) ∧ w'.cell? ⟨gb347, 2, none⟩ = some (.slice A0_2 l0_2.length c0_2) ∧ w'.cell? ⟨gb347, 3, none⟩ = some (.int .i64 a0_3) ∧ w'.cell? ⟨gb347, 4, none⟩ = some (.slice A0_4 l0_4.length c0_4) ∧ w'.cell? ⟨gb347, 5, none⟩ = some (.int .i64 a0_5)) (ds := [7, 9]) #[false, false, false, false, false, false, false, false, false, false] (by kernel_rfl) rfl rfl ⟨(blk_cell BK347.out 0).trans rfl, (blk_cell BK347.out 1).trans rfl, (blk_cell BK347.out 2).trans rfl, (blk_cell BK347.out 3).trans rfl, (blk_cell BK347.out 4).trans rfl, (blk_cell BK347.out 5).trans rfl⟩ (fun hHeld => ?_); refine with_tabW metric_Clone.tab1 metric_Clone.bits1 (fun HT_ HW_ => ?_)
 generalize w5.drew = w6 at BK347 BK348 HB hHeld ⊢
 refine pure_ (i := 0) (N := some 3) (v := ?_) (a' := ?_) #[true, false, false, false, false, false, false, false, false, false] rfl rfl (any_of HT_.out (by kernel_rfl)) (fun _ _ _ h => h) (Or.inl ⟨by rfl, ?_⟩) ?_ ?_
 rotate_left
 ·intro w'
  go_simp
  with_reducible rfl
 rotate_left
 ·simp only [Act.put, List.setIfInBounds_toArray, List.set_cons_zero, List.set_cons_succ, i64_w, i32_w]
  rfl
 refine pure_ (i := 3) (N := some 6) (v := ?_) (a' := ?_) #[true, false, false, true, false, false, false, false, false, false] rfl rfl (any_of HT_.out (by kernel_rfl)) (fun _ _ _ h => h) (Or.inl ⟨by rfl, ?_⟩) ?_ ?_
 rotate_left
 ·intro w'
  go_simp
  with_reducible rfl
 rotate_left
 ·simp only [Act.put, List.setIfInBounds_toArray, List.set_cons_zero, List.set_cons_succ, i64_w, i32_w]
  rfl
 refine take_ (i := 1) (N := some 4) (v := ?_) (a' := ?_) #[true, true, false, true, false, false, false, false, false, false] rfl rfl (take_ofW HT_.out HW_.out (by kernel_rfl)) (fun _ _ _ h => h) (Or.inl ⟨by rfl, ?_⟩) hHeld ?_ ?_
 rotate_left
 ·rintro w' ⟨s0, s1, s2, s3, s4, s5⟩
  go_simp
  with_reducible rfl
 rotate_left
 ·simp only [Act.put, List.setIfInBounds_toArray, List.set_cons_zero, List.set_cons_succ, i64_w, i32_w]
  rfl
 refine take_ (i := 4) (N := some 7) (v := ?_) (a' := ?_) #[true, true, false, true, true, false, false, false, false, false] rfl rfl (take_ofW HT_.out HW_.out (by kernel_rfl)) (fun _ _ _ h => h) (Or.inl ⟨by rfl, ?_⟩) hHeld ?_ ?_
 rotate_left
 ·rintro w' ⟨s0, s1, s2, s3, s4, s5⟩
  go_simp
  with_reducible rfl
 rotate_left
 ·simp only [Act.put, List.setIfInBounds_toArray, List.set_cons_zero, List.set_cons_succ, i64_w, i32_w]
  rfl
 refine one_ (i := 2) (N := some 5) #[true, true, true, true, true, false, false, false, false, false] rfl rfl (one_of HT_.out (by kernel_rfl)) (by decide) (fun K hK => ?_)
 refine goes_ Try.func49 (by kernel_rfl) rfl #[.slice A0_2 l0_2.length c0_2] (by rfl) rfl rfl (by (try simp only [List.map_toArray, List.map_cons, List.map_nil]); first | done | rfl | (simp only [List.length_drop, List.length_take]; rfl)) ?_
 with_reducible refine (slices_Clone_d.calls _ _ l0_2 t349 _ ?side1 ?side2 A2.out).mono ?_
 (case side1 => repeat (first | exact (Kd.C_below HR0_2.out HB.out) | (with_reducible refine Kd.C_alloc ?_ _) | (with_reducible refine Kd.C_drewN ?_ _) | (with_reducible refine Kd.C_drew ?_)))
 (case side2 => exact HC0_2.out)
 rintro e w7 ⟨v350, rfl, ho0, hb⟩
 refine ⟨_, rfl, ?_⟩
 have n0_ := Aside0.mk (Kd.R_lower ho0 (below_size (by repeat (first | (with_reducible first | exact HB.out | apply below_alloc | apply pw_below_drewN | apply below_drew1 | refine below_set ?_ GE347.out | refine below_set ?_ GE348.out) | exact HB.out))))
 have n1_ := Aside0.mk (blk_below (g := gb347) (o := .cells #[.string a0_0, .int .i64 a0_1, .slice A0_2 l0_2.length c0_2, .int .i64 a0_3, .slice A0_4 l0_4.length c0_4, .int .i64 a0_5] 25 (0, 0)) (by (with_reducible repeat (first | refine blk_drewN ?_ _ | refine blk_drew ?_ | refine blk_alloc ?_ _)); exact BK347.out) hb)
 have n2_ := Aside0.mk (blk_below (g := gb348) (o := .cells #[.string (⟨#[]⟩ : ByteArray), .int .i64 0, .slice none 0 0, .int .i64 0, .slice none 0 0, .int .i64 0] 25 (0, 0)) (by (with_reducible repeat (first | refine blk_drewN ?_ _ | refine blk_drew ?_ | refine blk_alloc ?_ _)); exact BK348.out) hb)
 have n3_ := Aside0.mk (below_step (by repeat (first | (with_reducible first | exact HB.out | apply below_alloc | apply pw_below_drewN | apply below_drew1 | refine below_set ?_ GE347.out | refine below_set ?_ GE348.out) | exact HB.out)) hb)
 clear BK347
 clear BK348
 clear HB
 have HO351 := n0_
 have BK347 := n1_
 have BK348 := n2_
 have HB := n3_
 clear n0_ n1_ n2_ n3_
 (try clear hb)
 (try clear hb2)
 (try clear hk)
 (try clear hi)
 (try clear ho0)
 refine hK.out _ _ ⟨(blk_cell BK347.out 0).trans rfl, (blk_cell BK347.out 1).trans rfl, (blk_cell BK347.out 2).trans rfl, (blk_cell BK347.out 3).trans rfl, (blk_cell BK347.out 4).trans rfl, (blk_cell BK347.out 5).trans rfl⟩ (fun hHeld => ?_)
 clear hK K
 refine norm_ (a' := ?_) ?_ ?_
 rotate_left
 ·show Act.put _ (some 5) _ = _
  simp only [Act.put, List.setIfInBounds_toArray, List.set_cons_zero, List.set_cons_succ, i64_w, i32_w]
  rfl
 refine pure_ (i := 6) (N := some 9) (v := ?_) (a' := ?_) #[true, true, true, true, true, false, true, false, false, false] rfl rfl (any_of HT_.out (by kernel_rfl)) (fun _ _ _ h => h) (Or.inl ⟨by rfl, ?_⟩) ?_ ?_
 rotate_left
 ·intro w'
  go_simp
  with_reducible rfl
 rotate_left
 ·simp only [Act.put, List.setIfInBounds_toArray, List.set_cons_zero, List.set_cons_succ, i64_w, i32_w]
  rfl
 refine one_ (i := 5) (N := some 8) #[true, true, true, true, true, true, true, false, false, false] rfl rfl (one_of HT_.out (by kernel_rfl)) (by decide) (fun K hK => ?_)
 refine goes_ Try.func56 (by kernel_rfl) rfl #[.slice A0_4 l0_4.length c0_4] (by rfl) rfl rfl (by (try simp only [List.map_toArray, List.map_cons, List.map_nil]); first | done | rfl | (simp only [List.length_drop, List.length_take]; rfl)) ?_
 with_reducible refine (slices_Clone_t.calls _ _ l0_4 t352 _ ?side1 ?side2 A3.out).mono ?_
 (case side1 => repeat (first | exact (Kd.C_below HR0_4.out HB.out) | (with_reducible refine Kd.C_alloc ?_ _) | (with_reducible refine Kd.C_drewN ?_ _) | (with_reducible refine Kd.C_drew ?_)))
 (case side2 => exact HC0_4.out)
 rintro e w8 ⟨v353, rfl, ho0, hb⟩
 refine ⟨_, rfl, ?_⟩
 have n0_ := Aside0.mk (Kd.R_below (by (with_reducible repeat (first | apply Kd.R_alloc | apply Kd.R_drewN | apply Kd.R_drew)); exact HO351.out) hb)
 have n1_ := Aside0.mk (Kd.R_lower ho0 (below_size (by repeat (first | (with_reducible first | exact HB.out | apply below_alloc | apply pw_below_drewN | apply below_drew1 | refine below_set ?_ GE347.out | refine below_set ?_ GE348.out) | exact HB.out))))
 have n2_ := Aside0.mk (blk_below (g := gb347) (o := .cells #[.string a0_0, .int .i64 a0_1, .slice A0_2 l0_2.length c0_2, .int .i64 a0_3, .slice A0_4 l0_4.length c0_4, .int .i64 a0_5] 25 (0, 0)) (by (with_reducible repeat (first | refine blk_drewN ?_ _ | refine blk_drew ?_ | refine blk_alloc ?_ _)); exact BK347.out) hb)
 have n3_ := Aside0.mk (blk_below (g := gb348) (o := .cells #[.string (⟨#[]⟩ : ByteArray), .int .i64 0, .slice none 0 0, .int .i64 0, .slice none 0 0, .int .i64 0] 25 (0, 0)) (by (with_reducible repeat (first | refine blk_drewN ?_ _ | refine blk_drew ?_ | refine blk_alloc ?_ _)); exact BK348.out) hb)
 have n4_ := Aside0.mk (below_step (by repeat (first | (with_reducible first | exact HB.out | apply below_alloc | apply pw_below_drewN | apply below_drew1 | refine below_set ?_ GE347.out | refine below_set ?_ GE348.out) | exact HB.out)) hb)
 clear HO351
 clear BK347
 clear BK348
 clear HB
 have HO351 := n0_
 have HO354 := n1_
 have BK347 := n2_
 have BK348 := n3_
 have HB := n4_
 clear n0_ n1_ n2_ n3_ n4_
 (try clear hb)
 (try clear hb2)
 (try clear hk)
 (try clear hi)
 (try clear ho0)
 obtain ⟨Ao9, co9, eo9⟩ := Kd.R_slice HO351.out
 (first | subst eo9 | (injection eo9 with f1_ f2_ f3_; have f4_ := f1_.symm; have f5_ := f3_.symm; clear f1_ f2_ f3_; subst f4_; subst f5_))
 obtain ⟨Ao11, co11, eo11⟩ := Kd.R_slice HO354.out
 (first | subst eo11 | (injection eo11 with f1_ f2_ f3_; have f4_ := f1_.symm; have f5_ := f3_.symm; clear f1_ f2_ f3_; subst f4_; subst f5_))
 refine hK.out _ _ ⟨(blk_cell BK347.out 0).trans rfl, (blk_cell BK347.out 1).trans rfl, (blk_cell BK347.out 2).trans rfl, (blk_cell BK347.out 3).trans rfl, (blk_cell BK347.out 4).trans rfl, (blk_cell BK347.out 5).trans rfl⟩ (fun hHeld => ?_)
 clear hK K
 refine norm_ (a' := ?_) ?_ ?_
 rotate_left
 ·show Act.put _ (some 8) _ = _
  simp only [Act.put, List.setIfInBounds_toArray, List.set_cons_zero, List.set_cons_succ, i64_w, i32_w]
  rfl
 refine last_ (i := 7) (N := none) #[true, true, true, true, true, true, true, true, false, false] rfl rfl (one_of HT_.out (by kernel_rfl)) (by decide) (fun K hK => ?_)
 have hs10 : w8.cell? ⟨gb347, 2, none⟩ = some (.slice A0_2 l0_2.length c0_2) := (blk_cell BK347.out 2).trans rfl
 have hfs10 := blk_frozen BK347.out 2
 have hns10_1 := NB348_347.out
 have hms10_1 := NB347_348.out
 refine skip_ (w1 := ?_) (by rfl) rfl ?_ ?_
 rotate_left
 ·go_simp
  rfl
 refine hK.out _ _ ?_
 clear hK K
 refine pure_ (i := 8) (N := some 10) (v := ?_) (a' := ?_) #[true, true, true, true, true, true, true, true, true, false] rfl rfl (any_of HT_.out (by kernel_rfl)) (fun _ _ _ h => h) (Or.inl ⟨by rfl, ?_⟩) ?_ ?_
 rotate_left
 ·intro w'
  go_simp
  with_reducible rfl
 rotate_left
 ·simp only [Act.put, List.setIfInBounds_toArray, List.set_cons_zero, List.set_cons_succ, i64_w, i32_w]
  rfl
 refine last_ (i := 9) (N := none) #[true, true, true, true, true, true, true, true, true, true] rfl rfl (one_of HT_.out (by kernel_rfl)) (by decide) (fun K hK => ?_)
 have hs12 : w8.cell? ⟨gb347, 4, none⟩ = some (.slice A0_4 l0_4.length c0_4) := (blk_cell BK347.out 4).trans rfl
 have hfs12 := blk_frozen BK347.out 4
 have hns12_1 := NB348_347.out
 have hms12_1 := NB347_348.out
 refine skip_ (w1 := ?_) (by rfl) rfl ?_ ?_
 rotate_left
 ·go_simp
  rfl
 refine hK.out _ _ ?_
 clear hK K
 refine done_ (done_of HT_.out (by kernel_rfl)) ?_
 have hnb13 := NB347_348.out
 have hnc13 := NB348_347.out
 have hcz14_0 : w8.cell? ⟨gb347, 0, none⟩ = some (.string a0_0) := (blk_cell BK347.out 0).trans rfl
 have hcz14_1 : w8.cell? ⟨gb347, 1, none⟩ = some (.int .i64 a0_1) := (blk_cell BK347.out 1).trans rfl
 have hcz14_2 : w8.cell? ⟨gb347, 2, none⟩ = some (.slice A0_2 l0_2.length c0_2) := (blk_cell BK347.out 2).trans rfl
 have hcz14_3 : w8.cell? ⟨gb347, 3, none⟩ = some (.int .i64 a0_3) := (blk_cell BK347.out 3).trans rfl
 have hcz14_4 : w8.cell? ⟨gb347, 4, none⟩ = some (.slice A0_4 l0_4.length c0_4) := (blk_cell BK347.out 4).trans rfl
 have hcz14_5 : w8.cell? ⟨gb347, 5, none⟩ = some (.int .i64 a0_5) := (blk_cell BK347.out 5).trans rfl
 have hfz14_0 := blk_frozen BK347.out 0
 have hfz14_1 := blk_frozen BK347.out 1
 have hfz14_2 := blk_frozen BK347.out 2
 have hfz14_3 := blk_frozen BK347.out 3
 have hfz14_4 := blk_frozen BK347.out 4
 have hfz14_5 := blk_frozen BK347.out 5
 have hcz15_0 : w8.cell? ⟨gb348, 0, none⟩ = some (.string (⟨#[]⟩ : ByteArray)) := (blk_cell BK348.out 0).trans rfl
 have hcz15_1 : w8.cell? ⟨gb348, 1, none⟩ = some (.int .i64 0) := (blk_cell BK348.out 1).trans rfl
 have hcz15_2 : w8.cell? ⟨gb348, 2, none⟩ = some (.slice none 0 0) := (blk_cell BK348.out 2).trans rfl
 have hcz15_3 : w8.cell? ⟨gb348, 3, none⟩ = some (.int .i64 0) := (blk_cell BK348.out 3).trans rfl
 have hcz15_4 : w8.cell? ⟨gb348, 4, none⟩ = some (.slice none 0 0) := (blk_cell BK348.out 4).trans rfl
 have hcz15_5 : w8.cell? ⟨gb348, 5, none⟩ = some (.int .i64 0) := (blk_cell BK348.out 5).trans rfl
 have hfz15_0 := blk_frozen BK348.out 0
 have hfz15_1 := blk_frozen BK348.out 1
 have hfz15_2 := blk_frozen BK348.out 2
 have hfz15_3 := blk_frozen BK348.out 3
 have hfz15_4 := blk_frozen BK348.out 4
 have hfz15_5 := blk_frozen BK348.out 5
 try go_wp2
 refine bodyPost_ret (results_cell_row rfl _ _ gb348 25 #[.string a0_0, .int .i64 a0_1, .slice Ao9 t349.length co9, .int .i64 a0_3, .slice Ao11 t352.length co11, .int .i64 a0_5] (0, 0) _ rfl (by (with_reducible repeat (first | refine blk_drewN ?_ _ | refine blk_drew ?_ | refine blk_alloc ?_ _)); refine blk_put (cs := #[.string a0_0, .int .i64 a0_1, .slice Ao9 t349.length co9, .int .i64 a0_3, .slice Ao11 t352.length co11, .int .i64 0]) ?_ 5 _ rfl; (with_reducible repeat (first | refine blk_drewN ?_ _ | refine blk_drew ?_ | refine blk_alloc ?_ _)); refine blk_put (cs := #[.string a0_0, .int .i64 a0_1, .slice Ao9 t349.length co9, .int .i64 a0_3, .slice none 0 0, .int .i64 0]) ?_ 4 _ rfl; (with_reducible repeat (first | refine blk_drewN ?_ _ | refine blk_drew ?_ | refine blk_alloc ?_ _)); refine blk_put (cs := #[.string a0_0, .int .i64 a0_1, .slice Ao9 t349.length co9, .int .i64 0, .slice none 0 0, .int .i64 0]) ?_ 3 _ rfl; (with_reducible repeat (first | refine blk_drewN ?_ _ | refine blk_drew ?_ | refine blk_alloc ?_ _)); refine blk_put (cs := #[.string a0_0, .int .i64 a0_1, .slice none 0 0, .int .i64 0, .slice none 0 0, .int .i64 0]) ?_ 2 _ rfl; (with_reducible repeat (first | refine blk_drewN ?_ _ | refine blk_drew ?_ | refine blk_alloc ?_ _)); refine blk_put (cs := #[.string a0_0, .int .i64 0, .slice none 0 0, .int .i64 0, .slice none 0 0, .int .i64 0]) ?_ 1 _ rfl; (with_reducible repeat (first | refine blk_drewN ?_ _ | refine blk_drew ?_ | refine blk_alloc ?_ _)); refine blk_put (cs := #[.string (⟨#[]⟩ : ByteArray), .int .i64 0, .slice none 0 0, .int .i64 0, .slice none 0 0, .int .i64 0]) ?_ 0 _ rfl; (with_reducible repeat (first | refine blk_drewN ?_ _ | refine blk_drew ?_ | refine blk_alloc ?_ _)); refine blk_far ?_ NB348_347.out _; (with_reducible repeat (first | refine blk_drewN ?_ _ | refine blk_drew ?_ | refine blk_alloc ?_ _)); refine blk_far ?_ NB348_347.out _; (with_reducible repeat (first | refine blk_drewN ?_ _ | refine blk_drew ?_ | refine blk_alloc ?_ _)); exact BK348.out) Try.underlying25 rfl (by kernel_rfl)) rfl ?_
 exact ⟨_, _, by first | rfl | (simp [errW_none, errW_some] <;> rfl) | (simp [*, errW_none, errW_some] <;> rfl), by (with_reducible repeat (first | apply Kd.R_alloc | apply Kd.R_drewN | apply Kd.R_drew)); exact Kd.R_mono (Kd.R_far (p := ⟨gb348, 5, none⟩) (Kd.R_far (p := ⟨gb348, 4, none⟩) (Kd.R_far (p := ⟨gb348, 3, none⟩) (Kd.R_far (p := ⟨gb348, 2, none⟩) (Kd.R_far (p := ⟨gb348, 1, none⟩) (Kd.R_far (p := ⟨gb348, 0, none⟩) (Kd.R_far (p := ⟨gb347, 4, none⟩) (Kd.R_far (p := ⟨gb347, 2, none⟩) (Kd.R_types (Kd.R_types HO351.out BK347.out (by decide)) BK348.out (by decide)) (fun _ hk => hk.1.2) (.slice Ao9 t349.length co9)) (fun _ hk => hk.1.2) (.slice Ao11 t352.length co11)) (fun _ hk => hk.2) (.string a0_0)) (fun _ hk => hk.2) (.int .i64 a0_1)) (fun _ hk => hk.2) (.slice Ao9 t349.length co9)) (fun _ hk => hk.2) (.int .i64 a0_3)) (fun _ hk => hk.2) (.slice Ao11 t352.length co11)) (fun _ hk => hk.2) (.int .i64 a0_5)) (fun _ hk => trivial), by (with_reducible repeat (first | apply Kd.R_alloc | apply Kd.R_drewN | apply Kd.R_drew)); exact Kd.R_mono (Kd.R_far (p := ⟨gb348, 5, none⟩) (Kd.R_far (p := ⟨gb348, 4, none⟩) (Kd.R_far (p := ⟨gb348, 3, none⟩) (Kd.R_far (p := ⟨gb348, 2, none⟩) (Kd.R_far (p := ⟨gb348, 1, none⟩) (Kd.R_far (p := ⟨gb348, 0, none⟩) (Kd.R_far (p := ⟨gb347, 4, none⟩) (Kd.R_far (p := ⟨gb347, 2, none⟩) (Kd.R_types (Kd.R_types HO354.out BK347.out (by decide)) BK348.out (by decide)) (fun _ hk => hk.1.2) (.slice Ao9 t349.length co9)) (fun _ hk => hk.1.2) (.slice Ao11 t352.length co11)) (fun _ hk => hk.2) (.string a0_0)) (fun _ hk => hk.2) (.int .i64 a0_1)) (fun _ hk => hk.2) (.slice Ao9 t349.length co9)) (fun _ hk => hk.2) (.int .i64 a0_3)) (fun _ hk => hk.2) (.slice Ao11 t352.length co11)) (fun _ hk => hk.2) (.int .i64 a0_5)) (fun _ hk => trivial), by repeat (first | (with_reducible first | exact HB.out | apply below_alloc | apply pw_below_drewN | apply below_drew1 | refine below_set ?_ GE347.out | refine below_set ?_ GE348.out) | exact HB.out)⟩
/-! ### forebayref07_Copy: function 25 -/
def forebayref07_Copy.f (a0_0 : ByteArray) (a0_1 : Int) (l0_2 : List (S40)) (a0_3 : Int) (l0_4 : List (S37)) (a0_5 : Int) : Option (ByteArray × Int × (List (S40)) × Int × (List (S37)) × Int) := (some (([] : List (S40)) : List (S40))).bind fun y357 => (if y357.length + l0_2.length < 5864062014805 then ((some (([] : List (S37)) : List (S37))).bind fun y363 => (if y363.length + l0_4.length < 4398046511104 then (some (a0_0, a0_1, (y357 ++ l0_2), a0_3, (y363 ++ l0_4), a0_5)) else (none))) else (none))
/-! ### metric_Split: function 26 -/
def metric_Split.l0 : Nat → List (S25) → List (S40) → Int → Int → ByteArray → Int → List (S40) → Int → List (S37) → Int → Option ((List (S25)) × Int)
 | 0, _, _, _, _, _, _, _, _, _, _ => none
 | k + 1, x5, x15, x16, x17, x370000, x370001, x370002, x370003, x370004, x370005 => if x17 < x16 then (if 0 ≤ x17 then (if x17 < (x15.length : Int) then ((metric_Clone.f x370000 x370001 x370002 x370003 x370004 x370005).bind fun bt373 => (if x5.length < 1599289640401 then (metric_Split.l0 k (x5 ++ [(⟨bt373.1, bt373.2.1, (([(⟨(rd_T40 x15 x17).f0, (rd_T40 x15 x17).f1, (rd_T40 x15 x17).f2⟩ : S40)] : List (S40))), bt373.2.2.2.1, bt373.2.2.2.2.1, bt373.2.2.2.2.2⟩ : S25)]) x15 x16 (wrap64 (x17 + 1)) x370000 x370001 x370002 x370003 x370004 x370005) else (none))) else (none)) else (none)) else (some (x5, 0))
-- NOT PRINTED: function 7 (forebaylaw07_MetricSplits)
end Go.Proofs.Yteamldgngknmfaa.PE
