-- Printed by the kit's print.py over contracts of this session's own.
import Derived.Test.YteamldgngknmfaaZGInjN
import Derived.Test.YteamldgngknmfaaZGMNorm
import Derived.Test.YteamldgngknmfaaZGPEx0
import Derived.Test.YteamldgngknmfaaZGPEx11
import Derived.Test.YteamldgngknmfaaZGPEx12
import Derived.Test.YteamldgngknmfaaZGPEx14
namespace Go.Proofs.Yteamldgngknmfaa.PE
open Go.RowKit Go.Proofs.YteamldgngknmfaaW.PrintWords Go.Proofs.YteamldgngknmfaaW.PrintLast Go.Proofs.YteamldgngknmfaaW.PrintMore
attribute [local go_sem] max2_int min2_int max_two min_two max_three min_three max_four min_four   -- for this text's walks alone
set_option linter.unusedVariables false
set_option linter.unusedSimpArgs false
/-! ### forebaylaw08_BatchEquals: function 11 -/
mutual
def forebaylaw08_BatchEquals.j0 : Nat → List (S25) → List (S25) → Bool → Option (Bool)
 | 0, _, _, _ => none
 | k + 1, x0, x1, x19 => if x19 = true then ((forebaylaw08_awake.f k).bind fun t557 => (some t557)) else ((forebayref08_Normal.f k x0).bind fun bt558 => ((forebayref08_Normal.f k x1).bind fun bt563 => (if bt558.2.2 = 0 then (if bt563.2.2 = 0 then ((forebayref08_Equal.f k bt558.1 bt563.1).bind fun t568 => (forebaylaw08_BatchEquals.j1 k x0 x1 t568)) else (forebaylaw08_BatchEquals.j1 k x0 x1 false)) else (forebaylaw08_BatchEquals.j1 k x0 x1 false))))
def forebaylaw08_BatchEquals.j1 : Nat → List (S25) → List (S25) → Bool → Option (Bool)
 | 0, _, _, _ => none
 | k + 1, x0, x1, x11 => (batch_Equal.f x0 x1).bind fun t569 => ((forebayref08_Equal.f k x0 x1).bind fun t570 => (if (t569 == t570) = true then ((batch_Same.f x0 x1).bind fun t571 => (if (t571 == x11) = true then ((batch_Names.f x0).bind fun t572 => ((forebayref08_Names.f k x0).bind fun t575 => ((forebaylaw08_texts.f k t572 t575).bind fun t578 => (if t578 = true then ((forebaylaw08_awake.f k).bind fun t579 => (some t579)) else (none))))) else (none))) else (none)))
end
/-! ### forebaylaw08_BatchOnce: function 12 -/
mutual
def forebaylaw08_BatchOnce.j1 : Nat → List (S25) → List (S25) → Bool → Option (Bool)
 | 0, _, _, _ => none
 | k + 1, x0, x3, x103 => if x103 = true then (none) else (forebaylaw08_BatchOnce.l0 k x0 x3 0)
def forebaylaw08_BatchOnce.l0 : Nat → List (S25) → List (S25) → Int → Option (Bool)
 | 0, _, _, _ => none
 | k + 1, x0, x3, x14 => if x14 < (x0.length : Int) then (if 0 ≤ x14 then ((metric_Normal.f ((rd_T25 x0 x14).f0) ((rd_T25 x0 x14).f1) ((rd_T25 x0 x14).f2) ((rd_T25 x0 x14).f3) ((rd_T25 x0 x14).f4) ((rd_T25 x0 x14).f5)).bind fun bt620 => (if bt620.2.2.2.2.2.2 = 0 then (if x14 < (x3.length : Int) then ((metric_Equal.f k bt620.1 bt620.2.1 bt620.2.2.1 bt620.2.2.2.1 bt620.2.2.2.2.1 bt620.2.2.2.2.2.1 ((rd_T25 x3 x14).f0) ((rd_T25 x3 x14).f1) ((rd_T25 x3 x14).f2) ((rd_T25 x3 x14).f3) ((rd_T25 x3 x14).f4) ((rd_T25 x3 x14).f5)).bind fun t633 => (if t633 = true then ((metric_Same.f k ((rd_T25 x0 x14).f0) ((rd_T25 x0 x14).f1) ((rd_T25 x0 x14).f2) ((rd_T25 x0 x14).f3) ((rd_T25 x0 x14).f4) ((rd_T25 x0 x14).f5) ((rd_T25 x3 x14).f0) ((rd_T25 x3 x14).f1) ((rd_T25 x3 x14).f2) ((rd_T25 x3 x14).f3) ((rd_T25 x3 x14).f4) ((rd_T25 x3 x14).f5)).bind fun t636 => (if t636 = true then (forebaylaw08_BatchOnce.l0 k x0 x3 (wrap64 (x14 + 1))) else (none))) else (none))) else (none)) else (none))) else (none)) else ((forebaylaw08_awake.f k).bind fun t618 => (some t618))
def forebaylaw08_BatchOnce.j0 : Nat → List (S25) → Int → Int → Bool → Option (Bool)
 | 0, _, _, _, _ => none
 | k + 1, x0, x4, x5, x46 => if x46 = true then (none) else (if 0 ≤ x4 then (if x4 < (x0.length : Int) then ((metric_Normal.f ((rd_T25 x0 x4).f0) ((rd_T25 x0 x4).f1) ((rd_T25 x0 x4).f2) ((rd_T25 x0 x4).f3) ((rd_T25 x0 x4).f4) ((rd_T25 x0 x4).f5)).bind fun bt589 => (if x4 ≤ (x0.length : Int) then ((batch_Normal.f (x0.take (x4 : Int).toNat)).bind fun bt605 => (if bt589.2.2.2.2.2.2 = x5 then (if bt605.2.2 = 0 then ((forebaylaw08_awake.f k).bind fun t610 => (some t610)) else (none)) else (none))) else (none))) else (none)) else (none))
end
def forebaylaw08_BatchOnce.f (k : Nat) (l0 : List (S25)) : Option (Bool) := (forebaylaw08_Few.f k l0).bind fun t580 => (if t580 = true then ((batch_Normal.f l0).bind fun bt582 => (if bt582.2.2 = 0 then ((batch_Normal.f bt582.1).bind fun bt611 => (if bt611.2.2 = 0 then ((batch_Equal.f bt611.1 bt582.1).bind fun t616 => (if t616 = true then ((batch_Same.f l0 bt582.1).bind fun t617 => (if t617 = true then (if (bt582.1.length : Int) = (l0.length : Int) then (forebaylaw08_BatchOnce.j1 k l0 bt582.1 (bt582.2.1 != 0)) else (forebaylaw08_BatchOnce.j1 k l0 bt582.1 true)) else (forebaylaw08_BatchOnce.j1 k l0 bt582.1 true))) else (forebaylaw08_BatchOnce.j1 k l0 bt582.1 true))) else (forebaylaw08_BatchOnce.j1 k l0 bt582.1 true))) else (if (bt582.1.length : Int) = 0 then (if bt582.2.1 < 0 then (forebaylaw08_BatchOnce.j0 k l0 bt582.2.1 bt582.2.2 true) else (if bt582.2.1 ≥ (l0.length : Int) then (forebaylaw08_BatchOnce.j0 k l0 bt582.2.1 bt582.2.2 true) else ((batch_Same.f l0 l0).bind fun t587 => (forebaylaw08_BatchOnce.j0 k l0 bt582.2.1 bt582.2.2 t587)))) else (forebaylaw08_BatchOnce.j0 k l0 bt582.2.1 bt582.2.2 true)))) else ((forebaylaw08_awake.f k).bind fun t581 => (some t581)))
def forebaylaw08_BatchOnce.T17 : Bool × List (List Nat × List Nat) := (true, [([], []), ([0], [0]), ([1], [1]), ([2], [2]), ([2], [2]), ([2], [2]), ([4, 5, 2], [2, 4, 5]), ([6, 2], [2, 6]), ([3, 7, 2, 2], [2, 3, 7]), ([8, 2], [2, 8]), ([2, 9], [2, 9]), ([10, 8], [10]), ([11], [11]), ([11], [11]), ([12, 13, 11], [11, 12, 13]), ([14, 11], [11, 14]), ([11], [11]), ([11], [11]), ([16, 17, 11], [11, 16, 17]), ([18, 11], [11, 18]), ([15, 19, 11, 11], [11, 15, 19]), ([20, 11], [11, 20]), ([11, 21], [11, 21])])
def forebaylaw08_BatchOnce.B17 : List Nat := [0, 1, 3, 7, 7, 7, 55, 119, 255, 511, 1023, 2047, 4095, 4095, 16383, 32767, 4095, 4095, 200703, 462847, 1048575, 2097151, 4194303]
theorem forebaylaw08_BatchOnce.tab17 : rtab .any (opsOf Try.f12 17) = forebaylaw08_BatchOnce.T17 := by kernel_rfl
theorem forebaylaw08_BatchOnce.bits17 : waitsOk forebaylaw08_BatchOnce.T17.2 forebaylaw08_BatchOnce.B17 = true := by kernel_rfl
set_option maxHeartbeats 8000000 in
set_option maxRecDepth 100000 in
theorem forebaylaw08_BatchOnce.calls (k : Nat) (A0 : Option Addr) (c0 : Nat) (l0 : List (S25)) (r : Bool) (w : World) (hr0 : Kd.C k25 w A0 l0.length l0) (hc0 : l0.length ≤ c0) (h : forebaylaw08_BatchOnce.f k l0 = some r) :
  Calls Try.prog 12 #[.slice A0 l0.length c0] w fun e w' => e = .returned (.bool r) ∧ Below w.heap.size w w' := by
 have hu25 := Try.underlying25
 have HR0 := Aside0.mk hr0
 have HC0 := Aside0.mk hc0
 clear hr0 hc0
 have HB := Aside0.mk (Below.refl w.heap.size w)
 have H : ((forebaylaw08_Few.f k l0).bind fun t580 => (if t580 = true then ((batch_Normal.f l0).bind fun bt582 => (if bt582.2.2 = 0 then ((batch_Normal.f bt582.1).bind fun bt611 => (if bt611.2.2 = 0 then ((batch_Equal.f bt611.1 bt582.1).bind fun t616 => (if t616 = true then ((batch_Same.f l0 bt582.1).bind fun t617 => (if t617 = true then (if (bt582.1.length : Int) = (l0.length : Int) then (forebaylaw08_BatchOnce.j1 k l0 bt582.1 (bt582.2.1 != 0)) else (forebaylaw08_BatchOnce.j1 k l0 bt582.1 true)) else (forebaylaw08_BatchOnce.j1 k l0 bt582.1 true))) else (forebaylaw08_BatchOnce.j1 k l0 bt582.1 true))) else (forebaylaw08_BatchOnce.j1 k l0 bt582.1 true))) else (if (bt582.1.length : Int) = 0 then (if bt582.2.1 < 0 then (forebaylaw08_BatchOnce.j0 k l0 bt582.2.1 bt582.2.2 true) else (if bt582.2.1 ≥ (l0.length : Int) then (forebaylaw08_BatchOnce.j0 k l0 bt582.2.1 bt582.2.2 true) else ((batch_Same.f l0 l0).bind fun t587 => (forebaylaw08_BatchOnce.j0 k l0 bt582.2.1 bt582.2.2 t587)))) else (forebaylaw08_BatchOnce.j0 k l0 bt582.2.1 bt582.2.2 true)))) else ((forebaylaw08_awake.f k).bind fun t581 => (some t581)))) = some r := h
 clear h
 replace H := Option.bind_eq_some_iff.mp H
 obtain ⟨t580, A20, H⟩ := H
 replace H : (if t580 = true then ((batch_Normal.f l0).bind fun bt582 => (if bt582.2.2 = 0 then ((batch_Normal.f bt582.1).bind fun bt611 => (if bt611.2.2 = 0 then ((batch_Equal.f bt611.1 bt582.1).bind fun t616 => (if t616 = true then ((batch_Same.f l0 bt582.1).bind fun t617 => (if t617 = true then (if (bt582.1.length : Int) = (l0.length : Int) then (forebaylaw08_BatchOnce.j1 k l0 bt582.1 (bt582.2.1 != 0)) else (forebaylaw08_BatchOnce.j1 k l0 bt582.1 true)) else (forebaylaw08_BatchOnce.j1 k l0 bt582.1 true))) else (forebaylaw08_BatchOnce.j1 k l0 bt582.1 true))) else (forebaylaw08_BatchOnce.j1 k l0 bt582.1 true))) else (if (bt582.1.length : Int) = 0 then (if bt582.2.1 < 0 then (forebaylaw08_BatchOnce.j0 k l0 bt582.2.1 bt582.2.2 true) else (if bt582.2.1 ≥ (l0.length : Int) then (forebaylaw08_BatchOnce.j0 k l0 bt582.2.1 bt582.2.2 true) else ((batch_Same.f l0 l0).bind fun t587 => (forebaylaw08_BatchOnce.j0 k l0 bt582.2.1 bt582.2.2 t587)))) else (forebaylaw08_BatchOnce.j0 k l0 bt582.2.1 bt582.2.2 true)))) else ((forebaylaw08_awake.f k).bind fun t581 => (some t581))) = some r := H
 have A2 := Aside0.mk A20
 clear A20
 by_cases c3 : t580 = true
 ·subst c3
  have H1 : ((batch_Normal.f l0).bind fun bt582 => (if bt582.2.2 = 0 then ((batch_Normal.f bt582.1).bind fun bt611 => (if bt611.2.2 = 0 then ((batch_Equal.f bt611.1 bt582.1).bind fun t616 => (if t616 = true then ((batch_Same.f l0 bt582.1).bind fun t617 => (if t617 = true then (if (bt582.1.length : Int) = (l0.length : Int) then (forebaylaw08_BatchOnce.j1 k l0 bt582.1 (bt582.2.1 != 0)) else (forebaylaw08_BatchOnce.j1 k l0 bt582.1 true)) else (forebaylaw08_BatchOnce.j1 k l0 bt582.1 true))) else (forebaylaw08_BatchOnce.j1 k l0 bt582.1 true))) else (forebaylaw08_BatchOnce.j1 k l0 bt582.1 true))) else (if (bt582.1.length : Int) = 0 then (if bt582.2.1 < 0 then (forebaylaw08_BatchOnce.j0 k l0 bt582.2.1 bt582.2.2 true) else (if bt582.2.1 ≥ (l0.length : Int) then (forebaylaw08_BatchOnce.j0 k l0 bt582.2.1 bt582.2.2 true) else ((batch_Same.f l0 l0).bind fun t587 => (forebaylaw08_BatchOnce.j0 k l0 bt582.2.1 bt582.2.2 t587)))) else (forebaylaw08_BatchOnce.j0 k l0 bt582.2.1 bt582.2.2 true)))) = some r := by rw [if_pos rfl] at H; exact H
  clear H
  have H := H1
  clear H1
  replace H := Option.bind_eq_some_iff.mp H
  obtain ⟨⟨t582, t585, t586⟩, A40, H⟩ := H
  replace H : (if t586 = 0 then ((batch_Normal.f t582).bind fun bt611 => (if bt611.2.2 = 0 then ((batch_Equal.f bt611.1 t582).bind fun t616 => (if t616 = true then ((batch_Same.f l0 t582).bind fun t617 => (if t617 = true then (if (t582.length : Int) = (l0.length : Int) then (forebaylaw08_BatchOnce.j1 k l0 t582 (t585 != 0)) else (forebaylaw08_BatchOnce.j1 k l0 t582 true)) else (forebaylaw08_BatchOnce.j1 k l0 t582 true))) else (forebaylaw08_BatchOnce.j1 k l0 t582 true))) else (forebaylaw08_BatchOnce.j1 k l0 t582 true))) else (if (t582.length : Int) = 0 then (if t585 < 0 then (forebaylaw08_BatchOnce.j0 k l0 t585 t586 true) else (if t585 ≥ (l0.length : Int) then (forebaylaw08_BatchOnce.j0 k l0 t585 t586 true) else ((batch_Same.f l0 l0).bind fun t587 => (forebaylaw08_BatchOnce.j0 k l0 t585 t586 t587)))) else (forebaylaw08_BatchOnce.j0 k l0 t585 t586 true))) = some r := H
  have A4 := Aside0.mk A40
  clear A40
  by_cases c5 : t586 = 0
  ·rw [if_pos c5] at H
   have c5b0 : (t586 == 0) = true := beq_iff_eq.mpr c5
   have c5b1 : (t586 != 0) = false := bne_eq_false_iff_eq.mpr c5
   clear c5
   replace H := Option.bind_eq_some_iff.mp H
   obtain ⟨⟨t611, t614, t615⟩, A60, H⟩ := H
   replace H : (if t615 = 0 then ((batch_Equal.f t611 t582).bind fun t616 => (if t616 = true then ((batch_Same.f l0 t582).bind fun t617 => (if t617 = true then (if (t582.length : Int) = (l0.length : Int) then (forebaylaw08_BatchOnce.j1 k l0 t582 (t585 != 0)) else (forebaylaw08_BatchOnce.j1 k l0 t582 true)) else (forebaylaw08_BatchOnce.j1 k l0 t582 true))) else (forebaylaw08_BatchOnce.j1 k l0 t582 true))) else (forebaylaw08_BatchOnce.j1 k l0 t582 true)) = some r := H
   have A6 := Aside0.mk A60
   clear A60
   have HC7 := Aside0.mk H
   clear H
   go_enter Try.func12, Try.ntmps12
   go_upto_region 11 with (first | ((with_reducible refine gate_callee (f := 28) rfl ?_); refine goesL_ (some 18) rfl rfl Try.func28 (by kernel_rfl) rfl #[.slice A0 l0.length c0] rfl (by (try simp only [List.map_toArray, List.map_cons, List.map_nil]); first | done | rfl | (simp only [List.length_drop, List.length_take]; rfl)) ?_; (with_reducible refine (forebaylaw08_Few.calls k _ _ l0 true _ ?side1 ?side2 A2.out).mono ?_); (case side1 => repeat (first | exact HR0.out | (with_reducible refine Kd.C_alloc ?_ _) | (with_reducible refine Kd.C_drewN ?_ _) | (with_reducible refine Kd.C_drew ?_))); (case side2 => exact HC0.out); rintro e w8 ⟨rfl, hb⟩; refine ⟨_, rfl, ?_⟩; have n0_ := Aside0.mk (below_step (by repeat (first | (with_reducible first | exact HB.out | apply below_alloc | apply pw_below_drewN | apply below_drew1) | exact HB.out)) hb); clear HB; have HB := n0_; clear n0_; (try clear hb); (try clear hb2); (try clear hk); (try clear hi)) | ((with_reducible refine gate_callee (f := 32) rfl ?_); refine goesL_ (some 23) rfl rfl Try.func32 (by kernel_rfl) rfl #[.slice A0 l0.length c0] rfl (by (try simp only [List.map_toArray, List.map_cons, List.map_nil]); first | done | rfl | (simp only [List.length_drop, List.length_take]; rfl)) ?_; (with_reducible refine (batch_Normal.calls _ _ l0 t582 t585 t586 _ ?side1 ?side2 A4.out).mono ?_); (case side1 => repeat (first | exact (Kd.C_below HR0.out HB.out) | (with_reducible refine Kd.C_alloc ?_ _) | (with_reducible refine Kd.C_drewN ?_ _) | (with_reducible refine Kd.C_drew ?_))); (case side2 => exact HC0.out); rintro e w9 ⟨v583, rfl, ho0, hb⟩; refine ⟨_, rfl, ?_⟩; have n0_ := Aside0.mk (Kd.N_lower (Kd.N_mono (ok' := fun k_ => True) ho0 (fun k_ hk_ => trivial)) (below_size (by repeat (first | (with_reducible first | exact HB.out | apply below_alloc | apply pw_below_drewN | apply below_drew1) | exact HB.out)))); have n1_ := Aside0.mk (below_step (by repeat (first | (with_reducible first | exact HB.out | apply below_alloc | apply pw_below_drewN | apply below_drew1) | exact HB.out)) hb); clear HB; have HO584 := n0_; have HB := n1_; clear n0_ n1_; (try clear hb); (try clear hb2); (try clear hk); (try clear hi); (try clear ho0); obtain ⟨Ao10, co10, eo10⟩ := Kd.N_slice HO584.out; subst eo10) | ((with_reducible refine gate_callee (f := 32) rfl ?_); refine goesL_ (some 75) rfl rfl Try.func32 (by kernel_rfl) rfl #[.slice Ao10 t582.length co10] rfl (by (try simp only [List.map_toArray, List.map_cons, List.map_nil]); first | done | rfl | (simp only [List.length_drop, List.length_take]; rfl)) ?_; (with_reducible refine (batch_Normal.calls _ _ t582 t611 t614 t615 _ ?side1 ?side2 A6.out).mono ?_); (case side1 => repeat (first | exact (Kd.N_reads' HO584.out).2.2 | (with_reducible refine Kd.C_alloc ?_ _) | (with_reducible refine Kd.C_drewN ?_ _) | (with_reducible refine Kd.C_drew ?_))); (case side2 => exact (Kd.N_reads' HO584.out).2.1); rintro e w11 ⟨v612, rfl, ho0, hb⟩; refine ⟨_, rfl, ?_⟩; have n0_ := Aside0.mk (Kd.N_elder' (by (with_reducible repeat (first | apply Kd.N_alloc | apply Kd.N_drewN | apply Kd.N_drew)); exact HO584.out) (Kd.N_base ho0) hb); have n1_ := Aside0.mk (Kd.N_lower (Kd.N_mono (ok' := fun k_ => some k_ ≠ (.slice Ao10 t582.length co10 : Value).ownBlock) ho0 (fun k_ hk_ => (Kd.fresh' (Kd.N_lt (by (with_reducible repeat (first | apply Kd.N_alloc | apply Kd.N_drewN | apply Kd.N_drew)); exact HO584.out)) k_ hk_))) (below_size (by repeat (first | (with_reducible first | exact HB.out | apply below_alloc | apply pw_below_drewN | apply below_drew1) | exact HB.out)))); have n2_ := Aside0.mk (below_step (by repeat (first | (with_reducible first | exact HB.out | apply below_alloc | apply pw_below_drewN | apply below_drew1) | exact HB.out)) hb); clear HO584; clear HB; have HO584 := n0_; have HO613 := n1_; have HB := n2_; clear n0_ n1_ n2_; (try clear hb); (try clear hb2); (try clear hk); (try clear hi); (try clear ho0)))
   (try simp only [Act.put, List.setIfInBounds_toArray, List.set_cons_zero, List.set_cons_succ])
   go_cut [103] (fun v103 wc => ∃ (kq : Nat) (x103_6 : Bool), v103 = .bool x103_6 ∧ Aside0 (forebaylaw08_BatchOnce.j1 kq l0 t582 x103_6 = some r) ∧ Aside0 (kq ≤ k) ∧ Aside0 (Kd.N k25 25 wc w.heap.size (fun _ => True) (.slice Ao10 t582.length co10) t582) ∧ Aside0 (Below w.heap.size w wc))
   case first =>
    have H := HC7.out
    clear HC7
    by_cases c12 : t615 = 0
    ·rw [if_pos c12] at H
     have c12b0 : (t615 == 0) = true := beq_iff_eq.mpr c12
     have c12b1 : (t615 != 0) = false := bne_eq_false_iff_eq.mpr c12
     clear c12
     (first | rw [c12b0] | (simp only [i64_w, i32_w]; rw [c12b0]) | skip)
     replace H := Option.bind_eq_some_iff.mp H
     obtain ⟨t616, A130, H⟩ := H
     replace H : (if t616 = true then ((batch_Same.f l0 t582).bind fun t617 => (if t617 = true then (if (t582.length : Int) = (l0.length : Int) then (forebaylaw08_BatchOnce.j1 k l0 t582 (t585 != 0)) else (forebaylaw08_BatchOnce.j1 k l0 t582 true)) else (forebaylaw08_BatchOnce.j1 k l0 t582 true))) else (forebaylaw08_BatchOnce.j1 k l0 t582 true)) = some r := H
     have A13 := Aside0.mk A130
     clear A130
     by_cases c14 : t616 = true
     ·subst c14
      have H1 : ((batch_Same.f l0 t582).bind fun t617 => (if t617 = true then (if (t582.length : Int) = (l0.length : Int) then (forebaylaw08_BatchOnce.j1 k l0 t582 (t585 != 0)) else (forebaylaw08_BatchOnce.j1 k l0 t582 true)) else (forebaylaw08_BatchOnce.j1 k l0 t582 true))) = some r := by rw [if_pos rfl] at H; exact H
      clear H
      have H := H1
      clear H1
      replace H := Option.bind_eq_some_iff.mp H
      obtain ⟨t617, A150, H⟩ := H
      replace H : (if t617 = true then (if (t582.length : Int) = (l0.length : Int) then (forebaylaw08_BatchOnce.j1 k l0 t582 (t585 != 0)) else (forebaylaw08_BatchOnce.j1 k l0 t582 true)) else (forebaylaw08_BatchOnce.j1 k l0 t582 true)) = some r := H
      have A15 := Aside0.mk A150
      clear A150
      by_cases c16 : t617 = true
      ·subst c16
       have H1 : (if (t582.length : Int) = (l0.length : Int) then (forebaylaw08_BatchOnce.j1 k l0 t582 (t585 != 0)) else (forebaylaw08_BatchOnce.j1 k l0 t582 true)) = some r := by rw [if_pos rfl] at H; exact H
       clear H
       have H := H1
       clear H1
       by_cases c17 : (t582.length : Int) = (l0.length : Int)
       ·rw [if_pos c17] at H
        have c17b0 : ((t582.length : Int) == (l0.length : Int)) = true := beq_iff_eq.mpr c17
        have c17b1 : ((t582.length : Int) != (l0.length : Int)) = false := bne_eq_false_iff_eq.mpr c17
        have c17b2 : (t582.length == l0.length) = true := by first | simpa using c17 | (simp at c17 ⊢; omega)
        clear c17
        have H' := Aside0.mk H
        clear H
        obtain ⟨Ao18, co18, eo18⟩ := Kd.N_slice HO613.out
        subst eo18
        go_wp2_with (first | (go_at_call 37; (with_reducible refine (batch_Equal.calls _ _ t611 _ _ t582 true _ ?side1 ?side2 ?side3 ?side4 A13.out).mono ?_); (case side1 => repeat (first | exact (Kd.N_reads' HO613.out).2.2 | (with_reducible refine Kd.C_alloc ?_ _) | (with_reducible refine Kd.C_drewN ?_ _) | (with_reducible refine Kd.C_drew ?_))); (case side2 => exact (Kd.N_reads' HO613.out).2.1); (case side3 => repeat (first | exact (Kd.N_reads' HO584.out).2.2 | (with_reducible refine Kd.C_alloc ?_ _) | (with_reducible refine Kd.C_drewN ?_ _) | (with_reducible refine Kd.C_drew ?_))); (case side4 => exact (Kd.N_reads' HO584.out).2.1); rintro e w19 ⟨rfl, hb⟩; have n0_ := Aside0.mk (Kd.N_below (by (with_reducible repeat (first | apply Kd.N_alloc | apply Kd.N_drewN | apply Kd.N_drew)); exact HO584.out) hb); have n1_ := Aside0.mk (Kd.N_below (by (with_reducible repeat (first | apply Kd.N_alloc | apply Kd.N_drewN | apply Kd.N_drew)); exact HO613.out) hb); have n2_ := Aside0.mk (below_step (by repeat (first | (with_reducible first | exact HB.out | apply below_alloc | apply pw_below_drewN | apply below_drew1) | exact HB.out)) hb); clear HO584; clear HO613; clear HB; have HO584 := n0_; have HO613 := n1_; have HB := n2_; clear n0_ n1_ n2_; (try clear hb); (try clear hb2); (try clear hk); (try clear hi)) | (go_at_call 38; (with_reducible refine (batch_Same.calls _ _ l0 _ _ t582 true _ ?side1 ?side2 ?side3 ?side4 A15.out).mono ?_); (case side1 => repeat (first | exact (Kd.C_below HR0.out HB.out) | (with_reducible refine Kd.C_alloc ?_ _) | (with_reducible refine Kd.C_drewN ?_ _) | (with_reducible refine Kd.C_drew ?_))); (case side2 => exact HC0.out); (case side3 => repeat (first | exact (Kd.N_reads' HO584.out).2.2 | (with_reducible refine Kd.C_alloc ?_ _) | (with_reducible refine Kd.C_drewN ?_ _) | (with_reducible refine Kd.C_drew ?_))); (case side4 => exact (Kd.N_reads' HO584.out).2.1); rintro e w20 ⟨rfl, hb⟩; have n0_ := Aside0.mk (Kd.N_below (by (with_reducible repeat (first | apply Kd.N_alloc | apply Kd.N_drewN | apply Kd.N_drew)); exact HO584.out) hb); have n1_ := Aside0.mk (Kd.N_below (by (with_reducible repeat (first | apply Kd.N_alloc | apply Kd.N_drewN | apply Kd.N_drew)); exact HO613.out) hb); have n2_ := Aside0.mk (below_step (by repeat (first | (with_reducible first | exact HB.out | apply below_alloc | apply pw_below_drewN | apply below_drew1) | exact HB.out)) hb); clear HO584; clear HO613; clear HB; have HO584 := n0_; have HO613 := n1_; have HB := n2_; clear n0_ n1_ n2_; (try clear hb); (try clear hb2); (try clear hk); (try clear hi)))
        go_meet
        case rel => exact ⟨_, ((t585 != 0)), (by first | rfl | (simp; done) | (simp [*]; done)), H', ⟨by first | omega | exact Nat.le_refl _⟩, ⟨by (with_reducible repeat (first | apply Kd.N_alloc | apply Kd.N_drewN | apply Kd.N_drew)); exact Kd.N_mono HO584.out (fun _ hk => trivial)⟩, ⟨by repeat (first | (with_reducible first | exact HB.out | apply below_alloc | apply pw_below_drewN | apply below_drew1) | exact HB.out)⟩⟩
       ·rw [if_neg c17] at H
        have c17b0 : ((t582.length : Int) == (l0.length : Int)) = false := beq_eq_false_iff_ne.mpr c17
        have c17b1 : ((t582.length : Int) != (l0.length : Int)) = true := bne_iff_ne.mpr c17
        have c17b2 : (t582.length == l0.length) = false := by first | simpa using c17 | (simp at c17 ⊢; omega)
        have H' := Aside0.mk H
        clear H
        obtain ⟨Ao21, co21, eo21⟩ := Kd.N_slice HO613.out
        subst eo21
        go_wp2_with (first | (go_at_call 37; (with_reducible refine (batch_Equal.calls _ _ t611 _ _ t582 true _ ?side1 ?side2 ?side3 ?side4 A13.out).mono ?_); (case side1 => repeat (first | exact (Kd.N_reads' HO613.out).2.2 | (with_reducible refine Kd.C_alloc ?_ _) | (with_reducible refine Kd.C_drewN ?_ _) | (with_reducible refine Kd.C_drew ?_))); (case side2 => exact (Kd.N_reads' HO613.out).2.1); (case side3 => repeat (first | exact (Kd.N_reads' HO584.out).2.2 | (with_reducible refine Kd.C_alloc ?_ _) | (with_reducible refine Kd.C_drewN ?_ _) | (with_reducible refine Kd.C_drew ?_))); (case side4 => exact (Kd.N_reads' HO584.out).2.1); rintro e w22 ⟨rfl, hb⟩; have n0_ := Aside0.mk (Kd.N_below (by (with_reducible repeat (first | apply Kd.N_alloc | apply Kd.N_drewN | apply Kd.N_drew)); exact HO584.out) hb); have n1_ := Aside0.mk (Kd.N_below (by (with_reducible repeat (first | apply Kd.N_alloc | apply Kd.N_drewN | apply Kd.N_drew)); exact HO613.out) hb); have n2_ := Aside0.mk (below_step (by repeat (first | (with_reducible first | exact HB.out | apply below_alloc | apply pw_below_drewN | apply below_drew1) | exact HB.out)) hb); clear HO584; clear HO613; clear HB; have HO584 := n0_; have HO613 := n1_; have HB := n2_; clear n0_ n1_ n2_; (try clear hb); (try clear hb2); (try clear hk); (try clear hi)) | (go_at_call 38; (with_reducible refine (batch_Same.calls _ _ l0 _ _ t582 true _ ?side1 ?side2 ?side3 ?side4 A15.out).mono ?_); (case side1 => repeat (first | exact (Kd.C_below HR0.out HB.out) | (with_reducible refine Kd.C_alloc ?_ _) | (with_reducible refine Kd.C_drewN ?_ _) | (with_reducible refine Kd.C_drew ?_))); (case side2 => exact HC0.out); (case side3 => repeat (first | exact (Kd.N_reads' HO584.out).2.2 | (with_reducible refine Kd.C_alloc ?_ _) | (with_reducible refine Kd.C_drewN ?_ _) | (with_reducible refine Kd.C_drew ?_))); (case side4 => exact (Kd.N_reads' HO584.out).2.1); rintro e w23 ⟨rfl, hb⟩; have n0_ := Aside0.mk (Kd.N_below (by (with_reducible repeat (first | apply Kd.N_alloc | apply Kd.N_drewN | apply Kd.N_drew)); exact HO584.out) hb); have n1_ := Aside0.mk (Kd.N_below (by (with_reducible repeat (first | apply Kd.N_alloc | apply Kd.N_drewN | apply Kd.N_drew)); exact HO613.out) hb); have n2_ := Aside0.mk (below_step (by repeat (first | (with_reducible first | exact HB.out | apply below_alloc | apply pw_below_drewN | apply below_drew1) | exact HB.out)) hb); clear HO584; clear HO613; clear HB; have HO584 := n0_; have HO613 := n1_; have HB := n2_; clear n0_ n1_ n2_; (try clear hb); (try clear hb2); (try clear hk); (try clear hi)))
        go_meet
        case rel => exact ⟨_, (true), (by first | rfl | (simp; done) | (simp [*]; done)), H', ⟨by first | omega | exact Nat.le_refl _⟩, ⟨by (with_reducible repeat (first | apply Kd.N_alloc | apply Kd.N_drewN | apply Kd.N_drew)); exact Kd.N_mono HO584.out (fun _ hk => trivial)⟩, ⟨by repeat (first | (with_reducible first | exact HB.out | apply below_alloc | apply pw_below_drewN | apply below_drew1) | exact HB.out)⟩⟩
      ·replace c16 := Bool.eq_false_iff.mpr c16
       subst c16
       have H1 : (forebaylaw08_BatchOnce.j1 k l0 t582 true) = some r := by rw [if_neg (show ¬ (false = true) by decide)] at H; exact H
       clear H
       have H := H1
       clear H1
       have H' := Aside0.mk H
       clear H
       obtain ⟨Ao24, co24, eo24⟩ := Kd.N_slice HO613.out
       subst eo24
       go_wp2_with (first | (go_at_call 37; (with_reducible refine (batch_Equal.calls _ _ t611 _ _ t582 true _ ?side1 ?side2 ?side3 ?side4 A13.out).mono ?_); (case side1 => repeat (first | exact (Kd.N_reads' HO613.out).2.2 | (with_reducible refine Kd.C_alloc ?_ _) | (with_reducible refine Kd.C_drewN ?_ _) | (with_reducible refine Kd.C_drew ?_))); (case side2 => exact (Kd.N_reads' HO613.out).2.1); (case side3 => repeat (first | exact (Kd.N_reads' HO584.out).2.2 | (with_reducible refine Kd.C_alloc ?_ _) | (with_reducible refine Kd.C_drewN ?_ _) | (with_reducible refine Kd.C_drew ?_))); (case side4 => exact (Kd.N_reads' HO584.out).2.1); rintro e w25 ⟨rfl, hb⟩; have n0_ := Aside0.mk (Kd.N_below (by (with_reducible repeat (first | apply Kd.N_alloc | apply Kd.N_drewN | apply Kd.N_drew)); exact HO584.out) hb); have n1_ := Aside0.mk (Kd.N_below (by (with_reducible repeat (first | apply Kd.N_alloc | apply Kd.N_drewN | apply Kd.N_drew)); exact HO613.out) hb); have n2_ := Aside0.mk (below_step (by repeat (first | (with_reducible first | exact HB.out | apply below_alloc | apply pw_below_drewN | apply below_drew1) | exact HB.out)) hb); clear HO584; clear HO613; clear HB; have HO584 := n0_; have HO613 := n1_; have HB := n2_; clear n0_ n1_ n2_; (try clear hb); (try clear hb2); (try clear hk); (try clear hi)) | (go_at_call 38; (with_reducible refine (batch_Same.calls _ _ l0 _ _ t582 false _ ?side1 ?side2 ?side3 ?side4 A15.out).mono ?_); (case side1 => repeat (first | exact (Kd.C_below HR0.out HB.out) | (with_reducible refine Kd.C_alloc ?_ _) | (with_reducible refine Kd.C_drewN ?_ _) | (with_reducible refine Kd.C_drew ?_))); (case side2 => exact HC0.out); (case side3 => repeat (first | exact (Kd.N_reads' HO584.out).2.2 | (with_reducible refine Kd.C_alloc ?_ _) | (with_reducible refine Kd.C_drewN ?_ _) | (with_reducible refine Kd.C_drew ?_))); (case side4 => exact (Kd.N_reads' HO584.out).2.1); rintro e w26 ⟨rfl, hb⟩; have n0_ := Aside0.mk (Kd.N_below (by (with_reducible repeat (first | apply Kd.N_alloc | apply Kd.N_drewN | apply Kd.N_drew)); exact HO584.out) hb); have n1_ := Aside0.mk (Kd.N_below (by (with_reducible repeat (first | apply Kd.N_alloc | apply Kd.N_drewN | apply Kd.N_drew)); exact HO613.out) hb); have n2_ := Aside0.mk (below_step (by repeat (first | (with_reducible first | exact HB.out | apply below_alloc | apply pw_below_drewN | apply below_drew1) | exact HB.out)) hb); clear HO584; clear HO613; clear HB; have HO584 := n0_; have HO613 := n1_; have HB := n2_; clear n0_ n1_ n2_; (try clear hb); (try clear hb2); (try clear hk); (try clear hi)))
       go_meet
       case rel => exact ⟨_, (true), (by first | rfl | (simp; done) | (simp [*]; done)), H', ⟨by first | omega | exact Nat.le_refl _⟩, ⟨by (with_reducible repeat (first | apply Kd.N_alloc | apply Kd.N_drewN | apply Kd.N_drew)); exact Kd.N_mono HO584.out (fun _ hk => trivial)⟩, ⟨by repeat (first | (with_reducible first | exact HB.out | apply below_alloc | apply pw_below_drewN | apply below_drew1) | exact HB.out)⟩⟩
     ·replace c14 := Bool.eq_false_iff.mpr c14
      subst c14
      have H1 : (forebaylaw08_BatchOnce.j1 k l0 t582 true) = some r := by rw [if_neg (show ¬ (false = true) by decide)] at H; exact H
      clear H
      have H := H1
      clear H1
      have H' := Aside0.mk H
      clear H
      obtain ⟨Ao27, co27, eo27⟩ := Kd.N_slice HO613.out
      subst eo27
      go_wp2_with (first | (go_at_call 37; (with_reducible refine (batch_Equal.calls _ _ t611 _ _ t582 false _ ?side1 ?side2 ?side3 ?side4 A13.out).mono ?_); (case side1 => repeat (first | exact (Kd.N_reads' HO613.out).2.2 | (with_reducible refine Kd.C_alloc ?_ _) | (with_reducible refine Kd.C_drewN ?_ _) | (with_reducible refine Kd.C_drew ?_))); (case side2 => exact (Kd.N_reads' HO613.out).2.1); (case side3 => repeat (first | exact (Kd.N_reads' HO584.out).2.2 | (with_reducible refine Kd.C_alloc ?_ _) | (with_reducible refine Kd.C_drewN ?_ _) | (with_reducible refine Kd.C_drew ?_))); (case side4 => exact (Kd.N_reads' HO584.out).2.1); rintro e w28 ⟨rfl, hb⟩; have n0_ := Aside0.mk (Kd.N_below (by (with_reducible repeat (first | apply Kd.N_alloc | apply Kd.N_drewN | apply Kd.N_drew)); exact HO584.out) hb); have n1_ := Aside0.mk (Kd.N_below (by (with_reducible repeat (first | apply Kd.N_alloc | apply Kd.N_drewN | apply Kd.N_drew)); exact HO613.out) hb); have n2_ := Aside0.mk (below_step (by repeat (first | (with_reducible first | exact HB.out | apply below_alloc | apply pw_below_drewN | apply below_drew1) | exact HB.out)) hb); clear HO584; clear HO613; clear HB; have HO584 := n0_; have HO613 := n1_; have HB := n2_; clear n0_ n1_ n2_; (try clear hb); (try clear hb2); (try clear hk); (try clear hi)))
      go_meet
      case rel => exact ⟨_, (true), (by first | rfl | (simp; done) | (simp [*]; done)), H', ⟨by first | omega | exact Nat.le_refl _⟩, ⟨by (with_reducible repeat (first | apply Kd.N_alloc | apply Kd.N_drewN | apply Kd.N_drew)); exact Kd.N_mono HO584.out (fun _ hk => trivial)⟩, ⟨by repeat (first | (with_reducible first | exact HB.out | apply below_alloc | apply pw_below_drewN | apply below_drew1) | exact HB.out)⟩⟩
    ·rw [if_neg c12] at H
     have c12b0 : (t615 == 0) = false := beq_eq_false_iff_ne.mpr c12
     have c12b1 : (t615 != 0) = true := bne_iff_ne.mpr c12
     (first | rw [c12b0] | (simp only [i64_w, i32_w]; rw [c12b0]) | skip)
     have H' := Aside0.mk H
     clear H
     go_wp2
     go_meet
     case rel => exact ⟨_, (true), (by first | rfl | (simp; done) | (simp [*]; done)), H', ⟨by first | omega | exact Nat.le_refl _⟩, ⟨by (with_reducible repeat (first | apply Kd.N_alloc | apply Kd.N_drewN | apply Kd.N_drew)); exact Kd.N_mono HO584.out (fun _ hk => trivial)⟩, ⟨by repeat (first | (with_reducible first | exact HB.out | apply below_alloc | apply pw_below_drewN | apply below_drew1) | exact HB.out)⟩⟩
   case rest =>
    clear HC7
    try clear c1
    try clear c2
    try clear p2
    try clear c3
    try clear c5
    try clear c5b0
    try clear c5b1
    try clear c12
    try clear c12b0
    try clear c12b1
    try clear c14
    try clear c16
    try clear c17
    try clear c17b0
    try clear c17b1
    try clear c17b2
    try clear c28
    obtain ⟨kq, x103_6, rfl, HA, HJ6, HO_3, HB⟩ := hcut
    cases kq with
    | zero => exact absurd HA.out (by simp [forebaylaw08_BatchOnce.j1])
    | succ kj6 =>
     have H := HA.out
     clear HA
     simp only [forebaylaw08_BatchOnce.j1] at H
     by_cases c29 : x103_6 = true
     ·subst c29
      have H1 : (none) = some r := by rw [if_pos rfl] at H; exact H
      clear H
      have H := H1
      clear H1
      exact absurd H (by simp)
     ·replace c29 := Bool.eq_false_iff.mpr c29
      subst c29
      have H1 : (forebaylaw08_BatchOnce.l0 kj6 l0 t582 0) = some r := by rw [if_neg (show ¬ (false = true) by decide)] at H; exact H
      clear H
      have H := H1
      clear H1
      have H' := Aside0.mk H
      clear H
      go_wp2
      go_loopg [14] kj6 (fun kq v14 w' => ∃ (x14_2 : Int), v14 = .int .i64 x14_2 ∧ Aside0 (forebaylaw08_BatchOnce.l0 kq l0 t582 x14_2 = some r) ∧ Aside0 (kq ≤ kj6) ∧ Aside0 (Kd.N k25 25 w' w.heap.size (fun _ => True) (.slice Ao10 t582.length co10) t582) ∧ Aside0 (Below w.heap.size w w'))
      case atStart => exact ⟨(0), (by first | rfl | (simp; done) | (simp [*]; done)), H', ⟨Nat.le_refl _⟩, ⟨by (with_reducible repeat (first | apply Kd.N_alloc | apply Kd.N_drewN | apply Kd.N_drew)); exact HO_3.out⟩, ⟨by repeat (first | (with_reducible first | exact HB.out | apply below_alloc | apply pw_below_drewN | apply below_drew1) | exact HB.out)⟩⟩
      case round =>
       clear H'
       try clear c1
       try clear c2
       try clear p2
       try clear c3
       try clear c5
       try clear c5b0
       try clear c5b1
       try clear c12
       try clear c12b0
       try clear c12b1
       try clear c14
       try clear c16
       try clear c17
       try clear c17b0
       try clear c17b1
       try clear c17b2
       try clear c28
       try clear c29
       try clear p2
       obtain ⟨x14_2, rfl, HA, HK2, HO_3, HB⟩ := hrel
       cases gk with
       | zero => exact absurd HA.out (by simp [forebaylaw08_BatchOnce.l0])
       | succ k2 =>
        have H := HA.out
        clear HA
        simp only [forebaylaw08_BatchOnce.l0] at H
        by_cases c30 : x14_2 < (l0.length : Int)
        ·rw [if_pos c30] at H
         have c30b0 : decide (x14_2 < (l0.length : Int)) = true := decide_eq_true c30
         clear c30
         by_cases c31 : 0 ≤ x14_2
         ·rw [if_pos c31] at H
          have c31b0 : decide (0 ≤ x14_2) = true := decide_eq_true c31
          clear c31
          replace H := Option.bind_eq_some_iff.mp H
          obtain ⟨⟨t620, t621, t622, t625, t626, t629, t630⟩, A320, H⟩ := H
          replace H : (if t630 = 0 then (if x14_2 < (t582.length : Int) then ((metric_Equal.f k2 t620 t621 t622 t625 t626 t629 ((rd_T25 t582 x14_2).f0) ((rd_T25 t582 x14_2).f1) ((rd_T25 t582 x14_2).f2) ((rd_T25 t582 x14_2).f3) ((rd_T25 t582 x14_2).f4) ((rd_T25 t582 x14_2).f5)).bind fun t633 => (if t633 = true then ((metric_Same.f k2 ((rd_T25 l0 x14_2).f0) ((rd_T25 l0 x14_2).f1) ((rd_T25 l0 x14_2).f2) ((rd_T25 l0 x14_2).f3) ((rd_T25 l0 x14_2).f4) ((rd_T25 l0 x14_2).f5) ((rd_T25 t582 x14_2).f0) ((rd_T25 t582 x14_2).f1) ((rd_T25 t582 x14_2).f2) ((rd_T25 t582 x14_2).f3) ((rd_T25 t582 x14_2).f4) ((rd_T25 t582 x14_2).f5)).bind fun t636 => (if t636 = true then (forebaylaw08_BatchOnce.l0 k2 l0 t582 (wrap64 (x14_2 + 1))) else (none))) else (none))) else (none)) else (none)) = some r := H
          have A32 := Aside0.mk A320
          clear A320
          by_cases c33 : t630 = 0
          ·rw [if_pos c33] at H
           have c33b0 : (t630 == 0) = true := beq_iff_eq.mpr c33
           have c33b1 : (t630 != 0) = false := bne_eq_false_iff_eq.mpr c33
           clear c33
           by_cases c34 : x14_2 < (t582.length : Int)
           ·rw [if_pos c34] at H
            have c34b0 : decide (x14_2 < (t582.length : Int)) = true := decide_eq_true c34
            clear c34
            replace H := Option.bind_eq_some_iff.mp H
            obtain ⟨t633, A350, H⟩ := H
            replace H : (if t633 = true then ((metric_Same.f k2 ((rd_T25 l0 x14_2).f0) ((rd_T25 l0 x14_2).f1) ((rd_T25 l0 x14_2).f2) ((rd_T25 l0 x14_2).f3) ((rd_T25 l0 x14_2).f4) ((rd_T25 l0 x14_2).f5) ((rd_T25 t582 x14_2).f0) ((rd_T25 t582 x14_2).f1) ((rd_T25 t582 x14_2).f2) ((rd_T25 t582 x14_2).f3) ((rd_T25 t582 x14_2).f4) ((rd_T25 t582 x14_2).f5)).bind fun t636 => (if t636 = true then (forebaylaw08_BatchOnce.l0 k2 l0 t582 (wrap64 (x14_2 + 1))) else (none))) else (none)) = some r := H
            have A35 := Aside0.mk A350
            clear A350
            by_cases c36 : t633 = true
            ·subst c36
             have H1 : ((metric_Same.f k2 ((rd_T25 l0 x14_2).f0) ((rd_T25 l0 x14_2).f1) ((rd_T25 l0 x14_2).f2) ((rd_T25 l0 x14_2).f3) ((rd_T25 l0 x14_2).f4) ((rd_T25 l0 x14_2).f5) ((rd_T25 t582 x14_2).f0) ((rd_T25 t582 x14_2).f1) ((rd_T25 t582 x14_2).f2) ((rd_T25 t582 x14_2).f3) ((rd_T25 t582 x14_2).f4) ((rd_T25 t582 x14_2).f5)).bind fun t636 => (if t636 = true then (forebaylaw08_BatchOnce.l0 k2 l0 t582 (wrap64 (x14_2 + 1))) else (none))) = some r := by rw [if_pos rfl] at H; exact H
             clear H
             have H := H1
             clear H1
             replace H := Option.bind_eq_some_iff.mp H
             obtain ⟨t636, A370, H⟩ := H
             replace H : (if t636 = true then (forebaylaw08_BatchOnce.l0 k2 l0 t582 (wrap64 (x14_2 + 1))) else (none)) = some r := H
             have A37 := Aside0.mk A370
             clear A370
             by_cases c38 : t636 = true
             ·subst c38
              have H1 : (forebaylaw08_BatchOnce.l0 k2 l0 t582 (wrap64 (x14_2 + 1))) = some r := by rw [if_pos rfl] at H; exact H
              clear H
              have H := H1
              clear H1
              have H' := Aside0.mk H
              clear H
              have p619 : 0 ≤ (x14_2 : Int) := of_decide_eq_true (by first | (with_reducible assumption) | assumption)
              have q619 : x14_2 < (l0.length : Int) := of_decide_eq_true (by first | (with_reducible assumption) | assumption)
              obtain ⟨ad619, A619_2, c619_2, A619_4, c619_4, e619, hx619_0, hx619_1, hx619_2, hx619_3, hx619_4, hx619_5, hl619_2, hi619_2, hl619_4, hi619_4⟩ := at_T25 HR0.out x14_2 p619 q619
              cases e619
              replace hx619_0 := (HB.out.cell (World.block_lt_of_cell? w _ hx619_0)).trans hx619_0
              replace hx619_1 := (HB.out.cell (World.block_lt_of_cell? w _ hx619_1)).trans hx619_1
              replace hx619_2 := (HB.out.cell (World.block_lt_of_cell? w _ hx619_2)).trans hx619_2
              replace hx619_3 := (HB.out.cell (World.block_lt_of_cell? w _ hx619_3)).trans hx619_3
              replace hx619_4 := (HB.out.cell (World.block_lt_of_cell? w _ hx619_4)).trans hx619_4
              replace hx619_5 := (HB.out.cell (World.block_lt_of_cell? w _ hx619_5)).trans hx619_5
              have HR619_2 := Aside0.mk hi619_2
              have HC619_2 := Aside0.mk hl619_2
              clear hi619_2 hl619_2
              have HR619_4 := Aside0.mk hi619_4
              have HC619_4 := Aside0.mk hl619_4
              clear hi619_4 hl619_4
              replace p619 := eq_true p619
              replace q619 := eq_true q619
              try go_wp2_with (first | ((with_reducible refine gate_callee (f := 18) rfl ?_); refine goesL_ (some 115) rfl rfl Try.func18 (by kernel_rfl) rfl #[.agg #[.string ((rd_T25 l0 x14_2).f0), .int .i64 ((rd_T25 l0 x14_2).f1), .slice A619_2 ((rd_T25 l0 x14_2).f2).length c619_2, .int .i64 ((rd_T25 l0 x14_2).f3), .slice A619_4 ((rd_T25 l0 x14_2).f4).length c619_4, .int .i64 ((rd_T25 l0 x14_2).f5)]] rfl (by (try simp only [List.map_toArray, List.map_cons, List.map_nil]); first | done | rfl | (simp only [List.length_drop, List.length_take]; rfl)) ?_; (with_reducible refine (metric_Normal.calls ((rd_T25 l0 x14_2).f0) ((rd_T25 l0 x14_2).f1) _ _ ((rd_T25 l0 x14_2).f2) ((rd_T25 l0 x14_2).f3) _ _ ((rd_T25 l0 x14_2).f4) ((rd_T25 l0 x14_2).f5) t620 t621 t622 t625 t626 t629 t630 _ ?side1 ?side2 ?side3 ?side4 A32.out).mono ?_); (case side1 => repeat (first | exact (Kd.C_below HR619_2.out HB.out) | (with_reducible refine Kd.C_alloc ?_ _) | (with_reducible refine Kd.C_drewN ?_ _) | (with_reducible refine Kd.C_drew ?_))); (case side2 => exact HC619_2.out); (case side3 => repeat (first | exact (Kd.C_below HR619_4.out HB.out) | (with_reducible refine Kd.C_alloc ?_ _) | (with_reducible refine Kd.C_drewN ?_ _) | (with_reducible refine Kd.C_drew ?_))); (case side4 => exact HC619_4.out); rintro e w39 ⟨v623, v627, rfl, ho0, ho1, hb⟩; refine ⟨_, rfl, ?_⟩; have n0_ := Aside0.mk (Kd.N_elder' (by (with_reducible repeat (first | apply Kd.N_alloc | apply Kd.N_drewN | apply Kd.N_drew)); exact HO_3.out) (Kd.R_base ho0) hb); have n1_ := Aside0.mk (Kd.R_lower (Kd.R_mono (ok' := fun k_ => True) ho0 (fun _ hk_ => trivial)) (below_size (by repeat (first | (with_reducible first | exact HB.out | apply below_alloc | apply pw_below_drewN | apply below_drew1) | exact HB.out)))); have n2_ := Aside0.mk (Kd.V_lower (Kd.V_mono (ok' := fun k_ => some k_ ≠ (v623 : Value).ownBlock ∧ some k_ ≠ (.slice Ao10 t582.length co10 : Value).ownBlock) ho1 (fun k_ hk_ => ⟨hk_.2, (Kd.fresh' (Kd.N_lt (by (with_reducible repeat (first | apply Kd.N_alloc | apply Kd.N_drewN | apply Kd.N_drew)); exact HO_3.out)) k_ hk_.1)⟩)) (below_size (by repeat (first | (with_reducible first | exact HB.out | apply below_alloc | apply pw_below_drewN | apply below_drew1) | exact HB.out)))); have n3_ := Aside0.mk (below_step (by repeat (first | (with_reducible first | exact HB.out | apply below_alloc | apply pw_below_drewN | apply below_drew1) | exact HB.out)) hb); clear HO_3; clear HB; have HO_3 := n0_; have HO624 := n1_; have HO628 := n2_; have HB := n3_; clear n0_ n1_ n2_ n3_; (try clear hb); (try clear hb2); (try clear hk); (try clear hi); (try clear ho0); (try clear ho1)) | ((with_reducible refine gate_dst (N := 15) rfl ?_); (try (refine gate_guard (by rfl) ?_; dsimp only)); refine box_event ?hg (N := 15) ?hd (cs := #[.string (⟨#[]⟩ : ByteArray), .int .i64 0, .slice none 0 0, .int .i64 0, .slice none 0 0, .int .i64 0]) (t := 25) ?hr ?_; (case hd => rfl); (case hg => rfl); (case hr => first | (go_simp; done) | (go_simp; rfl)); intro gb631 hg w40 hbox hb; have n0_ := Aside0.mk (Kd.N_below (Kd.N_elderB (by (with_reducible repeat (first | apply Kd.N_alloc | apply Kd.N_drewN | apply Kd.N_drew)); exact HO_3.out) gb631 (Nat.le_of_eq hg.symm)) hb); have n1_ := Aside0.mk (Kd.R_below (by (with_reducible repeat (first | apply Kd.R_alloc | apply Kd.R_drewN | apply Kd.R_drew)); exact HO624.out) hb); have n2_ := Aside0.mk (Kd.V_below (Kd.V_elderB (by (with_reducible repeat (first | apply Kd.V_alloc | apply Kd.V_drewN | apply Kd.V_drew)); exact HO628.out) gb631 (Nat.le_of_eq hg.symm)) hb); have n3_ := Aside0.mk (below_step (by repeat (first | (with_reducible first | exact HB.out | apply below_alloc | apply pw_below_drewN | apply below_drew1) | exact HB.out)) hb); have n4_ := Aside0.mk (hbox); have n5_ := Aside0.mk ((by rw [hg]; exact (below_size (by repeat (first | (with_reducible first | exact HB.out | apply below_alloc | apply pw_below_drewN | apply below_drew1) | exact HB.out))) : w.heap.size ≤ gb631)); have n6_ := Aside0.mk ((by rw [hg]; exact (below_size (by repeat (first | (with_reducible first | exact HB.out | apply below_alloc | apply pw_below_drewN | apply below_drew1) | exact HB.out))) : w.heap.size ≤ gb631)); clear HO_3; clear HO624; clear HO628; clear HB; have HO_3 := n0_; have HO624 := n1_; have HO628 := n2_; have HB := n3_; have BK631 := n4_; have GW631 := n5_; have GE631 := n6_; clear n0_ n1_ n2_ n3_ n4_ n5_ n6_; clear hb hbox hg; have hcz41_0 : w40.cell? ⟨gb631, 0, none⟩ = some (.string (⟨#[]⟩ : ByteArray)) := (blk_cell BK631.out 0).trans rfl; have hcz41_1 : w40.cell? ⟨gb631, 1, none⟩ = some (.int .i64 0) := (blk_cell BK631.out 1).trans rfl; have hcz41_2 : w40.cell? ⟨gb631, 2, none⟩ = some (.slice none 0 0) := (blk_cell BK631.out 2).trans rfl; have hcz41_3 : w40.cell? ⟨gb631, 3, none⟩ = some (.int .i64 0) := (blk_cell BK631.out 3).trans rfl; have hcz41_4 : w40.cell? ⟨gb631, 4, none⟩ = some (.slice none 0 0) := (blk_cell BK631.out 4).trans rfl; have hcz41_5 : w40.cell? ⟨gb631, 5, none⟩ = some (.int .i64 0) := (blk_cell BK631.out 5).trans rfl; have hfz41_0 := blk_frozen BK631.out 0; have hfz41_1 := blk_frozen BK631.out 1; have hfz41_2 := blk_frozen BK631.out 2; have hfz41_3 := blk_frozen BK631.out 3; have hfz41_4 := blk_frozen BK631.out 4; have hfz41_5 := blk_frozen BK631.out 5; obtain ⟨Ao42, co42, eo42⟩ := Kd.R_slice HO624.out; subst eo42; obtain ⟨Ao43, co43, eo43⟩ := Kd.V_slice HO628.out; subst eo43))
              have n0_ : Aside0 (Kd.N k25 25 ((((((w40.setCell ⟨gb631, 0, none⟩ (.string t620)).setCell ⟨gb631, 1, none⟩ (.int .i64 t621)).setCell ⟨gb631, 2, none⟩ (.slice Ao42 t622.length co42)).setCell ⟨gb631, 3, none⟩ (.int .i64 t625)).setCell ⟨gb631, 4, none⟩ (.slice Ao43 t626.length co43)).setCell ⟨gb631, 5, none⟩ (.int .i64 t629)) w.heap.size (fun k_ => some k_ ≠ (.slice Ao42 t622.length co42 : Value).ownBlock ∧ k_ ≠ gb631) (.slice Ao10 t582.length co10) t582) := ⟨by (with_reducible repeat (first | apply Kd.N_alloc | apply Kd.N_drewN | apply Kd.N_drew)); exact Kd.N_mono (Kd.N_far (p := ⟨gb631, 5, none⟩) (Kd.N_far (p := ⟨gb631, 4, none⟩) (Kd.N_far (p := ⟨gb631, 3, none⟩) (Kd.N_far (p := ⟨gb631, 2, none⟩) (Kd.N_far (p := ⟨gb631, 1, none⟩) (Kd.N_far (p := ⟨gb631, 0, none⟩) (Kd.N_mono HO_3.out (fun k_ hk => (⟨hk, hk.2⟩ : _ ∧ k_ ≠ gb631))) (fun _ hk => hk.2) (.string t620)) (fun _ hk => hk.2) (.int .i64 t621)) (fun _ hk => hk.2) (.slice Ao42 t622.length co42)) (fun _ hk => hk.2) (.int .i64 t625)) (fun _ hk => hk.2) (.slice Ao43 t626.length co43)) (fun _ hk => hk.2) (.int .i64 t629)) (fun _ hk => ⟨hk.1.1.2, hk.1.2⟩)⟩
              have n1_ : Aside0 (Kd.R k40 40 ((((((w40.setCell ⟨gb631, 0, none⟩ (.string t620)).setCell ⟨gb631, 1, none⟩ (.int .i64 t621)).setCell ⟨gb631, 2, none⟩ (.slice Ao42 t622.length co42)).setCell ⟨gb631, 3, none⟩ (.int .i64 t625)).setCell ⟨gb631, 4, none⟩ (.slice Ao43 t626.length co43)).setCell ⟨gb631, 5, none⟩ (.int .i64 t629)) w.heap.size (fun _ => True) (.slice Ao42 t622.length co42) t622) := ⟨by (with_reducible repeat (first | apply Kd.R_alloc | apply Kd.R_drewN | apply Kd.R_drew)); exact Kd.R_mono (Kd.R_far (p := ⟨gb631, 5, none⟩) (Kd.R_far (p := ⟨gb631, 4, none⟩) (Kd.R_far (p := ⟨gb631, 3, none⟩) (Kd.R_far (p := ⟨gb631, 2, none⟩) (Kd.R_far (p := ⟨gb631, 1, none⟩) (Kd.R_far (p := ⟨gb631, 0, none⟩) (Kd.R_types HO624.out BK631.out (by decide)) (fun _ hk => hk.2) (.string t620)) (fun _ hk => hk.2) (.int .i64 t621)) (fun _ hk => hk.2) (.slice Ao42 t622.length co42)) (fun _ hk => hk.2) (.int .i64 t625)) (fun _ hk => hk.2) (.slice Ao43 t626.length co43)) (fun _ hk => hk.2) (.int .i64 t629)) (fun _ hk => trivial)⟩
              have n2_ : Aside0 (Kd.V k37 37 ((((((w40.setCell ⟨gb631, 0, none⟩ (.string t620)).setCell ⟨gb631, 1, none⟩ (.int .i64 t621)).setCell ⟨gb631, 2, none⟩ (.slice Ao42 t622.length co42)).setCell ⟨gb631, 3, none⟩ (.int .i64 t625)).setCell ⟨gb631, 4, none⟩ (.slice Ao43 t626.length co43)).setCell ⟨gb631, 5, none⟩ (.int .i64 t629)) w.heap.size (fun k_ => some k_ ≠ (.slice Ao10 t582.length co10 : Value).ownBlock ∧ some k_ ≠ (.slice Ao42 t622.length co42 : Value).ownBlock ∧ k_ ≠ gb631) (.slice Ao43 t626.length co43) t626) := ⟨by (with_reducible repeat (first | apply Kd.V_alloc | apply Kd.V_drewN | apply Kd.V_drew)); exact Kd.V_mono (Kd.V_far (p := ⟨gb631, 5, none⟩) (Kd.V_far (p := ⟨gb631, 4, none⟩) (Kd.V_far (p := ⟨gb631, 3, none⟩) (Kd.V_far (p := ⟨gb631, 2, none⟩) (Kd.V_far (p := ⟨gb631, 1, none⟩) (Kd.V_far (p := ⟨gb631, 0, none⟩) (Kd.V_mono HO628.out (fun k_ hk => (⟨hk, hk.2⟩ : _ ∧ k_ ≠ gb631))) (fun _ hk => hk.2) (.string t620)) (fun _ hk => hk.2) (.int .i64 t621)) (fun _ hk => hk.2) (.slice Ao42 t622.length co42)) (fun _ hk => hk.2) (.int .i64 t625)) (fun _ hk => hk.2) (.slice Ao43 t626.length co43)) (fun _ hk => hk.2) (.int .i64 t629)) (fun _ hk => ⟨hk.1.1.2, ⟨hk.1.1.1, hk.1.2⟩⟩)⟩
              have n3_ : Aside0 (((((((w40.setCell ⟨gb631, 0, none⟩ (.string t620)).setCell ⟨gb631, 1, none⟩ (.int .i64 t621)).setCell ⟨gb631, 2, none⟩ (.slice Ao42 t622.length co42)).setCell ⟨gb631, 3, none⟩ (.int .i64 t625)).setCell ⟨gb631, 4, none⟩ (.slice Ao43 t626.length co43)).setCell ⟨gb631, 5, none⟩ (.int .i64 t629)).heap[gb631]? = some (.cells #[.string t620, .int .i64 t621, .slice Ao42 t622.length co42, .int .i64 t625, .slice Ao43 t626.length co43, .int .i64 t629] 25 (0, 0))) := ⟨by (with_reducible repeat (first | refine blk_drewN ?_ _ | refine blk_drew ?_ | refine blk_alloc ?_ _)); refine blk_put (cs := #[.string t620, .int .i64 t621, .slice Ao42 t622.length co42, .int .i64 t625, .slice Ao43 t626.length co43, .int .i64 0]) ?_ 5 _ rfl; (with_reducible repeat (first | refine blk_drewN ?_ _ | refine blk_drew ?_ | refine blk_alloc ?_ _)); refine blk_put (cs := #[.string t620, .int .i64 t621, .slice Ao42 t622.length co42, .int .i64 t625, .slice none 0 0, .int .i64 0]) ?_ 4 _ rfl; (with_reducible repeat (first | refine blk_drewN ?_ _ | refine blk_drew ?_ | refine blk_alloc ?_ _)); refine blk_put (cs := #[.string t620, .int .i64 t621, .slice Ao42 t622.length co42, .int .i64 0, .slice none 0 0, .int .i64 0]) ?_ 3 _ rfl; (with_reducible repeat (first | refine blk_drewN ?_ _ | refine blk_drew ?_ | refine blk_alloc ?_ _)); refine blk_put (cs := #[.string t620, .int .i64 t621, .slice none 0 0, .int .i64 0, .slice none 0 0, .int .i64 0]) ?_ 2 _ rfl; (with_reducible repeat (first | refine blk_drewN ?_ _ | refine blk_drew ?_ | refine blk_alloc ?_ _)); refine blk_put (cs := #[.string t620, .int .i64 0, .slice none 0 0, .int .i64 0, .slice none 0 0, .int .i64 0]) ?_ 1 _ rfl; (with_reducible repeat (first | refine blk_drewN ?_ _ | refine blk_drew ?_ | refine blk_alloc ?_ _)); refine blk_put (cs := #[.string (⟨#[]⟩ : ByteArray), .int .i64 0, .slice none 0 0, .int .i64 0, .slice none 0 0, .int .i64 0]) ?_ 0 _ rfl; (with_reducible repeat (first | refine blk_drewN ?_ _ | refine blk_drew ?_ | refine blk_alloc ?_ _)); exact BK631.out⟩
              have n4_ : Aside0 (Below w.heap.size w ((((((w40.setCell ⟨gb631, 0, none⟩ (.string t620)).setCell ⟨gb631, 1, none⟩ (.int .i64 t621)).setCell ⟨gb631, 2, none⟩ (.slice Ao42 t622.length co42)).setCell ⟨gb631, 3, none⟩ (.int .i64 t625)).setCell ⟨gb631, 4, none⟩ (.slice Ao43 t626.length co43)).setCell ⟨gb631, 5, none⟩ (.int .i64 t629))) := ⟨by repeat (first | (with_reducible first | exact HB.out | apply below_alloc | apply pw_below_drewN | apply below_drew1 | refine below_set ?_ GE631.out) | exact HB.out)⟩
              (try clear HO_3)
              (try clear HO624)
              (try clear HO628)
              (try clear BK631)
              (try clear HB)
              generalize ((((((w40.setCell ⟨gb631, 0, none⟩ (.string t620)).setCell ⟨gb631, 1, none⟩ (.int .i64 t621)).setCell ⟨gb631, 2, none⟩ (.slice Ao42 t622.length co42)).setCell ⟨gb631, 3, none⟩ (.int .i64 t625)).setCell ⟨gb631, 4, none⟩ (.slice Ao43 t626.length co43)).setCell ⟨gb631, 5, none⟩ (.int .i64 t629)) = w44 at n0_ n1_ n2_ n3_ n4_ ⊢
              have HO_3 := n0_
              have HO624 := n1_
              have HO628 := n2_
              have BK631 := n3_
              have HB := n4_
              clear n0_ n1_ n2_ n3_ n4_
              have n0_ := Aside0.mk (Kd.N_drew HO_3.out)
              have n1_ := Aside0.mk (Kd.R_drew HO624.out)
              have n2_ := Aside0.mk (Kd.V_drew HO628.out)
              have n3_ := Aside0.mk (blk_drew BK631.out)
              have n4_ := Aside0.mk (below_drew1 HB.out)
              clear HO_3
              clear HO624
              clear HO628
              clear BK631
              clear HB
              have HO_3 := n0_
              have HO624 := n1_
              have HO628 := n2_
              have BK631 := n3_
              have HB := n4_
              clear n0_ n1_ n2_ n3_ n4_
              have p632 : 0 ≤ (x14_2 : Int) := of_decide_eq_true (by first | (with_reducible assumption) | assumption)
              have q632 : x14_2 < (t582.length : Int) := of_decide_eq_true (by first | (with_reducible assumption) | assumption)
              obtain ⟨ad632, A632_2, c632_2, A632_4, c632_4, e632, hx632_0, hx632_1, hx632_2, hx632_3, hx632_4, hx632_5, hl632_2, hi632_2, hl632_4, hi632_4⟩ := at_T25 (Kd.N_reads' HO_3.out).2.2 x14_2 p632 q632
              cases e632
              obtain ⟨ce632, hce632, hMe632, hcc632⟩ := Kd.N_get HO_3.out z25 x14_2 p632 (by first | exact q632 | exact of_decide_eq_true (by first | (with_reducible assumption) | assumption) | (have e_ := (Kd.N_reads' HO_3.out).1; omega))
              obtain ⟨ua632_2, uc632_2, ua632_4, uc632_4, rfl, ul632_2, ge632_2, ul632_4, ge632_4⟩ := k25_openF hMe632
              have hv632_2 := hcc632 2 _ rfl
              rw [add_field _ _ 2 (by omega)] at hv632_2
              replace hv632_2 := Option.some.inj (hv632_2.symm.trans hx632_2)
              injection hv632_2 with hva_ hvn_ hvc_
              rw [hva_] at ge632_2
              rw [hvc_] at ul632_2
              have HL632_2 := Aside0.mk (show Kd.V k40 40 _ w.heap.size _ _ ((rd_T25 t582 x14_2).f2) from Kd.V_mk ul632_2 ge632_2)
              clear hva_ hvn_ hvc_ ge632_2 ul632_2
              have hv632_4 := hcc632 4 _ rfl
              rw [add_field _ _ 4 (by omega)] at hv632_4
              replace hv632_4 := Option.some.inj (hv632_4.symm.trans hx632_4)
              injection hv632_4 with hva_ hvn_ hvc_
              rw [hva_] at ge632_4
              rw [hvc_] at ul632_4
              have HL632_4 := Aside0.mk (show Kd.V k37 37 _ w.heap.size _ _ ((rd_T25 t582 x14_2).f4) from Kd.V_mk ul632_4 ge632_4)
              clear hva_ hvn_ hvc_ ge632_4 ul632_4
              clear hcc632 hce632
              have HR632_2 := Aside0.mk hi632_2
              have HC632_2 := Aside0.mk hl632_2
              clear hi632_2 hl632_2
              have HR632_4 := Aside0.mk hi632_4
              have HC632_4 := Aside0.mk hl632_4
              clear hi632_4 hl632_4
              replace p632 := eq_true p632
              replace q632 := eq_true q632
              have p634 : 0 ≤ (x14_2 : Int) := of_decide_eq_true (by first | (with_reducible assumption) | assumption)
              have q634 : x14_2 < (l0.length : Int) := of_decide_eq_true (by first | (with_reducible assumption) | assumption)
              obtain ⟨ad634, A634_2, c634_2, A634_4, c634_4, e634, hx634_0, hx634_1, hx634_2, hx634_3, hx634_4, hx634_5, hl634_2, hi634_2, hl634_4, hi634_4⟩ := at_T25 HR0.out x14_2 p634 q634
              have hw634_5 := hx634_5
              have hw634_4 := hx634_4
              have hw634_3 := hx634_3
              have hw634_2 := hx634_2
              have hw634_1 := hx634_1
              have hw634_0 := hx634_0
              obtain rfl : ad619 = ad634 := (by injection e634)
              replace hx634_0 := (HB.out.cell (World.block_lt_of_cell? w _ hx634_0)).trans hx634_0
              replace hx634_1 := (HB.out.cell (World.block_lt_of_cell? w _ hx634_1)).trans hx634_1
              replace hx634_2 := (HB.out.cell (World.block_lt_of_cell? w _ hx634_2)).trans hx634_2
              replace hx634_3 := (HB.out.cell (World.block_lt_of_cell? w _ hx634_3)).trans hx634_3
              replace hx634_4 := (HB.out.cell (World.block_lt_of_cell? w _ hx634_4)).trans hx634_4
              replace hx634_5 := (HB.out.cell (World.block_lt_of_cell? w _ hx634_5)).trans hx634_5
              have HR634_2 := Aside0.mk hi634_2
              have HC634_2 := Aside0.mk hl634_2
              clear hi634_2 hl634_2
              have HR634_4 := Aside0.mk hi634_4
              have HC634_4 := Aside0.mk hl634_4
              clear hi634_4 hl634_4
              replace p634 := eq_true p634
              replace q634 := eq_true q634
              have p635 : 0 ≤ (x14_2 : Int) := of_decide_eq_true (by first | (with_reducible assumption) | assumption)
              have q635 : x14_2 < (t582.length : Int) := of_decide_eq_true (by first | (with_reducible assumption) | assumption)
              obtain ⟨ad635, A635_2, c635_2, A635_4, c635_4, e635, hx635_0, hx635_1, hx635_2, hx635_3, hx635_4, hx635_5, hl635_2, hi635_2, hl635_4, hi635_4⟩ := at_T25 (Kd.N_reads' HO_3.out).2.2 x14_2 p635 q635
              obtain rfl : ad632 = ad635 := (by injection e635)
              obtain ⟨rfl, rfl⟩ : A632_2 = A635_2 ∧ c632_2 = c635_2 := (by simpa using hx632_2.symm.trans hx635_2)
              obtain ⟨rfl, rfl⟩ : A632_4 = A635_4 ∧ c632_4 = c635_4 := (by simpa using hx632_4.symm.trans hx635_4)
              obtain ⟨ce635, hce635, hMe635, hcc635⟩ := Kd.N_get HO_3.out z25 x14_2 p635 (by first | exact q635 | exact of_decide_eq_true (by first | (with_reducible assumption) | assumption) | (have e_ := (Kd.N_reads' HO_3.out).1; omega))
              obtain ⟨ua635_2, uc635_2, ua635_4, uc635_4, rfl, ul635_2, ge635_2, ul635_4, ge635_4⟩ := k25_openF hMe635
              have hv635_2 := hcc635 2 _ rfl
              rw [add_field _ _ 2 (by omega)] at hv635_2
              replace hv635_2 := Option.some.inj (hv635_2.symm.trans hx635_2)
              injection hv635_2 with hva_ hvn_ hvc_
              rw [hva_] at ge635_2
              rw [hvc_] at ul635_2
              have HL635_2 := Aside0.mk (show Kd.V k40 40 _ w.heap.size _ _ ((rd_T25 t582 x14_2).f2) from Kd.V_mk ul635_2 ge635_2)
              clear hva_ hvn_ hvc_ ge635_2 ul635_2
              have hv635_4 := hcc635 4 _ rfl
              rw [add_field _ _ 4 (by omega)] at hv635_4
              replace hv635_4 := Option.some.inj (hv635_4.symm.trans hx635_4)
              injection hv635_4 with hva_ hvn_ hvc_
              rw [hva_] at ge635_4
              rw [hvc_] at ul635_4
              have HL635_4 := Aside0.mk (show Kd.V k37 37 _ w.heap.size _ _ ((rd_T25 t582 x14_2).f4) from Kd.V_mk ul635_4 ge635_4)
              clear hva_ hvn_ hvc_ ge635_4 ul635_4
              clear hcc635 hce635
              have HR635_2 := Aside0.mk hi635_2
              have HC635_2 := Aside0.mk hl635_2
              clear hi635_2 hl635_2
              have HR635_4 := Aside0.mk hi635_4
              have HC635_4 := Aside0.mk hl635_4
              clear hi635_4 hl635_4
              replace p635 := eq_true p635
              replace q635 := eq_true q635
              refine start_ (n := 23) (S := fun w' => w'.cell? ⟨gb631, 0, none⟩ = some (.string t620) ∧ w'.cell? ⟨gb631, 1, none⟩ = some (.int .i64 t621) ∧ w'.cell? ⟨gb631, 2, none⟩ = some (.slice Ao42 t622.length co42) ∧ w'.cell? ⟨gb631, 3, none⟩ = some (.int .i64 t625) ∧ w'.cell? ⟨gb631, 4, none⟩ = some (.slice Ao43 t626.length co43) ∧ w'.cell? ⟨gb631, 5, none⟩ = some (.int .i64 t629) ∧ w'.cell? (ad632.add ((x14_2).toNat * 6)) = some (.string ((rd_T25 t582 x14_2).f0)) ∧ w'.cell? ⟨(ad632.add ((x14_2).toNat * 6)).block, (ad632.add ((x14_2).toNat * 6)).off + 1, none⟩ = some (.int .i64 ((rd_T25 t582 x14_2).f1)) ∧ w'.cell? ⟨(ad632.add ((x14_2).toNat * 6)).block, (ad632.add ((x14_2).toNat * 6)).off + 2, none⟩ = some (.slice A632_2 ((rd_T25 t582 x14_2).f2).length c632_2) ∧ w'.cell? ⟨(ad632.add ((x14_2).toNat * 6)).block, (ad632.add ((x14_2).toNat * 6)).off + 3, none⟩ = some (.int .i64 ((rd_T25 t582 x14_2).f3)) ∧ w'.cell? ⟨(ad632.add ((x14_2).toNat * 6)).block, (ad632.add ((x14_2).toNat * 6)).off + 4, none⟩ = some (.slice A632_4 ((rd_T25 t582 x14_2).f4).length c632_4) ∧ w'.cell? ⟨(ad632.add ((x14_2).toNat * 6)).block, (ad632.add ((x14_2).toNat * 6)).off + 5, none⟩ = some (.int .i64 ((rd_T25 t582 x14_2).f5)) ∧ w'.cell? (ad619.add ((x14_2).toNat * 6)) = some (.string ((rd_T25 l0 x14_2).f0)) ∧ w'.cell? ⟨(ad619.add ((x14_2).toNat * 6)).block, (ad619.add ((x14_2).toNat * 6)).off + 1, none⟩ = some (.int .i64 ((rd_T25 l0 x14_2).f1)) ∧ w'.cell? ⟨(ad619.add ((x14_2).toNat * 6)).block, (ad619.add ((x14_2).toNat * 6)).off + 2, none⟩ = some (.slice A634_2 ((rd_T25 l0 x14_2).f2).length c634_2) ∧ w'.cell? ⟨(ad619.add ((x14_2).toNat * 6)).block, (ad619.add ((x14_2).toNat * 6)).off + 3, none⟩ = some (.int .i64 ((rd_T25 l0 x14_2).f3)) ∧ w'.cell? ⟨(ad619.add ((x14_2).toNat * 6)).block, (ad619.add ((x14_2).toNat * 6)).off + 4, none⟩ = some (.slice A634_4 ((rd_T25 l0 x14_2).f4).length c634_4) ∧ w'.cell? ⟨(ad619.add ((x14_2).toNat * 6)).block, (ad619.add ((x14_2).toNat * 6)).off + 5, none⟩ = some (.int .i64 ((rd_T25 l0 x14_2).f5)) ∧ w'.cell? (ad632.add ((x14_2).toNat * 6)) = some (.string ((rd_T25 t582 x14_2).f0)) ∧ w'.cell? ⟨(ad632.add ((x14_2).toNat * 6)).block, (ad632.add ((x14_2).toNat * 6)).off + 1, none⟩ = some (.int .i64 ((rd_T25 t582 x14_2).f1)) ∧ w'.cell? ⟨(ad632.add ((x14_2).toNat * 6)).block, (ad632.add ((x14_2).toNat * 6)).off + 2, none⟩ = some (.slice A632_2 ((rd_T25 t582 x14_2).f2).length c632_2) ∧ w'.cell? ⟨(ad632.add ((x14_2).toNat * 6)).block, (ad632.add ((x14_2).toNat * 6)).off + 3, none⟩ = some (.int .i64 ((rd_T25 t582 x14_2).f3)) ∧ w'.cell? ⟨(ad632.add ((x14_2).toNat * 6)).block, (ad632.add ((x14_2).toNat * 6)).off + 4, none⟩ = some (.slice A632_4 ((rd_T25 t582 x14_2).f4).length c632_4) ∧ w'.cell? ⟨(ad632.add ((x14_2).toNat * 6)).block, (ad632.add ((x14_2).toNat * 6)).off + 5, none⟩ = some (.int .i64 ((rd_T25 t582 x14_2).f5))) (ds := []) #[false, false, false, false, false, false, false, false, false, false, false, false, false, false, false, false, false, false, false, false, false, false, false] (by kernel_rfl) rfl rfl ⟨(blk_cell BK631.out 0).trans rfl, (blk_cell BK631.out 1).trans rfl, (blk_cell BK631.out 2).trans rfl, (blk_cell BK631.out 3).trans rfl, (blk_cell BK631.out 4).trans rfl, (blk_cell BK631.out 5).trans rfl, hx632_0, hx632_1, hx632_2, hx632_3, hx632_4, hx632_5, ((HB.out.cell (World.block_lt_of_cell? w _ hw634_0)).trans hw634_0), ((HB.out.cell (World.block_lt_of_cell? w _ hw634_1)).trans hw634_1), ((HB.out.cell (World.block_lt_of_cell? w _ hw634_2)).trans hw634_2), ((HB.out.cell (World.block_lt_of_cell? w _ hw634_3)).trans hw634_3), ((HB.out.cell (World.block_lt_of_cell? w _ hw634_4)).trans hw634_4), ((HB.out.cell (World.block_lt_of_cell? w _ hw634_5)).trans hw634_5), hx635_0, hx635_1, hx635_2, hx635_3, hx635_4, hx635_5⟩ (fun hHeld => ?_); refine with_tabW forebaylaw08_BatchOnce.tab17 forebaylaw08_BatchOnce.bits17 (fun HT_ HW_ => ?_)
              generalize w44.drew = w45 at HO_3 HO624 HO628 BK631 HB HL632_2 HL632_4 HL635_2 HL635_4 HR632_2 HR632_4 HR634_2 HR634_4 HR635_2 HR635_4 hx632_0 hx632_1 hx632_2 hx632_3 hx632_4 hx632_5 hx634_0 hx634_1 hx634_2 hx634_3 hx634_4 hx634_5 hx635_0 hx635_1 hx635_2 hx635_3 hx635_4 hx635_5 hHeld ⊢
              refine pure_ (i := 0) (N := some 118) (v := ?_) (a' := ?_) #[true, false, false, false, false, false, false, false, false, false, false, false, false, false, false, false, false, false, false, false, false, false, false] rfl rfl (any_of HT_.out (by kernel_rfl)) (fun _ _ _ h => h) (Or.inl ⟨by rfl, ?_⟩) ?_ ?_
              rotate_left
              ·intro w'
               go_simp
               with_reducible rfl
              rotate_left
              ·simp only [Act.put, List.setIfInBounds_toArray, List.set_cons_zero, List.set_cons_succ, i64_w, i32_w]
               rfl
              refine pure_ (i := 1) (N := some 119) (v := ?_) (a' := ?_) #[true, true, false, false, false, false, false, false, false, false, false, false, false, false, false, false, false, false, false, false, false, false, false] rfl rfl (any_of HT_.out (by kernel_rfl)) (fun _ _ _ h => h) (Or.inl ⟨by rfl, ?_⟩) ?_ ?_
              rotate_left
              ·intro w'
               go_simp
               with_reducible rfl
              rotate_left
              ·simp only [Act.put, List.setIfInBounds_toArray, List.set_cons_zero, List.set_cons_succ, i64_w, i32_w]
               rfl
              refine pure_ (i := 2) (N := some 120) (v := ?_) (a' := ?_) #[true, true, true, false, false, false, false, false, false, false, false, false, false, false, false, false, false, false, false, false, false, false, false] rfl rfl (any_of HT_.out (by kernel_rfl)) (fun _ _ _ h => h) (Or.inl ⟨by rfl, ?_⟩) ?_ ?_
              rotate_left
              ·intro w'
               go_simp
               with_reducible rfl
              rotate_left
              ·simp only [Act.put, List.setIfInBounds_toArray, List.set_cons_zero, List.set_cons_succ, i64_w, i32_w]
               rfl
              refine pure_ (i := 4) (N := some 122) (v := ?_) (a' := ?_) #[true, true, true, false, true, false, false, false, false, false, false, false, false, false, false, false, false, false, false, false, false, false, false] rfl rfl (any_of HT_.out (by kernel_rfl)) (fun _ _ _ h => h) (Or.inl ⟨by rfl, ?_⟩) ?_ ?_
              rotate_left
              ·intro w'
               go_simp
               with_reducible rfl
              rotate_left
              ·simp only [Act.put, List.setIfInBounds_toArray, List.set_cons_zero, List.set_cons_succ, i64_w, i32_w]
               rfl
              refine pure_ (i := 5) (N := some 123) (v := ?_) (a' := ?_) #[true, true, true, false, true, true, false, false, false, false, false, false, false, false, false, false, false, false, false, false, false, false, false] rfl rfl (any_of HT_.out (by kernel_rfl)) (fun _ _ _ h => h) (Or.inl ⟨by rfl, ?_⟩) ?_ ?_
              rotate_left
              ·intro w'
               go_simp
               with_reducible rfl
              rotate_left
              ·simp only [Act.put, List.setIfInBounds_toArray, List.set_cons_zero, List.set_cons_succ, i64_w, i32_w]
               rfl
              refine pure_ (i := 6) (N := some 124) (v := ?_) (a' := ?_) #[true, true, true, false, true, true, true, false, false, false, false, false, false, false, false, false, false, false, false, false, false, false, false] rfl rfl (any_of HT_.out (by kernel_rfl)) (fun _ _ _ h => h) (Or.inl ⟨by rfl, ?_⟩) ?_ ?_
              rotate_left
              ·intro w'
               go_simp
               with_reducible rfl
              rotate_left
              ·simp only [Act.put, List.setIfInBounds_toArray, List.set_cons_zero, List.set_cons_succ, i64_w, i32_w]
               rfl
              refine take_ (i := 3) (N := some 121) (v := ?_) (a' := ?_) #[true, true, true, true, true, true, true, false, false, false, false, false, false, false, false, false, false, false, false, false, false, false, false] rfl rfl (take_ofW HT_.out HW_.out (by kernel_rfl)) (fun _ _ _ h => h) (Or.inl ⟨by rfl, ?_⟩) hHeld ?_ ?_
              rotate_left
              ·rintro w' ⟨s0, s1, s2, s3, s4, s5, s6, s7, s8, s9, s10, s11, s12, s13, s14, s15, s16, s17, s18, s19, s20, s21, s22, s23⟩
               go_simp
               with_reducible rfl
              rotate_left
              ·simp only [Act.put, List.setIfInBounds_toArray, List.set_cons_zero, List.set_cons_succ, i64_w, i32_w]
               rfl
              refine take_ (i := 7) (N := some 125) (v := ?_) (a' := ?_) #[true, true, true, true, true, true, true, true, false, false, false, false, false, false, false, false, false, false, false, false, false, false, false] rfl rfl (take_ofW HT_.out HW_.out (by kernel_rfl)) (fun _ _ _ h => h) (Or.inl ⟨by rfl, ?_⟩) hHeld ?_ ?_
              rotate_left
              ·rintro w' ⟨s0, s1, s2, s3, s4, s5, s6, s7, s8, s9, s10, s11, s12, s13, s14, s15, s16, s17, s18, s19, s20, s21, s22, s23⟩
               go_simp
               with_reducible rfl
              rotate_left
              ·simp only [Act.put, List.setIfInBounds_toArray, List.set_cons_zero, List.set_cons_succ, i64_w, i32_w]
               rfl
              refine one_ (i := 8) (N := some 126) #[true, true, true, true, true, true, true, true, true, false, false, false, false, false, false, false, false, false, false, false, false, false, false] rfl rfl (one_of HT_.out (by kernel_rfl)) (by decide) (fun K hK => ?_)
              refine goes_ Try.func22 (by kernel_rfl) rfl #[.agg #[.string t620, .int .i64 t621, .slice Ao42 t622.length co42, .int .i64 t625, .slice Ao43 t626.length co43, .int .i64 t629], .agg #[.string ((rd_T25 t582 x14_2).f0), .int .i64 ((rd_T25 t582 x14_2).f1), .slice A632_2 ((rd_T25 t582 x14_2).f2).length c632_2, .int .i64 ((rd_T25 t582 x14_2).f3), .slice A632_4 ((rd_T25 t582 x14_2).f4).length c632_4, .int .i64 ((rd_T25 t582 x14_2).f5)]] (by rfl) rfl rfl (by (try simp only [List.map_toArray, List.map_cons, List.map_nil]); first | done | rfl | (simp only [List.length_drop, List.length_take]; rfl)) ?_
              with_reducible refine (metric_Equal.calls k2 t620 t621 _ _ t622 t625 _ _ t626 t629 ((rd_T25 t582 x14_2).f0) ((rd_T25 t582 x14_2).f1) _ _ ((rd_T25 t582 x14_2).f2) ((rd_T25 t582 x14_2).f3) _ _ ((rd_T25 t582 x14_2).f4) ((rd_T25 t582 x14_2).f5) true _ ?side1 ?side2 ?side3 ?side4 ?side5 ?side6 ?side7 ?side8 A35.out).mono ?_
              (case side1 => repeat (first | exact (Kd.R_reads' HO624.out).2.2 | (with_reducible refine Kd.C_alloc ?_ _) | (with_reducible refine Kd.C_drewN ?_ _) | (with_reducible refine Kd.C_drew ?_)))
              (case side2 => exact (Kd.R_reads' HO624.out).2.1)
              (case side3 => repeat (first | exact (Kd.V_reads' HO628.out).2.2 | (with_reducible refine Kd.C_alloc ?_ _) | (with_reducible refine Kd.C_drewN ?_ _) | (with_reducible refine Kd.C_drew ?_)))
              (case side4 => exact (Kd.V_reads' HO628.out).2.1)
              (case side5 => repeat (first | exact (by repeat (first | (with_reducible exact HR632_2.out) | (with_reducible refine Kd.C_alloc ?_ _) | (with_reducible refine Kd.C_drewN ?_ _) | (with_reducible refine Kd.C_drew ?_) | exact HR632_2.out)) | (with_reducible refine Kd.C_alloc ?_ _) | (with_reducible refine Kd.C_drewN ?_ _) | (with_reducible refine Kd.C_drew ?_)))
              (case side6 => exact HC632_2.out)
              (case side7 => repeat (first | exact (by repeat (first | (with_reducible exact HR632_4.out) | (with_reducible refine Kd.C_alloc ?_ _) | (with_reducible refine Kd.C_drewN ?_ _) | (with_reducible refine Kd.C_drew ?_) | exact HR632_4.out)) | (with_reducible refine Kd.C_alloc ?_ _) | (with_reducible refine Kd.C_drewN ?_ _) | (with_reducible refine Kd.C_drew ?_)))
              (case side8 => exact HC632_4.out)
              rintro e w46 ⟨rfl, hb⟩
              have m0_ := Aside0.mk (Kd.C_below HR635_2.out hb); have m1_ := Aside0.mk (Kd.C_below HR635_4.out hb); have m2_ := Aside0.mk (Kd.V_below HL635_2.out hb); have m3_ := Aside0.mk (Kd.V_below HL635_4.out hb); clear HR635_2 HR635_4 HL635_2 HL635_4; have HR635_2 := m0_; have HR635_4 := m1_; have HL635_2 := m2_; have HL635_4 := m3_; clear m0_ m1_ m2_ m3_
              have HS6_ := (hb.cell (World.block_lt_of_cell? _ _ (hHeld.2.2.2.2.2.2.1))).trans (hHeld.2.2.2.2.2.2.1)
              have HS7_ := (hb.cell (World.block_lt_of_cell? _ _ (hHeld.2.2.2.2.2.2.2.1))).trans (hHeld.2.2.2.2.2.2.2.1)
              have HS8_ := (hb.cell (World.block_lt_of_cell? _ _ (hHeld.2.2.2.2.2.2.2.2.1))).trans (hHeld.2.2.2.2.2.2.2.2.1)
              have HS9_ := (hb.cell (World.block_lt_of_cell? _ _ (hHeld.2.2.2.2.2.2.2.2.2.1))).trans (hHeld.2.2.2.2.2.2.2.2.2.1)
              have HS10_ := (hb.cell (World.block_lt_of_cell? _ _ (hHeld.2.2.2.2.2.2.2.2.2.2.1))).trans (hHeld.2.2.2.2.2.2.2.2.2.2.1)
              have HS11_ := (hb.cell (World.block_lt_of_cell? _ _ (hHeld.2.2.2.2.2.2.2.2.2.2.2.1))).trans (hHeld.2.2.2.2.2.2.2.2.2.2.2.1)
              have HS18_ := (hb.cell (World.block_lt_of_cell? _ _ (hHeld.2.2.2.2.2.2.2.2.2.2.2.2.2.2.2.2.2.2.1))).trans (hHeld.2.2.2.2.2.2.2.2.2.2.2.2.2.2.2.2.2.2.1)
              have HS19_ := (hb.cell (World.block_lt_of_cell? _ _ (hHeld.2.2.2.2.2.2.2.2.2.2.2.2.2.2.2.2.2.2.2.1))).trans (hHeld.2.2.2.2.2.2.2.2.2.2.2.2.2.2.2.2.2.2.2.1)
              have HS20_ := (hb.cell (World.block_lt_of_cell? _ _ (hHeld.2.2.2.2.2.2.2.2.2.2.2.2.2.2.2.2.2.2.2.2.1))).trans (hHeld.2.2.2.2.2.2.2.2.2.2.2.2.2.2.2.2.2.2.2.2.1)
              have HS21_ := (hb.cell (World.block_lt_of_cell? _ _ (hHeld.2.2.2.2.2.2.2.2.2.2.2.2.2.2.2.2.2.2.2.2.2.1))).trans (hHeld.2.2.2.2.2.2.2.2.2.2.2.2.2.2.2.2.2.2.2.2.2.1)
              have HS22_ := (hb.cell (World.block_lt_of_cell? _ _ (hHeld.2.2.2.2.2.2.2.2.2.2.2.2.2.2.2.2.2.2.2.2.2.2.1))).trans (hHeld.2.2.2.2.2.2.2.2.2.2.2.2.2.2.2.2.2.2.2.2.2.2.1)
              have HS23_ := (hb.cell (World.block_lt_of_cell? _ _ (hHeld.2.2.2.2.2.2.2.2.2.2.2.2.2.2.2.2.2.2.2.2.2.2.2))).trans (hHeld.2.2.2.2.2.2.2.2.2.2.2.2.2.2.2.2.2.2.2.2.2.2.2)
              refine ⟨_, rfl, ?_⟩
              have n0_ := Aside0.mk (Kd.N_below (by (with_reducible repeat (first | apply Kd.N_alloc | apply Kd.N_drewN | apply Kd.N_drew)); exact HO_3.out) hb)
              have n1_ := Aside0.mk (Kd.R_below (by (with_reducible repeat (first | apply Kd.R_alloc | apply Kd.R_drewN | apply Kd.R_drew)); exact HO624.out) hb)
              have n2_ := Aside0.mk (Kd.V_below (by (with_reducible repeat (first | apply Kd.V_alloc | apply Kd.V_drewN | apply Kd.V_drew)); exact HO628.out) hb)
              have n3_ := Aside0.mk (Kd.V_below (by (with_reducible repeat (first | apply Kd.V_alloc | apply Kd.V_drewN | apply Kd.V_drew)); exact HL632_2.out) hb)
              have n4_ := Aside0.mk (Kd.V_below (by (with_reducible repeat (first | apply Kd.V_alloc | apply Kd.V_drewN | apply Kd.V_drew)); exact HL632_4.out) hb)
              have n5_ := Aside0.mk (blk_below (g := gb631) (o := .cells #[.string t620, .int .i64 t621, .slice Ao42 t622.length co42, .int .i64 t625, .slice Ao43 t626.length co43, .int .i64 t629] 25 (0, 0)) (by (with_reducible repeat (first | refine blk_drewN ?_ _ | refine blk_drew ?_ | refine blk_alloc ?_ _)); exact BK631.out) hb)
              have n6_ := Aside0.mk (Kd.C_below (by repeat (first | (with_reducible exact HR632_2.out) | (with_reducible refine Kd.C_alloc ?_ _) | (with_reducible refine Kd.C_drewN ?_ _) | (with_reducible refine Kd.C_drew ?_) | exact HR632_2.out)) hb)
              have n7_ := Aside0.mk (Kd.C_below (by repeat (first | (with_reducible exact HR632_4.out) | (with_reducible refine Kd.C_alloc ?_ _) | (with_reducible refine Kd.C_drewN ?_ _) | (with_reducible refine Kd.C_drew ?_) | exact HR632_4.out)) hb)
              have n8_ := Aside0.mk (below_step (by repeat (first | (with_reducible first | exact HB.out | apply below_alloc | apply pw_below_drewN | apply below_drew1 | refine below_set ?_ GE631.out) | exact HB.out)) hb)
              clear HO_3
              clear HO624
              clear HO628
              clear HL632_2
              clear HL632_4
              clear BK631
              clear HR632_2
              clear HR632_4
              clear HB
              have HO_3 := n0_
              have HO624 := n1_
              have HO628 := n2_
              have HL632_2 := n3_
              have HL632_4 := n4_
              have BK631 := n5_
              have HR632_2 := n6_
              have HR632_4 := n7_
              have HB := n8_
              clear n0_ n1_ n2_ n3_ n4_ n5_ n6_ n7_ n8_
              (try clear hb)
              (try clear hb2)
              (try clear hk)
              (try clear hi)
              refine hK.out _ _ ⟨(blk_cell BK631.out 0).trans rfl, (blk_cell BK631.out 1).trans rfl, (blk_cell BK631.out 2).trans rfl, (blk_cell BK631.out 3).trans rfl, (blk_cell BK631.out 4).trans rfl, (blk_cell BK631.out 5).trans rfl, HS6_, HS7_, HS8_, HS9_, HS10_, HS11_, ((HB.out.cell (World.block_lt_of_cell? w _ hw634_0)).trans hw634_0), ((HB.out.cell (World.block_lt_of_cell? w _ hw634_1)).trans hw634_1), ((HB.out.cell (World.block_lt_of_cell? w _ hw634_2)).trans hw634_2), ((HB.out.cell (World.block_lt_of_cell? w _ hw634_3)).trans hw634_3), ((HB.out.cell (World.block_lt_of_cell? w _ hw634_4)).trans hw634_4), ((HB.out.cell (World.block_lt_of_cell? w _ hw634_5)).trans hw634_5), HS18_, HS19_, HS20_, HS21_, HS22_, HS23_⟩ (fun hHeld => ?_)
              clear hK K
              refine norm_ (a' := ?_) ?_ ?_
              rotate_left
              ·show Act.put _ (some 126) _ = _
               simp only [Act.put, List.setIfInBounds_toArray, List.set_cons_zero, List.set_cons_succ, i64_w, i32_w]
               rfl
              refine pure_ (i := 9) (N := some 127) (v := ?_) (a' := ?_) #[true, true, true, true, true, true, true, true, true, true, false, false, false, false, false, false, false, false, false, false, false, false, false] rfl rfl (any_of HT_.out (by kernel_rfl)) (fun _ _ _ h => h) (Or.inl ⟨by rfl, ?_⟩) ?_ ?_
              rotate_left
              ·intro w'
               go_simp
               with_reducible rfl
              rotate_left
              ·simp only [Act.put, List.setIfInBounds_toArray, List.set_cons_zero, List.set_cons_succ, i64_w, i32_w]
               rfl
              refine pure_ (i := 10) (N := some 128) (v := ?_) (a' := ?_) #[true, true, true, true, true, true, true, true, true, true, true, false, false, false, false, false, false, false, false, false, false, false, false] rfl rfl (any_of HT_.out (by kernel_rfl)) (fun _ _ _ h => h) (Or.inl ⟨by rfl, ?_⟩) ?_ ?_
              rotate_left
              ·intro w'
               go_simp
               with_reducible rfl
              rotate_left
              ·simp only [Act.put, List.setIfInBounds_toArray, List.set_cons_zero, List.set_cons_succ, i64_w, i32_w]
               rfl
              refine pure_ (i := 11) (N := some 129) (v := ?_) (a' := ?_) #[true, true, true, true, true, true, true, true, true, true, true, true, false, false, false, false, false, false, false, false, false, false, false] rfl rfl (any_of HT_.out (by kernel_rfl)) (fun _ _ _ h => h) (Or.inl ⟨by rfl, ?_⟩) ?_ ?_
              rotate_left
              ·intro w'
               go_simp
               with_reducible rfl
              rotate_left
              ·simp only [Act.put, List.setIfInBounds_toArray, List.set_cons_zero, List.set_cons_succ, i64_w, i32_w]
               rfl
              refine pure_ (i := 12) (N := some 130) (v := ?_) (a' := ?_) #[true, true, true, true, true, true, true, true, true, true, true, true, true, false, false, false, false, false, false, false, false, false, false] rfl rfl (any_of HT_.out (by kernel_rfl)) (fun _ _ _ h => h) (Or.inl ⟨by rfl, ?_⟩) ?_ ?_
              rotate_left
              ·intro w'
               go_simp
               with_reducible rfl
              rotate_left
              ·simp only [Act.put, List.setIfInBounds_toArray, List.set_cons_zero, List.set_cons_succ, i64_w, i32_w]
               rfl
              refine pure_ (i := 13) (N := some 131) (v := ?_) (a' := ?_) #[true, true, true, true, true, true, true, true, true, true, true, true, true, true, false, false, false, false, false, false, false, false, false] rfl rfl (any_of HT_.out (by kernel_rfl)) (fun _ _ _ h => h) (Or.inl ⟨by rfl, ?_⟩) ?_ ?_
              rotate_left
              ·intro w'
               go_simp
               with_reducible rfl
              rotate_left
              ·simp only [Act.put, List.setIfInBounds_toArray, List.set_cons_zero, List.set_cons_succ, i64_w, i32_w]
               rfl
              refine pure_ (i := 14) (N := some 132) (v := ?_) (a' := ?_) #[true, true, true, true, true, true, true, true, true, true, true, true, true, true, true, false, false, false, false, false, false, false, false] rfl rfl (any_of HT_.out (by kernel_rfl)) (fun _ _ _ h => h) (Or.inl ⟨by rfl, ?_⟩) ?_ ?_
              rotate_left
              ·intro w'
               go_simp
               with_reducible rfl
              rotate_left
              ·simp only [Act.put, List.setIfInBounds_toArray, List.set_cons_zero, List.set_cons_succ, i64_w, i32_w]
               rfl
              refine pure_ (i := 16) (N := some 134) (v := ?_) (a' := ?_) #[true, true, true, true, true, true, true, true, true, true, true, true, true, true, true, false, true, false, false, false, false, false, false] rfl rfl (any_of HT_.out (by kernel_rfl)) (fun _ _ _ h => h) (Or.inl ⟨by rfl, ?_⟩) ?_ ?_
              rotate_left
              ·intro w'
               go_simp
               with_reducible rfl
              rotate_left
              ·simp only [Act.put, List.setIfInBounds_toArray, List.set_cons_zero, List.set_cons_succ, i64_w, i32_w]
               rfl
              refine pure_ (i := 17) (N := some 135) (v := ?_) (a' := ?_) #[true, true, true, true, true, true, true, true, true, true, true, true, true, true, true, false, true, true, false, false, false, false, false] rfl rfl (any_of HT_.out (by kernel_rfl)) (fun _ _ _ h => h) (Or.inl ⟨by rfl, ?_⟩) ?_ ?_
              rotate_left
              ·intro w'
               go_simp
               with_reducible rfl
              rotate_left
              ·simp only [Act.put, List.setIfInBounds_toArray, List.set_cons_zero, List.set_cons_succ, i64_w, i32_w]
               rfl
              refine pure_ (i := 18) (N := some 136) (v := ?_) (a' := ?_) #[true, true, true, true, true, true, true, true, true, true, true, true, true, true, true, false, true, true, true, false, false, false, false] rfl rfl (any_of HT_.out (by kernel_rfl)) (fun _ _ _ h => h) (Or.inl ⟨by rfl, ?_⟩) ?_ ?_
              rotate_left
              ·intro w'
               go_simp
               with_reducible rfl
              rotate_left
              ·simp only [Act.put, List.setIfInBounds_toArray, List.set_cons_zero, List.set_cons_succ, i64_w, i32_w]
               rfl
              refine take_ (i := 15) (N := some 133) (v := ?_) (a' := ?_) #[true, true, true, true, true, true, true, true, true, true, true, true, true, true, true, true, true, true, true, false, false, false, false] rfl rfl (take_ofW HT_.out HW_.out (by kernel_rfl)) (fun _ _ _ h => h) (Or.inl ⟨by rfl, ?_⟩) hHeld ?_ ?_
              rotate_left
              ·rintro w' ⟨s0, s1, s2, s3, s4, s5, s6, s7, s8, s9, s10, s11, s12, s13, s14, s15, s16, s17, s18, s19, s20, s21, s22, s23⟩
               go_simp
               with_reducible rfl
              rotate_left
              ·simp only [Act.put, List.setIfInBounds_toArray, List.set_cons_zero, List.set_cons_succ, i64_w, i32_w]
               rfl
              refine take_ (i := 19) (N := some 137) (v := ?_) (a' := ?_) #[true, true, true, true, true, true, true, true, true, true, true, true, true, true, true, true, true, true, true, true, false, false, false] rfl rfl (take_ofW HT_.out HW_.out (by kernel_rfl)) (fun _ _ _ h => h) (Or.inl ⟨by rfl, ?_⟩) hHeld ?_ ?_
              rotate_left
              ·rintro w' ⟨s0, s1, s2, s3, s4, s5, s6, s7, s8, s9, s10, s11, s12, s13, s14, s15, s16, s17, s18, s19, s20, s21, s22, s23⟩
               go_simp
               with_reducible rfl
              rotate_left
              ·simp only [Act.put, List.setIfInBounds_toArray, List.set_cons_zero, List.set_cons_succ, i64_w, i32_w]
               rfl
              refine one_ (i := 20) (N := some 138) #[true, true, true, true, true, true, true, true, true, true, true, true, true, true, true, true, true, true, true, true, true, false, false] rfl rfl (one_of HT_.out (by kernel_rfl)) (by decide) (fun K hK => ?_)
              refine goes_ Try.func23 (by kernel_rfl) rfl #[.agg #[.string ((rd_T25 l0 x14_2).f0), .int .i64 ((rd_T25 l0 x14_2).f1), .slice A634_2 ((rd_T25 l0 x14_2).f2).length c634_2, .int .i64 ((rd_T25 l0 x14_2).f3), .slice A634_4 ((rd_T25 l0 x14_2).f4).length c634_4, .int .i64 ((rd_T25 l0 x14_2).f5)], .agg #[.string ((rd_T25 t582 x14_2).f0), .int .i64 ((rd_T25 t582 x14_2).f1), .slice A632_2 ((rd_T25 t582 x14_2).f2).length c632_2, .int .i64 ((rd_T25 t582 x14_2).f3), .slice A632_4 ((rd_T25 t582 x14_2).f4).length c632_4, .int .i64 ((rd_T25 t582 x14_2).f5)]] (by rfl) rfl rfl (by (try simp only [List.map_toArray, List.map_cons, List.map_nil]); first | done | rfl | (simp only [List.length_drop, List.length_take]; rfl)) ?_
              with_reducible refine (metric_Same.calls k2 ((rd_T25 l0 x14_2).f0) ((rd_T25 l0 x14_2).f1) _ _ ((rd_T25 l0 x14_2).f2) ((rd_T25 l0 x14_2).f3) _ _ ((rd_T25 l0 x14_2).f4) ((rd_T25 l0 x14_2).f5) ((rd_T25 t582 x14_2).f0) ((rd_T25 t582 x14_2).f1) _ _ ((rd_T25 t582 x14_2).f2) ((rd_T25 t582 x14_2).f3) _ _ ((rd_T25 t582 x14_2).f4) ((rd_T25 t582 x14_2).f5) true _ ?side1 ?side2 ?side3 ?side4 ?side5 ?side6 ?side7 ?side8 A37.out).mono ?_
              (case side1 => repeat (first | exact (Kd.C_below HR634_2.out HB.out) | (with_reducible refine Kd.C_alloc ?_ _) | (with_reducible refine Kd.C_drewN ?_ _) | (with_reducible refine Kd.C_drew ?_)))
              (case side2 => exact HC634_2.out)
              (case side3 => repeat (first | exact (Kd.C_below HR634_4.out HB.out) | (with_reducible refine Kd.C_alloc ?_ _) | (with_reducible refine Kd.C_drewN ?_ _) | (with_reducible refine Kd.C_drew ?_)))
              (case side4 => exact HC634_4.out)
              (case side5 => repeat (first | exact (by repeat (first | (with_reducible exact HR635_2.out) | (with_reducible refine Kd.C_alloc ?_ _) | (with_reducible refine Kd.C_drewN ?_ _) | (with_reducible refine Kd.C_drew ?_) | exact HR635_2.out)) | (with_reducible refine Kd.C_alloc ?_ _) | (with_reducible refine Kd.C_drewN ?_ _) | (with_reducible refine Kd.C_drew ?_)))
              (case side6 => exact HC635_2.out)
              (case side7 => repeat (first | exact (by repeat (first | (with_reducible exact HR635_4.out) | (with_reducible refine Kd.C_alloc ?_ _) | (with_reducible refine Kd.C_drewN ?_ _) | (with_reducible refine Kd.C_drew ?_) | exact HR635_4.out)) | (with_reducible refine Kd.C_alloc ?_ _) | (with_reducible refine Kd.C_drewN ?_ _) | (with_reducible refine Kd.C_drew ?_)))
              (case side8 => exact HC635_4.out)
              rintro e w47 ⟨rfl, hb⟩
              have HS6_ := (hb.cell (World.block_lt_of_cell? _ _ (hHeld.2.2.2.2.2.2.1))).trans (hHeld.2.2.2.2.2.2.1)
              have HS7_ := (hb.cell (World.block_lt_of_cell? _ _ (hHeld.2.2.2.2.2.2.2.1))).trans (hHeld.2.2.2.2.2.2.2.1)
              have HS8_ := (hb.cell (World.block_lt_of_cell? _ _ (hHeld.2.2.2.2.2.2.2.2.1))).trans (hHeld.2.2.2.2.2.2.2.2.1)
              have HS9_ := (hb.cell (World.block_lt_of_cell? _ _ (hHeld.2.2.2.2.2.2.2.2.2.1))).trans (hHeld.2.2.2.2.2.2.2.2.2.1)
              have HS10_ := (hb.cell (World.block_lt_of_cell? _ _ (hHeld.2.2.2.2.2.2.2.2.2.2.1))).trans (hHeld.2.2.2.2.2.2.2.2.2.2.1)
              have HS11_ := (hb.cell (World.block_lt_of_cell? _ _ (hHeld.2.2.2.2.2.2.2.2.2.2.2.1))).trans (hHeld.2.2.2.2.2.2.2.2.2.2.2.1)
              have HS18_ := (hb.cell (World.block_lt_of_cell? _ _ (hHeld.2.2.2.2.2.2.2.2.2.2.2.2.2.2.2.2.2.2.1))).trans (hHeld.2.2.2.2.2.2.2.2.2.2.2.2.2.2.2.2.2.2.1)
              have HS19_ := (hb.cell (World.block_lt_of_cell? _ _ (hHeld.2.2.2.2.2.2.2.2.2.2.2.2.2.2.2.2.2.2.2.1))).trans (hHeld.2.2.2.2.2.2.2.2.2.2.2.2.2.2.2.2.2.2.2.1)
              have HS20_ := (hb.cell (World.block_lt_of_cell? _ _ (hHeld.2.2.2.2.2.2.2.2.2.2.2.2.2.2.2.2.2.2.2.2.1))).trans (hHeld.2.2.2.2.2.2.2.2.2.2.2.2.2.2.2.2.2.2.2.2.1)
              have HS21_ := (hb.cell (World.block_lt_of_cell? _ _ (hHeld.2.2.2.2.2.2.2.2.2.2.2.2.2.2.2.2.2.2.2.2.2.1))).trans (hHeld.2.2.2.2.2.2.2.2.2.2.2.2.2.2.2.2.2.2.2.2.2.1)
              have HS22_ := (hb.cell (World.block_lt_of_cell? _ _ (hHeld.2.2.2.2.2.2.2.2.2.2.2.2.2.2.2.2.2.2.2.2.2.2.1))).trans (hHeld.2.2.2.2.2.2.2.2.2.2.2.2.2.2.2.2.2.2.2.2.2.2.1)
              have HS23_ := (hb.cell (World.block_lt_of_cell? _ _ (hHeld.2.2.2.2.2.2.2.2.2.2.2.2.2.2.2.2.2.2.2.2.2.2.2))).trans (hHeld.2.2.2.2.2.2.2.2.2.2.2.2.2.2.2.2.2.2.2.2.2.2.2)
              refine ⟨_, rfl, ?_⟩
              have n0_ := Aside0.mk (Kd.N_below (by (with_reducible repeat (first | apply Kd.N_alloc | apply Kd.N_drewN | apply Kd.N_drew)); exact HO_3.out) hb)
              have n1_ := Aside0.mk (Kd.R_below (by (with_reducible repeat (first | apply Kd.R_alloc | apply Kd.R_drewN | apply Kd.R_drew)); exact HO624.out) hb)
              have n2_ := Aside0.mk (Kd.V_below (by (with_reducible repeat (first | apply Kd.V_alloc | apply Kd.V_drewN | apply Kd.V_drew)); exact HO628.out) hb)
              have n3_ := Aside0.mk (Kd.V_below (by (with_reducible repeat (first | apply Kd.V_alloc | apply Kd.V_drewN | apply Kd.V_drew)); exact HL632_2.out) hb)
              have n4_ := Aside0.mk (Kd.V_below (by (with_reducible repeat (first | apply Kd.V_alloc | apply Kd.V_drewN | apply Kd.V_drew)); exact HL632_4.out) hb)
              have n5_ := Aside0.mk (Kd.V_below (by (with_reducible repeat (first | apply Kd.V_alloc | apply Kd.V_drewN | apply Kd.V_drew)); exact HL635_2.out) hb)
              have n6_ := Aside0.mk (Kd.V_below (by (with_reducible repeat (first | apply Kd.V_alloc | apply Kd.V_drewN | apply Kd.V_drew)); exact HL635_4.out) hb)
              have n7_ := Aside0.mk (blk_below (g := gb631) (o := .cells #[.string t620, .int .i64 t621, .slice Ao42 t622.length co42, .int .i64 t625, .slice Ao43 t626.length co43, .int .i64 t629] 25 (0, 0)) (by (with_reducible repeat (first | refine blk_drewN ?_ _ | refine blk_drew ?_ | refine blk_alloc ?_ _)); exact BK631.out) hb)
              have n8_ := Aside0.mk (Kd.C_below (by repeat (first | (with_reducible exact HR632_2.out) | (with_reducible refine Kd.C_alloc ?_ _) | (with_reducible refine Kd.C_drewN ?_ _) | (with_reducible refine Kd.C_drew ?_) | exact HR632_2.out)) hb)
              have n9_ := Aside0.mk (Kd.C_below (by repeat (first | (with_reducible exact HR632_4.out) | (with_reducible refine Kd.C_alloc ?_ _) | (with_reducible refine Kd.C_drewN ?_ _) | (with_reducible refine Kd.C_drew ?_) | exact HR632_4.out)) hb)
              have n10_ := Aside0.mk (Kd.C_below (by repeat (first | (with_reducible exact HR635_2.out) | (with_reducible refine Kd.C_alloc ?_ _) | (with_reducible refine Kd.C_drewN ?_ _) | (with_reducible refine Kd.C_drew ?_) | exact HR635_2.out)) hb)
              have n11_ := Aside0.mk (Kd.C_below (by repeat (first | (with_reducible exact HR635_4.out) | (with_reducible refine Kd.C_alloc ?_ _) | (with_reducible refine Kd.C_drewN ?_ _) | (with_reducible refine Kd.C_drew ?_) | exact HR635_4.out)) hb)
              have n12_ := Aside0.mk (below_step (by repeat (first | (with_reducible first | exact HB.out | apply below_alloc | apply pw_below_drewN | apply below_drew1 | refine below_set ?_ GE631.out) | exact HB.out)) hb)
              clear HO_3
              clear HO624
              clear HO628
              clear HL632_2
              clear HL632_4
              clear HL635_2
              clear HL635_4
              clear BK631
              clear HR632_2
              clear HR632_4
              clear HR635_2
              clear HR635_4
              clear HB
              have HO_3 := n0_
              have HO624 := n1_
              have HO628 := n2_
              have HL632_2 := n3_
              have HL632_4 := n4_
              have HL635_2 := n5_
              have HL635_4 := n6_
              have BK631 := n7_
              have HR632_2 := n8_
              have HR632_4 := n9_
              have HR635_2 := n10_
              have HR635_4 := n11_
              have HB := n12_
              clear n0_ n1_ n2_ n3_ n4_ n5_ n6_ n7_ n8_ n9_ n10_ n11_ n12_
              (try clear hb)
              (try clear hb2)
              (try clear hk)
              (try clear hi)
              refine hK.out _ _ ⟨(blk_cell BK631.out 0).trans rfl, (blk_cell BK631.out 1).trans rfl, (blk_cell BK631.out 2).trans rfl, (blk_cell BK631.out 3).trans rfl, (blk_cell BK631.out 4).trans rfl, (blk_cell BK631.out 5).trans rfl, HS6_, HS7_, HS8_, HS9_, HS10_, HS11_, ((HB.out.cell (World.block_lt_of_cell? w _ hw634_0)).trans hw634_0), ((HB.out.cell (World.block_lt_of_cell? w _ hw634_1)).trans hw634_1), ((HB.out.cell (World.block_lt_of_cell? w _ hw634_2)).trans hw634_2), ((HB.out.cell (World.block_lt_of_cell? w _ hw634_3)).trans hw634_3), ((HB.out.cell (World.block_lt_of_cell? w _ hw634_4)).trans hw634_4), ((HB.out.cell (World.block_lt_of_cell? w _ hw634_5)).trans hw634_5), HS18_, HS19_, HS20_, HS21_, HS22_, HS23_⟩ (fun hHeld => ?_)
              clear hK K
              refine norm_ (a' := ?_) ?_ ?_
              rotate_left
              ·show Act.put _ (some 138) _ = _
               simp only [Act.put, List.setIfInBounds_toArray, List.set_cons_zero, List.set_cons_succ, i64_w, i32_w]
               rfl
              refine pure_ (i := 21) (N := some 139) (v := ?_) (a' := ?_) #[true, true, true, true, true, true, true, true, true, true, true, true, true, true, true, true, true, true, true, true, true, true, false] rfl rfl (any_of HT_.out (by kernel_rfl)) (fun _ _ _ h => h) (Or.inl ⟨by rfl, ?_⟩) ?_ ?_
              rotate_left
              ·intro w'
               go_simp
               with_reducible rfl
              rotate_left
              ·simp only [Act.put, List.setIfInBounds_toArray, List.set_cons_zero, List.set_cons_succ, i64_w, i32_w]
               rfl
              refine pure_ (i := 22) (N := some 140) (v := ?_) (a' := ?_) #[true, true, true, true, true, true, true, true, true, true, true, true, true, true, true, true, true, true, true, true, true, true, true] rfl rfl (any_of HT_.out (by kernel_rfl)) (fun _ _ _ h => h) (Or.inl ⟨by rfl, ?_⟩) ?_ ?_
              rotate_left
              ·intro w'
               go_simp
               with_reducible rfl
              rotate_left
              ·simp only [Act.put, List.setIfInBounds_toArray, List.set_cons_zero, List.set_cons_succ, i64_w, i32_w]
               rfl
              refine done_ (done_of HT_.out (by kernel_rfl)) ?_
              try go_wp2
              go_roundg k2
              case measure => have := HJ6.out; have := HK2.out; omega
              case rel => exact ⟨(wrap64 (x14_2 + 1)), (by first | rfl | (simp; done) | (simp [*]; done)), H', ⟨by have := HJ6.out; have := HK2.out; omega⟩, ⟨by (with_reducible repeat (first | apply Kd.N_alloc | apply Kd.N_drewN | apply Kd.N_drew)); exact Kd.N_mono HO_3.out (fun _ hk => trivial)⟩, ⟨by repeat (first | (with_reducible first | exact HB.out | apply below_alloc | apply pw_below_drewN | apply below_drew1 | refine below_set ?_ GE631.out) | exact HB.out)⟩⟩
             ·replace c38 := Bool.eq_false_iff.mpr c38
              subst c38
              have H1 : (none) = some r := by rw [if_neg (show ¬ (false = true) by decide)] at H; exact H
              clear H
              have H := H1
              clear H1
              exact absurd H (by simp)
            ·replace c36 := Bool.eq_false_iff.mpr c36
             subst c36
             have H1 : (none) = some r := by rw [if_neg (show ¬ (false = true) by decide)] at H; exact H
             clear H
             have H := H1
             clear H1
             exact absurd H (by simp)
           ·rw [if_neg c34] at H
            exact absurd H (by simp)
          ·rw [if_neg c33] at H
           have c33b0 : (t630 == 0) = false := beq_eq_false_iff_ne.mpr c33
           have c33b1 : (t630 != 0) = true := bne_iff_ne.mpr c33
           exact absurd H (by simp)
         ·rw [if_neg c31] at H
          exact absurd H (by simp)
        ·rw [if_neg c30] at H
         have c30b0 : decide (x14_2 < (l0.length : Int)) = false := decide_eq_false c30
         clear c30
         replace H := Option.bind_eq_some_iff.mp H
         obtain ⟨t618, A480, H⟩ := H
         replace H : (some t618) = some r := H
         have A48 := Aside0.mk A480
         clear A480
         obtain rfl := Option.some.inj H
         go_wp2_with (first | ((with_reducible refine gate_callee (f := 29) rfl ?_); refine goesL_ (some 141) rfl rfl Try.func29 (by kernel_rfl) rfl #[] rfl (by (try simp only [List.map_toArray, List.map_cons, List.map_nil]); first | done | rfl | (simp only [List.length_drop, List.length_take]; rfl)) ?_; (with_reducible refine (forebaylaw08_awake.calls k2  t618 _ A48.out).mono ?_); rintro e w49 ⟨rfl, hb⟩; refine ⟨_, rfl, ?_⟩; have n0_ := Aside0.mk (Kd.N_below (by (with_reducible repeat (first | apply Kd.N_alloc | apply Kd.N_drewN | apply Kd.N_drew)); exact HO_3.out) hb); have n1_ := Aside0.mk (below_step (by repeat (first | (with_reducible first | exact HB.out | apply below_alloc | apply pw_below_drewN | apply below_drew1) | exact HB.out)) hb); clear HO_3; clear HB; have HO_3 := n0_; have HB := n1_; clear n0_ n1_; (try clear hb); (try clear hb2); (try clear hk); (try clear hi)))
         go_ret
         exact ⟨by first | rfl | (simp [errW_none, errW_some] <;> rfl) | (simp [*, errW_none, errW_some] <;> rfl), by repeat (first | (with_reducible first | exact HB.out | apply below_alloc | apply pw_below_drewN | apply below_drew1) | exact HB.out)⟩
  ·rw [if_neg c5] at H
   have c5b0 : (t586 == 0) = false := beq_eq_false_iff_ne.mpr c5
   have c5b1 : (t586 != 0) = true := bne_iff_ne.mpr c5
   have HC50 := Aside0.mk H
   clear H
   go_enter Try.func12, Try.ntmps12
   go_upto_region 5 with (first | ((with_reducible refine gate_callee (f := 28) rfl ?_); refine goesL_ (some 18) rfl rfl Try.func28 (by kernel_rfl) rfl #[.slice A0 l0.length c0] rfl (by (try simp only [List.map_toArray, List.map_cons, List.map_nil]); first | done | rfl | (simp only [List.length_drop, List.length_take]; rfl)) ?_; (with_reducible refine (forebaylaw08_Few.calls k _ _ l0 true _ ?side1 ?side2 A2.out).mono ?_); (case side1 => repeat (first | exact HR0.out | (with_reducible refine Kd.C_alloc ?_ _) | (with_reducible refine Kd.C_drewN ?_ _) | (with_reducible refine Kd.C_drew ?_))); (case side2 => exact HC0.out); rintro e w51 ⟨rfl, hb⟩; refine ⟨_, rfl, ?_⟩; have n0_ := Aside0.mk (below_step (by repeat (first | (with_reducible first | exact HB.out | apply below_alloc | apply pw_below_drewN | apply below_drew1) | exact HB.out)) hb); clear HB; have HB := n0_; clear n0_; (try clear hb); (try clear hb2); (try clear hk); (try clear hi)) | ((with_reducible refine gate_callee (f := 32) rfl ?_); refine goesL_ (some 23) rfl rfl Try.func32 (by kernel_rfl) rfl #[.slice A0 l0.length c0] rfl (by (try simp only [List.map_toArray, List.map_cons, List.map_nil]); first | done | rfl | (simp only [List.length_drop, List.length_take]; rfl)) ?_; (with_reducible refine (batch_Normal.calls _ _ l0 t582 t585 t586 _ ?side1 ?side2 A4.out).mono ?_); (case side1 => repeat (first | exact (Kd.C_below HR0.out HB.out) | (with_reducible refine Kd.C_alloc ?_ _) | (with_reducible refine Kd.C_drewN ?_ _) | (with_reducible refine Kd.C_drew ?_))); (case side2 => exact HC0.out); rintro e w52 ⟨v583, rfl, ho0, hb⟩; refine ⟨_, rfl, ?_⟩; have n0_ := Aside0.mk (Kd.N_lower (Kd.N_mono (ok' := fun k_ => True) ho0 (fun k_ hk_ => trivial)) (below_size (by repeat (first | (with_reducible first | exact HB.out | apply below_alloc | apply pw_below_drewN | apply below_drew1) | exact HB.out)))); have n1_ := Aside0.mk (below_step (by repeat (first | (with_reducible first | exact HB.out | apply below_alloc | apply pw_below_drewN | apply below_drew1) | exact HB.out)) hb); clear HB; have HO584 := n0_; have HB := n1_; clear n0_ n1_; (try clear hb); (try clear hb2); (try clear hk); (try clear hi); (try clear ho0)))
   (try simp only [Act.put, List.setIfInBounds_toArray, List.set_cons_zero, List.set_cons_succ])
   go_cut [46] (fun v46 wc => ∃ (kq : Nat) (x46_49 : Bool), v46 = .bool x46_49 ∧ Aside0 (forebaylaw08_BatchOnce.j0 kq l0 t585 t586 x46_49 = some r) ∧ Aside0 (kq ≤ k) ∧ Aside0 (Below w.heap.size w wc))
   case first =>
    have H := HC50.out
    clear HC50
    by_cases c53 : (t582.length : Int) = 0
    ·rw [if_pos c53] at H
     have c53b0 : ((t582.length : Int) == 0) = true := beq_iff_eq.mpr c53
     have c53b1 : ((t582.length : Int) != 0) = false := bne_eq_false_iff_eq.mpr c53
     clear c53
     (first | rw [c53b0] | (simp only [i64_w, i32_w]; rw [c53b0]) | skip)
     by_cases c54 : t585 < 0
     ·rw [if_pos c54] at H
      have c54b0 : decide (t585 < 0) = true := decide_eq_true c54
      clear c54
      have H' := Aside0.mk H
      clear H
      obtain ⟨Ao55, co55, eo55⟩ := Kd.N_slice HO584.out
      subst eo55
      go_wp2
      go_meet
      case rel => exact ⟨_, (true), (by first | rfl | (simp; done) | (simp [*]; done)), H', ⟨by first | omega | exact Nat.le_refl _⟩, ⟨by repeat (first | (with_reducible first | exact HB.out | apply below_alloc | apply pw_below_drewN | apply below_drew1) | exact HB.out)⟩⟩
     ·rw [if_neg c54] at H
      have c54b0 : decide (t585 < 0) = false := decide_eq_false c54
      clear c54
      by_cases c56 : t585 ≥ (l0.length : Int)
      ·rw [if_pos c56] at H
       have c56b0 : decide ((l0.length : Int) ≤ t585) = true := decide_eq_true c56
       clear c56
       have H' := Aside0.mk H
       clear H
       obtain ⟨Ao57, co57, eo57⟩ := Kd.N_slice HO584.out
       subst eo57
       go_wp2
       go_meet
       case rel => exact ⟨_, (true), (by first | rfl | (simp; done) | (simp [*]; done)), H', ⟨by first | omega | exact Nat.le_refl _⟩, ⟨by repeat (first | (with_reducible first | exact HB.out | apply below_alloc | apply pw_below_drewN | apply below_drew1) | exact HB.out)⟩⟩
      ·rw [if_neg c56] at H
       have c56b0 : decide ((l0.length : Int) ≤ t585) = false := decide_eq_false c56
       clear c56
       replace H := Option.bind_eq_some_iff.mp H
       obtain ⟨t587, A580, H⟩ := H
       replace H : (forebaylaw08_BatchOnce.j0 k l0 t585 t586 t587) = some r := H
       have A58 := Aside0.mk A580
       clear A580
       have H' := Aside0.mk H
       clear H
       obtain ⟨Ao59, co59, eo59⟩ := Kd.N_slice HO584.out
       subst eo59
       go_wp2_with (first | (go_at_call 38; (with_reducible refine (batch_Same.calls _ _ l0 _ _ l0 t587 _ ?side1 ?side2 ?side3 ?side4 A58.out).mono ?_); (case side1 => repeat (first | exact (Kd.C_below HR0.out HB.out) | (with_reducible refine Kd.C_alloc ?_ _) | (with_reducible refine Kd.C_drewN ?_ _) | (with_reducible refine Kd.C_drew ?_))); (case side2 => exact HC0.out); (case side3 => repeat (first | exact (Kd.C_below HR0.out HB.out) | (with_reducible refine Kd.C_alloc ?_ _) | (with_reducible refine Kd.C_drewN ?_ _) | (with_reducible refine Kd.C_drew ?_))); (case side4 => exact HC0.out); rintro e w60 ⟨rfl, hb⟩; have n0_ := Aside0.mk (Kd.N_below (by (with_reducible repeat (first | apply Kd.N_alloc | apply Kd.N_drewN | apply Kd.N_drew)); exact HO584.out) hb); have n1_ := Aside0.mk (below_step (by repeat (first | (with_reducible first | exact HB.out | apply below_alloc | apply pw_below_drewN | apply below_drew1) | exact HB.out)) hb); clear HO584; clear HB; have HO584 := n0_; have HB := n1_; clear n0_ n1_; (try clear hb); (try clear hb2); (try clear hk); (try clear hi)))
       go_meet
       case rel => exact ⟨_, (t587), (by first | rfl | (simp; done) | (simp [*]; done)), H', ⟨by first | omega | exact Nat.le_refl _⟩, ⟨by repeat (first | (with_reducible first | exact HB.out | apply below_alloc | apply pw_below_drewN | apply below_drew1) | exact HB.out)⟩⟩
    ·rw [if_neg c53] at H
     have c53b0 : ((t582.length : Int) == 0) = false := beq_eq_false_iff_ne.mpr c53
     have c53b1 : ((t582.length : Int) != 0) = true := bne_iff_ne.mpr c53
     have c53b2 : ¬ (t582 = []) := fun h_ => c53 (by rw [h_]; rfl)
     (first | rw [c53b0] | (simp only [i64_w, i32_w]; rw [c53b0]) | skip)
     have H' := Aside0.mk H
     clear H
     obtain ⟨Ao61, co61, eo61⟩ := Kd.N_slice HO584.out
     subst eo61
     go_wp2
     go_meet
     case rel => exact ⟨_, (true), (by first | rfl | (simp; done) | (simp [*]; done)), H', ⟨by first | omega | exact Nat.le_refl _⟩, ⟨by repeat (first | (with_reducible first | exact HB.out | apply below_alloc | apply pw_below_drewN | apply below_drew1) | exact HB.out)⟩⟩
   case rest =>
    clear HC50
    try clear c1
    try clear c2
    try clear p2
    try clear c3
    try clear c5
    try clear c5b0
    try clear c5b1
    try clear c6
    try clear p6
    try clear q6
    try clear hx6
    try clear c12
    try clear c18
    try clear c22
    try clear c23
    try clear c28
    try clear c29
    try clear c30
    try clear c30b0
    try clear c31
    try clear c31b0
    try clear c32
    try clear c33
    try clear c33b0
    try clear c33b1
    try clear c34
    try clear c34b0
    try clear c36
    try clear c38
    try clear c53
    try clear c53b0
    try clear c53b1
    try clear c53b2
    try clear c54
    try clear c54b0
    try clear c56
    try clear c56b0
    try clear c61
    try clear p61
    try clear q61
    try clear hx61
    try clear hcz41_0
    try clear hcz41_1
    try clear hcz41_2
    try clear hcz41_3
    try clear hcz41_4
    try clear hcz41_5
    try clear hfz41_0
    try clear hfz41_1
    try clear hfz41_2
    try clear hfz41_3
    try clear hfz41_4
    try clear hfz41_5
    try clear hx619_0
    try clear hx619_1
    try clear hx619_2
    try clear hx619_3
    try clear hx619_4
    try clear hx619_5
    try clear hx632_0
    try clear hx632_1
    try clear hx632_2
    try clear hx632_3
    try clear hx632_4
    try clear hx632_5
    try clear hx634_0
    try clear hx634_1
    try clear hx634_2
    try clear hx634_3
    try clear hx634_4
    try clear hx634_5
    try clear hx635_0
    try clear hx635_1
    try clear hx635_2
    try clear hx635_3
    try clear hx635_4
    try clear hx635_5
    try clear p619
    try clear p632
    try clear p634
    try clear p635
    try clear q619
    try clear q632
    try clear q634
    try clear q635
    obtain ⟨kq, x46_49, rfl, HA, HJ49, HB⟩ := hcut
    cases kq with
    | zero => exact absurd HA.out (by simp [forebaylaw08_BatchOnce.j0])
    | succ kj49 =>
     have H := HA.out
     clear HA
     simp only [forebaylaw08_BatchOnce.j0] at H
     by_cases c62 : x46_49 = true
     ·subst c62
      have H1 : (none) = some r := by rw [if_pos rfl] at H; exact H
      clear H
      have H := H1
      clear H1
      exact absurd H (by simp)
     ·replace c62 := Bool.eq_false_iff.mpr c62
      subst c62
      have H1 : (if 0 ≤ t585 then (if t585 < (l0.length : Int) then ((metric_Normal.f ((rd_T25 l0 t585).f0) ((rd_T25 l0 t585).f1) ((rd_T25 l0 t585).f2) ((rd_T25 l0 t585).f3) ((rd_T25 l0 t585).f4) ((rd_T25 l0 t585).f5)).bind fun bt589 => (if t585 ≤ (l0.length : Int) then ((batch_Normal.f (l0.take (t585 : Int).toNat)).bind fun bt605 => (if bt589.2.2.2.2.2.2 = t586 then (if bt605.2.2 = 0 then ((forebaylaw08_awake.f kj49).bind fun t610 => (some t610)) else (none)) else (none))) else (none))) else (none)) else (none)) = some r := by rw [if_neg (show ¬ (false = true) by decide)] at H; exact H
      clear H
      have H := H1
      clear H1
      by_cases c63 : 0 ≤ t585
      ·rw [if_pos c63] at H
       have c63b0 : decide (0 ≤ t585) = true := decide_eq_true c63
       clear c63
       by_cases c64 : t585 < (l0.length : Int)
       ·rw [if_pos c64] at H
        have c64b0 : decide (t585 < (l0.length : Int)) = true := decide_eq_true c64
        clear c64
        replace H := Option.bind_eq_some_iff.mp H
        obtain ⟨⟨t589, t590, t591, t594, t595, t598, t599⟩, A650, H⟩ := H
        replace H : (if t585 ≤ (l0.length : Int) then ((batch_Normal.f (l0.take (t585 : Int).toNat)).bind fun bt605 => (if t599 = t586 then (if bt605.2.2 = 0 then ((forebaylaw08_awake.f kj49).bind fun t610 => (some t610)) else (none)) else (none))) else (none)) = some r := H
        have A65 := Aside0.mk A650
        clear A650
        have c66b0 := eq_true (of_decide_eq_true (by first | (with_reducible assumption) | assumption) : 0 ≤ t585)
        by_cases c67 : t585 ≤ (l0.length : Int)
        ·rw [if_pos c67] at H
         have c67b0 := eq_true c67
         have c67b1 : decide (t585 ≤ (l0.length : Int)) = true := decide_eq_true c67
         clear c67
         obtain ⟨y601, hy601⟩ : ∃ y_ : List (S25), y_ = (l0.take (t585 : Int).toNat) := ⟨_, rfl⟩
         replace H : ((batch_Normal.f y601).bind fun bt605 => (if t599 = t586 then (if bt605.2.2 = 0 then ((forebaylaw08_awake.f kj49).bind fun t610 => (some t610)) else (none)) else (none))) = some r := by first | (rw [hy601]; with_reducible exact H) | (have H2_ := (Option.bind_some _ _).symm.trans H; rw [hy601]; with_reducible exact H2_) | (have H2_ := (Option.bind_some _ _).symm.trans H; with_reducible exact H2_) | with_reducible exact H | (rw [hy601]; exact H) | exact H
         have Ny601 := Aside0.mk hy601
         clear hy601
         replace H := Option.bind_eq_some_iff.mp H
         obtain ⟨⟨t605, t608, t609⟩, A680, H⟩ := H
         replace H : (if t599 = t586 then (if t609 = 0 then ((forebaylaw08_awake.f kj49).bind fun t610 => (some t610)) else (none)) else (none)) = some r := H
         have A68 := Aside0.mk A680
         clear A680
         by_cases c69 : t599 = t586
         ·rw [if_pos c69] at H
          have c69b0 : (t599 == t586) = true := beq_iff_eq.mpr c69
          have c69b1 : (t599 != t586) = false := bne_eq_false_iff_eq.mpr c69
          clear c69
          by_cases c70 : t609 = 0
          ·rw [if_pos c70] at H
           have c70b0 : (t609 == 0) = true := beq_iff_eq.mpr c70
           have c70b1 : (t609 != 0) = false := bne_eq_false_iff_eq.mpr c70
           clear c70
           replace H := Option.bind_eq_some_iff.mp H
           obtain ⟨t610, A710, H⟩ := H
           replace H : (some t610) = some r := H
           have A71 := Aside0.mk A710
           clear A710
           obtain rfl := Option.some.inj H
           have p588 : 0 ≤ (t585 : Int) := of_decide_eq_true (by first | (with_reducible assumption) | assumption)
           have q588 : t585 < (l0.length : Int) := of_decide_eq_true (by first | (with_reducible assumption) | assumption)
           obtain ⟨ad588, A588_2, c588_2, A588_4, c588_4, e588, hx588_0, hx588_1, hx588_2, hx588_3, hx588_4, hx588_5, hl588_2, hi588_2, hl588_4, hi588_4⟩ := at_T25 HR0.out t585 p588 q588
           cases e588
           replace hx588_0 := (HB.out.cell (World.block_lt_of_cell? w _ hx588_0)).trans hx588_0
           replace hx588_1 := (HB.out.cell (World.block_lt_of_cell? w _ hx588_1)).trans hx588_1
           replace hx588_2 := (HB.out.cell (World.block_lt_of_cell? w _ hx588_2)).trans hx588_2
           replace hx588_3 := (HB.out.cell (World.block_lt_of_cell? w _ hx588_3)).trans hx588_3
           replace hx588_4 := (HB.out.cell (World.block_lt_of_cell? w _ hx588_4)).trans hx588_4
           replace hx588_5 := (HB.out.cell (World.block_lt_of_cell? w _ hx588_5)).trans hx588_5
           have HR588_2 := Aside0.mk hi588_2
           have HC588_2 := Aside0.mk hl588_2
           clear hi588_2 hl588_2
           have HR588_4 := Aside0.mk hi588_4
           have HC588_4 := Aside0.mk hl588_4
           clear hi588_4 hl588_4
           replace p588 := eq_true p588
           replace q588 := eq_true q588
           go_wp2_with (first | ((with_reducible refine gate_callee (f := 18) rfl ?_); refine goesL_ (some 52) rfl rfl Try.func18 (by kernel_rfl) rfl #[.agg #[.string ((rd_T25 l0 t585).f0), .int .i64 ((rd_T25 l0 t585).f1), .slice A588_2 ((rd_T25 l0 t585).f2).length c588_2, .int .i64 ((rd_T25 l0 t585).f3), .slice A588_4 ((rd_T25 l0 t585).f4).length c588_4, .int .i64 ((rd_T25 l0 t585).f5)]] rfl (by (try simp only [List.map_toArray, List.map_cons, List.map_nil]); first | done | rfl | (simp only [List.length_drop, List.length_take]; rfl)) ?_; (with_reducible refine (metric_Normal.calls ((rd_T25 l0 t585).f0) ((rd_T25 l0 t585).f1) _ _ ((rd_T25 l0 t585).f2) ((rd_T25 l0 t585).f3) _ _ ((rd_T25 l0 t585).f4) ((rd_T25 l0 t585).f5) t589 t590 t591 t594 t595 t598 t599 _ ?side1 ?side2 ?side3 ?side4 A65.out).mono ?_); (case side1 => repeat (first | exact (Kd.C_below HR588_2.out HB.out) | (with_reducible refine Kd.C_alloc ?_ _) | (with_reducible refine Kd.C_drewN ?_ _) | (with_reducible refine Kd.C_drew ?_))); (case side2 => exact HC588_2.out); (case side3 => repeat (first | exact (Kd.C_below HR588_4.out HB.out) | (with_reducible refine Kd.C_alloc ?_ _) | (with_reducible refine Kd.C_drewN ?_ _) | (with_reducible refine Kd.C_drew ?_))); (case side4 => exact HC588_4.out); rintro e w72 ⟨v592, v596, rfl, ho0, ho1, hb⟩; refine ⟨_, rfl, ?_⟩; have n0_ := Aside0.mk (Kd.R_lower (Kd.R_mono (ok' := fun k_ => True) ho0 (fun _ hk_ => trivial)) (below_size (by repeat (first | (with_reducible first | exact HB.out | apply below_alloc | apply pw_below_drewN | apply below_drew1) | exact HB.out)))); have n1_ := Aside0.mk (Kd.V_lower (Kd.V_mono (ok' := fun k_ => some k_ ≠ (v592 : Value).ownBlock) ho1 (fun k_ hk_ => hk_.2)) (below_size (by repeat (first | (with_reducible first | exact HB.out | apply below_alloc | apply pw_below_drewN | apply below_drew1) | exact HB.out)))); have n2_ := Aside0.mk (below_step (by repeat (first | (with_reducible first | exact HB.out | apply below_alloc | apply pw_below_drewN | apply below_drew1) | exact HB.out)) hb); clear HB; have HO593 := n0_; have HO597 := n1_; have HB := n2_; clear n0_ n1_ n2_; (try clear hb); (try clear hb2); (try clear hk); (try clear hi); (try clear ho0); (try clear ho1)) | ((with_reducible refine gate_dst (N := 6) rfl ?_); (try (refine gate_guard (by rfl) ?_; dsimp only)); refine box_event ?hg (N := 6) ?hd (cs := #[.string (⟨#[]⟩ : ByteArray), .int .i64 0, .slice none 0 0, .int .i64 0, .slice none 0 0, .int .i64 0]) (t := 25) ?hr ?_; (case hd => rfl); (case hg => rfl); (case hr => first | (go_simp; done) | (go_simp; rfl)); intro gb600 hg w73 hbox hb; have n0_ := Aside0.mk (Kd.R_below (by (with_reducible repeat (first | apply Kd.R_alloc | apply Kd.R_drewN | apply Kd.R_drew)); exact HO593.out) hb); have n1_ := Aside0.mk (Kd.V_below (Kd.V_elderB (by (with_reducible repeat (first | apply Kd.V_alloc | apply Kd.V_drewN | apply Kd.V_drew)); exact HO597.out) gb600 (Nat.le_of_eq hg.symm)) hb); have n2_ := Aside0.mk (below_step (by repeat (first | (with_reducible first | exact HB.out | apply below_alloc | apply pw_below_drewN | apply below_drew1) | exact HB.out)) hb); have n3_ := Aside0.mk (hbox); have n4_ := Aside0.mk ((by rw [hg]; exact (below_size (by repeat (first | (with_reducible first | exact HB.out | apply below_alloc | apply pw_below_drewN | apply below_drew1) | exact HB.out))) : w.heap.size ≤ gb600)); have n5_ := Aside0.mk ((by rw [hg]; exact (below_size (by repeat (first | (with_reducible first | exact HB.out | apply below_alloc | apply pw_below_drewN | apply below_drew1) | exact HB.out))) : w.heap.size ≤ gb600)); clear HO593; clear HO597; clear HB; have HO593 := n0_; have HO597 := n1_; have HB := n2_; have BK600 := n3_; have GW600 := n4_; have GE600 := n5_; clear n0_ n1_ n2_ n3_ n4_ n5_; clear hb hbox hg; have hcz74_0 : w73.cell? ⟨gb600, 0, none⟩ = some (.string (⟨#[]⟩ : ByteArray)) := (blk_cell BK600.out 0).trans rfl; have hcz74_1 : w73.cell? ⟨gb600, 1, none⟩ = some (.int .i64 0) := (blk_cell BK600.out 1).trans rfl; have hcz74_2 : w73.cell? ⟨gb600, 2, none⟩ = some (.slice none 0 0) := (blk_cell BK600.out 2).trans rfl; have hcz74_3 : w73.cell? ⟨gb600, 3, none⟩ = some (.int .i64 0) := (blk_cell BK600.out 3).trans rfl; have hcz74_4 : w73.cell? ⟨gb600, 4, none⟩ = some (.slice none 0 0) := (blk_cell BK600.out 4).trans rfl; have hcz74_5 : w73.cell? ⟨gb600, 5, none⟩ = some (.int .i64 0) := (blk_cell BK600.out 5).trans rfl; have hfz74_0 := blk_frozen BK600.out 0; have hfz74_1 := blk_frozen BK600.out 1; have hfz74_2 := blk_frozen BK600.out 2; have hfz74_3 := blk_frozen BK600.out 3; have hfz74_4 := blk_frozen BK600.out 4; have hfz74_5 := blk_frozen BK600.out 5; obtain ⟨Ao75, co75, eo75⟩ := Kd.R_slice HO593.out; subst eo75; obtain ⟨Ao76, co76, eo76⟩ := Kd.V_slice HO597.out; subst eo76) | ((with_reducible refine gate_store (t := 25) (p := 6) rfl ?_); refine store_event (t := 25) (p := 6) (v := ?vo_w77) (w1 := ((((((w73.setCell ⟨gb600, 0, none⟩ (.string t589)).setCell ⟨gb600, 1, none⟩ (.int .i64 t590)).setCell ⟨gb600, 2, none⟩ (.slice Ao75 t591.length co75)).setCell ⟨gb600, 3, none⟩ (.int .i64 t594)).setCell ⟨gb600, 4, none⟩ (.slice Ao76 t595.length co76)).setCell ⟨gb600, 5, none⟩ (.int .i64 t598))) ?hg ?ho ?hn ?hr ?_; (case ho => rfl); (case hg => rfl); (case hn => rfl); (case hr => first | (go_simp; done) | (go_simp; rfl)); intro w77 hw; have n0_ : Aside0 (Kd.R k40 40 w77 w.heap.size (fun _ => True) (.slice Ao75 t591.length co75) t591) := ⟨(by rw [hw]; exact (by (with_reducible repeat (first | apply Kd.R_alloc | apply Kd.R_drewN | apply Kd.R_drew)); exact Kd.R_mono (Kd.R_far (p := ⟨gb600, 5, none⟩) (Kd.R_far (p := ⟨gb600, 4, none⟩) (Kd.R_far (p := ⟨gb600, 3, none⟩) (Kd.R_far (p := ⟨gb600, 2, none⟩) (Kd.R_far (p := ⟨gb600, 1, none⟩) (Kd.R_far (p := ⟨gb600, 0, none⟩) (Kd.R_types HO593.out BK600.out (by decide)) (fun _ hk => hk.2) (.string t589)) (fun _ hk => hk.2) (.int .i64 t590)) (fun _ hk => hk.2) (.slice Ao75 t591.length co75)) (fun _ hk => hk.2) (.int .i64 t594)) (fun _ hk => hk.2) (.slice Ao76 t595.length co76)) (fun _ hk => hk.2) (.int .i64 t598)) (fun _ hk => trivial)))⟩; have n1_ : Aside0 (Kd.V k37 37 w77 w.heap.size (fun k_ => some k_ ≠ (.slice Ao75 t591.length co75 : Value).ownBlock ∧ k_ ≠ gb600) (.slice Ao76 t595.length co76) t595) := ⟨(by rw [hw]; exact (by (with_reducible repeat (first | apply Kd.V_alloc | apply Kd.V_drewN | apply Kd.V_drew)); exact Kd.V_mono (Kd.V_far (p := ⟨gb600, 5, none⟩) (Kd.V_far (p := ⟨gb600, 4, none⟩) (Kd.V_far (p := ⟨gb600, 3, none⟩) (Kd.V_far (p := ⟨gb600, 2, none⟩) (Kd.V_far (p := ⟨gb600, 1, none⟩) (Kd.V_far (p := ⟨gb600, 0, none⟩) (Kd.V_mono HO597.out (fun k_ hk => (⟨hk, hk.2⟩ : _ ∧ k_ ≠ gb600))) (fun _ hk => hk.2) (.string t589)) (fun _ hk => hk.2) (.int .i64 t590)) (fun _ hk => hk.2) (.slice Ao75 t591.length co75)) (fun _ hk => hk.2) (.int .i64 t594)) (fun _ hk => hk.2) (.slice Ao76 t595.length co76)) (fun _ hk => hk.2) (.int .i64 t598)) (fun _ hk => ⟨hk.1.1, hk.1.2⟩)))⟩; have n2_ : Aside0 (w77.heap[gb600]? = some (.cells #[.string t589, .int .i64 t590, .slice Ao75 t591.length co75, .int .i64 t594, .slice Ao76 t595.length co76, .int .i64 t598] 25 (0, 0))) := ⟨(by rw [hw]; exact (by (with_reducible repeat (first | refine blk_drewN ?_ _ | refine blk_drew ?_ | refine blk_alloc ?_ _)); refine blk_put (cs := #[.string t589, .int .i64 t590, .slice Ao75 t591.length co75, .int .i64 t594, .slice Ao76 t595.length co76, .int .i64 0]) ?_ 5 _ rfl; (with_reducible repeat (first | refine blk_drewN ?_ _ | refine blk_drew ?_ | refine blk_alloc ?_ _)); refine blk_put (cs := #[.string t589, .int .i64 t590, .slice Ao75 t591.length co75, .int .i64 t594, .slice none 0 0, .int .i64 0]) ?_ 4 _ rfl; (with_reducible repeat (first | refine blk_drewN ?_ _ | refine blk_drew ?_ | refine blk_alloc ?_ _)); refine blk_put (cs := #[.string t589, .int .i64 t590, .slice Ao75 t591.length co75, .int .i64 0, .slice none 0 0, .int .i64 0]) ?_ 3 _ rfl; (with_reducible repeat (first | refine blk_drewN ?_ _ | refine blk_drew ?_ | refine blk_alloc ?_ _)); refine blk_put (cs := #[.string t589, .int .i64 t590, .slice none 0 0, .int .i64 0, .slice none 0 0, .int .i64 0]) ?_ 2 _ rfl; (with_reducible repeat (first | refine blk_drewN ?_ _ | refine blk_drew ?_ | refine blk_alloc ?_ _)); refine blk_put (cs := #[.string t589, .int .i64 0, .slice none 0 0, .int .i64 0, .slice none 0 0, .int .i64 0]) ?_ 1 _ rfl; (with_reducible repeat (first | refine blk_drewN ?_ _ | refine blk_drew ?_ | refine blk_alloc ?_ _)); refine blk_put (cs := #[.string (⟨#[]⟩ : ByteArray), .int .i64 0, .slice none 0 0, .int .i64 0, .slice none 0 0, .int .i64 0]) ?_ 0 _ rfl; (with_reducible repeat (first | refine blk_drewN ?_ _ | refine blk_drew ?_ | refine blk_alloc ?_ _)); exact BK600.out))⟩; have n3_ : Aside0 (Below w.heap.size w w77) := ⟨(by rw [hw]; exact (by repeat (first | (with_reducible first | exact HB.out | apply below_alloc | apply pw_below_drewN | apply below_drew1 | refine below_set ?_ GE600.out) | exact HB.out)))⟩; clear hw; clear HO593; clear HO597; clear BK600; clear HB; have HO593 := n0_; have HO597 := n1_; have BK600 := n2_; have HB := n3_; clear n0_ n1_ n2_ n3_; have q78 : (t585 : Int) ≤ ((l0.length : Int) : Int) := of_decide_eq_true (by first | (with_reducible assumption) | assumption); obtain ⟨i078, hi078, _, hsz78, _⟩ := info_parts info25; have hroom78 : l0.length ≤ c0 := HC0.out; have hC78 : Kd.C k25 _ (some ad588) l0.length l0 := HR0.out; have hcut78 := cut_to (P := Try.prog) 42 25 .i64 Try.underlying42 hi078 (some ad588) l0.length c0 t585 (of_decide_eq_true (by first | (with_reducible assumption) | assumption)) q78 hroom78; have hr78 := Kd.C_take (m := (t585 : Int).toNat) hC78 (by omega); have hy78 : y601.length = (t585 : Int).toNat := (by rw [Ny601.out, List.length_take]; omega); rw [← Ny601.out] at hr78; rw [← hy78] at hcut78; have HR604 := Aside0.mk hr78; have HC604 := Aside0.mk (show y601.length ≤ c0 from by omega); clear hr78 hC78 hroom78 hi078 hsz78; have KY78 := Aside0.mk hy78; clear hy78; replace q78 := eq_true q78) | ((with_reducible refine gate_callee (f := 32) rfl ?_); refine goesL_ (some 59) rfl rfl Try.func32 (by kernel_rfl) rfl #[.slice (some ad588) y601.length c0] rfl (by (try simp only [List.map_toArray, List.map_cons, List.map_nil]); first | done | rfl | (simp only [List.length_drop, List.length_take]; rfl)) ?_; (with_reducible refine (batch_Normal.calls _ _ y601 t605 t608 t609 _ ?side1 ?side2 A68.out).mono ?_); (case side1 => repeat (first | exact (Kd.C_below HR604.out HB.out) | (with_reducible refine Kd.C_alloc ?_ _) | (with_reducible refine Kd.C_drewN ?_ _) | (with_reducible refine Kd.C_drew ?_))); (case side2 => exact HC604.out); rintro e w79 ⟨v606, rfl, ho0, hb⟩; refine ⟨_, rfl, ?_⟩; have n0_ := Aside0.mk (Kd.R_below (by (with_reducible repeat (first | apply Kd.R_alloc | apply Kd.R_drewN | apply Kd.R_drew)); exact HO593.out) hb); have n1_ := Aside0.mk (Kd.V_elder' (by (with_reducible repeat (first | apply Kd.V_alloc | apply Kd.V_drewN | apply Kd.V_drew)); exact HO597.out) (Kd.N_base ho0) hb); have n2_ := Aside0.mk (Kd.N_lower (Kd.N_mono (ok' := fun k_ => some k_ ≠ (.slice Ao75 t591.length co75 : Value).ownBlock ∧ k_ ≠ gb600) ho0 (fun k_ hk_ => ⟨(Kd.fresh' (Kd.R_lt (by (with_reducible repeat (first | apply Kd.R_alloc | apply Kd.R_drewN | apply Kd.R_drew)); exact HO593.out)) k_ hk_), (Kd.freshB (g := gb600) (o := .cells #[.string t589, .int .i64 t590, .slice Ao75 t591.length co75, .int .i64 t594, .slice Ao76 t595.length co76, .int .i64 t598] 25 (0, 0)) (by (with_reducible repeat (first | refine blk_drewN ?_ _ | refine blk_drew ?_ | refine blk_alloc ?_ _)); exact BK600.out) k_ hk_)⟩)) (below_size (by repeat (first | (with_reducible first | exact HB.out | apply below_alloc | apply pw_below_drewN | apply below_drew1 | refine below_set ?_ GE600.out) | exact HB.out)))); have n3_ := Aside0.mk (blk_below (g := gb600) (o := .cells #[.string t589, .int .i64 t590, .slice Ao75 t591.length co75, .int .i64 t594, .slice Ao76 t595.length co76, .int .i64 t598] 25 (0, 0)) (by (with_reducible repeat (first | refine blk_drewN ?_ _ | refine blk_drew ?_ | refine blk_alloc ?_ _)); exact BK600.out) hb); have n4_ := Aside0.mk (below_step (by repeat (first | (with_reducible first | exact HB.out | apply below_alloc | apply pw_below_drewN | apply below_drew1 | refine below_set ?_ GE600.out) | exact HB.out)) hb); clear HO593; clear HO597; clear BK600; clear HB; have HO593 := n0_; have HO597 := n1_; have HO607 := n2_; have BK600 := n3_; have HB := n4_; clear n0_ n1_ n2_ n3_ n4_; (try clear hb); (try clear hb2); (try clear hk); (try clear hi); (try clear ho0)) | (go_at_call 29; (with_reducible refine (forebaylaw08_awake.calls kj49  t610 _ A71.out).mono ?_); rintro e w80 ⟨rfl, hb⟩; have n0_ := Aside0.mk (Kd.R_below (by (with_reducible repeat (first | apply Kd.R_alloc | apply Kd.R_drewN | apply Kd.R_drew)); exact HO593.out) hb); have n1_ := Aside0.mk (Kd.V_below (by (with_reducible repeat (first | apply Kd.V_alloc | apply Kd.V_drewN | apply Kd.V_drew)); exact HO597.out) hb); have n2_ := Aside0.mk (Kd.N_below (by (with_reducible repeat (first | apply Kd.N_alloc | apply Kd.N_drewN | apply Kd.N_drew)); exact HO607.out) hb); have n3_ := Aside0.mk (blk_below (g := gb600) (o := .cells #[.string t589, .int .i64 t590, .slice Ao75 t591.length co75, .int .i64 t594, .slice Ao76 t595.length co76, .int .i64 t598] 25 (0, 0)) (by (with_reducible repeat (first | refine blk_drewN ?_ _ | refine blk_drew ?_ | refine blk_alloc ?_ _)); exact BK600.out) hb); have n4_ := Aside0.mk (below_step (by repeat (first | (with_reducible first | exact HB.out | apply below_alloc | apply pw_below_drewN | apply below_drew1 | refine below_set ?_ GE600.out) | exact HB.out)) hb); clear HO593; clear HO597; clear HO607; clear BK600; clear HB; have HO593 := n0_; have HO597 := n1_; have HO607 := n2_; have BK600 := n3_; have HB := n4_; clear n0_ n1_ n2_ n3_ n4_; (try clear hb); (try clear hb2); (try clear hk); (try clear hi)))
           go_ret
           exact ⟨by first | rfl | (simp [errW_none, errW_some] <;> rfl) | (simp [*, errW_none, errW_some] <;> rfl), by repeat (first | (with_reducible first | exact HB.out | apply below_alloc | apply pw_below_drewN | apply below_drew1 | refine below_set ?_ GE600.out) | exact HB.out)⟩
          ·rw [if_neg c70] at H
           exact absurd H (by simp)
         ·rw [if_neg c69] at H
          exact absurd H (by simp)
        ·rw [if_neg c67] at H
         exact absurd H (by simp)
       ·rw [if_neg c64] at H
        exact absurd H (by simp)
      ·rw [if_neg c63] at H
       exact absurd H (by simp)
 ·replace c3 := Bool.eq_false_iff.mpr c3
  subst c3
  have H1 : ((forebaylaw08_awake.f k).bind fun t581 => (some t581)) = some r := by rw [if_neg (show ¬ (false = true) by decide)] at H; exact H
  clear H
  have H := H1
  clear H1
  replace H := Option.bind_eq_some_iff.mp H
  obtain ⟨t581, A810, H⟩ := H
  replace H : (some t581) = some r := H
  have A81 := Aside0.mk A810
  clear A810
  obtain rfl := Option.some.inj H
  go_enter Try.func12, Try.ntmps12
  go_wp2_with (first | ((with_reducible refine gate_callee (f := 28) rfl ?_); refine goesL_ (some 18) rfl rfl Try.func28 (by kernel_rfl) rfl #[.slice A0 l0.length c0] rfl (by (try simp only [List.map_toArray, List.map_cons, List.map_nil]); first | done | rfl | (simp only [List.length_drop, List.length_take]; rfl)) ?_; (with_reducible refine (forebaylaw08_Few.calls k _ _ l0 false _ ?side1 ?side2 A2.out).mono ?_); (case side1 => repeat (first | exact HR0.out | (with_reducible refine Kd.C_alloc ?_ _) | (with_reducible refine Kd.C_drewN ?_ _) | (with_reducible refine Kd.C_drew ?_))); (case side2 => exact HC0.out); rintro e w82 ⟨rfl, hb⟩; refine ⟨_, rfl, ?_⟩; have n0_ := Aside0.mk (below_step (by repeat (first | (with_reducible first | exact HB.out | apply below_alloc | apply pw_below_drewN | apply below_drew1) | exact HB.out)) hb); clear HB; have HB := n0_; clear n0_; (try clear hb); (try clear hb2); (try clear hk); (try clear hi)) | ((with_reducible refine gate_callee (f := 29) rfl ?_); refine goesL_ (some 20) rfl rfl Try.func29 (by kernel_rfl) rfl #[] rfl (by (try simp only [List.map_toArray, List.map_cons, List.map_nil]); first | done | rfl | (simp only [List.length_drop, List.length_take]; rfl)) ?_; (with_reducible refine (forebaylaw08_awake.calls k  t581 _ A81.out).mono ?_); rintro e w83 ⟨rfl, hb⟩; refine ⟨_, rfl, ?_⟩; have n0_ := Aside0.mk (below_step (by repeat (first | (with_reducible first | exact HB.out | apply below_alloc | apply pw_below_drewN | apply below_drew1) | exact HB.out)) hb); clear HB; have HB := n0_; clear n0_; (try clear hb); (try clear hb2); (try clear hk); (try clear hi)))
  go_ret
  exact ⟨by first | rfl | (simp [errW_none, errW_some] <;> rfl) | (simp [*, errW_none, errW_some] <;> rfl), by repeat (first | (with_reducible first | exact HB.out | apply below_alloc | apply pw_below_drewN | apply below_drew1) | exact HB.out)⟩
end Go.Proofs.Yteamldgngknmfaa.PE
