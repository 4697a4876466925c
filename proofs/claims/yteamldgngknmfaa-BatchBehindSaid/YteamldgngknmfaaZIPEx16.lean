-- Printed by the kit's print.py over contracts of this session's own.
import Derived.Test.YteamldgngknmfaaZIInjN
import Derived.Test.YteamldgngknmfaaZIPEx14
import Derived.Test.YteamldgngknmfaaZIPEx0
namespace Go.Proofs.Yteamldgngknmfaa.PE
open Go.RowKit Go.Proofs.YteamldgngknmfaaW.PrintWords Go.Proofs.YteamldgngknmfaaW.PrintLast Go.Proofs.YteamldgngknmfaaW.PrintMore
attribute [local go_sem] max2_int min2_int max_two min_two max_three min_three max_four min_four   -- for this text's walks alone
set_option linter.unusedVariables false
set_option linter.unusedSimpArgs false
/-! ### forebaylaw08_BatchBehind: function 10 -/
mutual
def forebaylaw08_BatchBehind.j0 : Nat → List (S25) → List (S25) → Bool → Option (Bool)
 | 0, _, _, _ => none
 | k + 1, x0, x1, x24 => if x24 = true then ((forebaylaw08_awake.f k).bind fun t128 => (some t128)) else ((some (([] : List (S25)) : List (S25))).bind fun y129 => (if y129.length + x0.length < 1599289640401 then ((some (y129 ++ x0 : List (S25))).bind fun y132 => (if y132.length + x1.length < 1599289640401 then ((some (y132 ++ x1 : List (S25))).bind fun y135 => ((batch_Normal.f x0).bind fun bt138 => ((batch_Normal.f x1).bind fun bt143 => ((batch_Normal.f y135).bind fun bt148 => ((batch_Names.f y135).bind fun t153 => ((batch_Names.f x0).bind fun t156 => (if (t153.length : Int) < (t156.length : Int) then (forebaylaw08_BatchBehind.j1 k x0 bt138.1 bt138.2.1 bt138.2.2 bt143.1 bt143.2.1 bt143.2.2 bt148.1 bt148.2.1 bt148.2.2 true) else (if 0 ≤ (t156.length : Int) then (if (t156.length : Int) ≤ (t153.length : Int) then ((forebaylaw08_texts.f k (t153.take ((t156.length : Int) : Int).toNat) t156).bind fun t164 => (forebaylaw08_BatchBehind.j1 k x0 bt138.1 bt138.2.1 bt138.2.2 bt143.1 bt143.2.1 bt143.2.2 bt148.1 bt148.2.1 bt148.2.2 (!t164))) else (none)) else (none))))))))) else (none))) else (none)))
def forebaylaw08_BatchBehind.j1 : Nat → List (S25) → List (S25) → Int → Int → List (S25) → Int → Int → List (S25) → Int → Int → Bool → Option (Bool)
 | 0, _, _, _, _, _, _, _, _, _, _, _ => none
 | k + 1, x0, x6, x7, x8, x9, x10, x11, x12, x13, x14, x66 => if x66 = true then (none) else (if x8 = 0 then (if x11 = 0 then (if x14 = 0 then (if x13 = 0 then ((some (([] : List (S25)) : List (S25))).bind fun y166 => (if y166.length + x6.length < 1599289640401 then ((some (y166 ++ x6 : List (S25))).bind fun y169 => (if y169.length + x9.length < 1599289640401 then ((batch_Equal.f x12 (y169 ++ x9)).bind fun t175 => (if t175 = true then ((forebaylaw08_awake.f k).bind fun t176 => (some t176)) else (none))) else (none))) else (none))) else (none)) else (none)) else (if x14 = x11 then (if x13 = (wrap64 (x10 + (x0.length : Int))) then (if (x12.length : Int) = 0 then ((forebaylaw08_awake.f k).bind fun t177 => (some t177)) else (none)) else (none)) else (none))) else (if x14 = x8 then (if x13 = x7 then (if (x12.length : Int) = 0 then ((forebaylaw08_awake.f k).bind fun t165 => (some t165)) else (none)) else (none)) else (none)))
end
def forebaylaw08_BatchBehind.f (k : Nat) (l0 : List (S25)) (l1 : List (S25)) : Option (Bool) := (forebaylaw08_Few.f k l0).bind fun t126 => (if t126 = true then ((forebaylaw08_Few.f k l1).bind fun t127 => (forebaylaw08_BatchBehind.j0 k l0 l1 (!t127))) else (forebaylaw08_BatchBehind.j0 k l0 l1 true))
set_option maxHeartbeats 8000000 in
set_option maxRecDepth 100000 in
theorem forebaylaw08_BatchBehind.calls (k : Nat) (P0_ : Nat → Prop) (A0 : Option Addr) (c0 : Nat) (l0 : List (S25)) (P1_ : Nat → Prop) (A1 : Option Addr) (c1 : Nat) (l1 : List (S25)) (r : Bool) (w : World) (hs0 : Kd.V k25 25 w w.heap.size (fun k_ => P0_ k_) (.slice A0 l0.length c0) l0) (hs1 : Kd.V k25 25 w w.heap.size (fun k_ => P1_ k_) (.slice A1 l1.length c1) l1) (h : forebaylaw08_BatchBehind.f k l0 l1 = some r) :
  Calls Try.prog 10 #[.slice A0 l0.length c0, .slice A1 l1.length c1] w fun e w' => e = .returned (.bool r) ∧ Below w.heap.size w w' := by
 have HO0 := Aside0.mk (show Kd.V k25 25 w w.heap.size (fun k_ => ((P0_ k_ ∨ P1_ k_) ∨ w.heap.size ≤ k_)) (.slice A0 l0.length c0) l0 from Kd.V_mono hs0 (fun k_ hk => .inl (.inl hk)))
 have HO1 := Aside0.mk (show Kd.V k25 25 w w.heap.size (fun k_ => ((P0_ k_ ∨ P1_ k_) ∨ w.heap.size ≤ k_)) (.slice A1 l1.length c1) l1 from Kd.V_mono hs1 (fun k_ hk => .inl (.inr hk)))
 have HB := Aside0.mk (Below.refl w.heap.size w)
 have H : ((forebaylaw08_Few.f k l0).bind fun t126 => (if t126 = true then ((forebaylaw08_Few.f k l1).bind fun t127 => (forebaylaw08_BatchBehind.j0 k l0 l1 (!t127))) else (forebaylaw08_BatchBehind.j0 k l0 l1 true))) = some r := h
 clear h
 have HC3 := Aside0.mk H
 clear H
 go_enter Try.func10, Try.ntmps10
 go_upto_region 1 with (fail)
 go_cut [24] (fun v24 wc => ∃ (kq : Nat) (x24_2 : Bool), v24 = .bool x24_2 ∧ Aside0 (forebaylaw08_BatchBehind.j0 kq l0 l1 x24_2 = some r) ∧ Aside0 (kq ≤ k) ∧ Aside0 (Kd.V k25 25 wc w.heap.size (fun k_ => ((P0_ k_ ∨ P1_ k_) ∨ w.heap.size ≤ k_)) (.slice A0 l0.length c0) l0) ∧ Aside0 (Kd.V k25 25 wc w.heap.size (fun k_ => ((P0_ k_ ∨ P1_ k_) ∨ w.heap.size ≤ k_)) (.slice A1 l1.length c1) l1) ∧ Aside0 (Below w.heap.size w wc))
 case first =>
  have H := HC3.out
  clear HC3
  replace H := Option.bind_eq_some_iff.mp H
  obtain ⟨t126, A40, H⟩ := H
  replace H : (if t126 = true then ((forebaylaw08_Few.f k l1).bind fun t127 => (forebaylaw08_BatchBehind.j0 k l0 l1 (!t127))) else (forebaylaw08_BatchBehind.j0 k l0 l1 true)) = some r := H
  have A4 := Aside0.mk A40
  clear A40
  by_cases c5 : t126 = true
  ·subst c5
   have H1 : ((forebaylaw08_Few.f k l1).bind fun t127 => (forebaylaw08_BatchBehind.j0 k l0 l1 (!t127))) = some r := by rw [if_pos rfl] at H; exact H
   clear H
   have H := H1
   clear H1
   replace H := Option.bind_eq_some_iff.mp H
   obtain ⟨t127, A60, H⟩ := H
   replace H : (forebaylaw08_BatchBehind.j0 k l0 l1 (!t127)) = some r := H
   have A6 := Aside0.mk A60
   clear A60
   have H' := Aside0.mk H
   clear H
   go_wp2_with (first | ((with_reducible refine gate_callee (f := 28) rfl ?_); refine goesL_ (some 18) rfl rfl Try.func28 (by kernel_rfl) rfl #[.slice A0 l0.length c0] rfl (by (try simp only [List.map_toArray, List.map_cons, List.map_nil]); first | done | rfl | (simp only [List.length_drop, List.length_take]; rfl)) ?_; (with_reducible refine (forebaylaw08_Few.calls k _ _ l0 true _ ?side1 ?side2 A4.out).mono ?_); (case side1 => repeat (first | exact (Kd.V_reads' HO0.out).2.2 | (with_reducible refine Kd.C_alloc ?_ _) | (with_reducible refine Kd.C_drewN ?_ _) | (with_reducible refine Kd.C_drew ?_))); (case side2 => exact (Kd.V_reads' HO0.out).2.1); rintro e w7 ⟨rfl, hb⟩; refine ⟨_, rfl, ?_⟩; have n0_ := Aside0.mk (Kd.V_below (by (with_reducible repeat (first | apply Kd.V_alloc | apply Kd.V_drewN | apply Kd.V_drew)); exact HO0.out) hb); have n1_ := Aside0.mk (Kd.V_below (by (with_reducible repeat (first | apply Kd.V_alloc | apply Kd.V_drewN | apply Kd.V_drew)); exact HO1.out) hb); have n2_ := Aside0.mk (below_step (by repeat (first | (with_reducible first | exact HB.out | apply below_alloc | apply pw_below_drewN | apply below_drew1) | exact HB.out)) hb); clear HO0; clear HO1; clear HB; have HO0 := n0_; have HO1 := n1_; have HB := n2_; clear n0_ n1_ n2_; (try clear hb); (try clear hb2); (try clear hk); (try clear hi)) | (go_at_call 28; (with_reducible refine (forebaylaw08_Few.calls k _ _ l1 t127 _ ?side1 ?side2 A6.out).mono ?_); (case side1 => repeat (first | exact (Kd.V_reads' HO1.out).2.2 | (with_reducible refine Kd.C_alloc ?_ _) | (with_reducible refine Kd.C_drewN ?_ _) | (with_reducible refine Kd.C_drew ?_))); (case side2 => exact (Kd.V_reads' HO1.out).2.1); rintro e w8 ⟨rfl, hb⟩; have n0_ := Aside0.mk (Kd.V_below (by (with_reducible repeat (first | apply Kd.V_alloc | apply Kd.V_drewN | apply Kd.V_drew)); exact HO0.out) hb); have n1_ := Aside0.mk (Kd.V_below (by (with_reducible repeat (first | apply Kd.V_alloc | apply Kd.V_drewN | apply Kd.V_drew)); exact HO1.out) hb); have n2_ := Aside0.mk (below_step (by repeat (first | (with_reducible first | exact HB.out | apply below_alloc | apply pw_below_drewN | apply below_drew1) | exact HB.out)) hb); clear HO0; clear HO1; clear HB; have HO0 := n0_; have HO1 := n1_; have HB := n2_; clear n0_ n1_ n2_; (try clear hb); (try clear hb2); (try clear hk); (try clear hi)))
   go_meet
   case rel => exact ⟨_, (!t127), (by first | rfl | (simp; done) | (simp [*]; done)), H', ⟨by first | omega | exact Nat.le_refl _⟩, ⟨by (with_reducible repeat (first | apply Kd.V_alloc | apply Kd.V_drewN | apply Kd.V_drew)); exact HO0.out⟩, ⟨by (with_reducible repeat (first | apply Kd.V_alloc | apply Kd.V_drewN | apply Kd.V_drew)); exact HO1.out⟩, ⟨by repeat (first | (with_reducible first | exact HB.out | apply below_alloc | apply pw_below_drewN | apply below_drew1) | exact HB.out)⟩⟩
  ·replace c5 := Bool.eq_false_iff.mpr c5
   subst c5
   have H1 : (forebaylaw08_BatchBehind.j0 k l0 l1 true) = some r := by rw [if_neg (show ¬ (false = true) by decide)] at H; exact H
   clear H
   have H := H1
   clear H1
   have H' := Aside0.mk H
   clear H
   go_wp2_with (first | ((with_reducible refine gate_callee (f := 28) rfl ?_); refine goesL_ (some 18) rfl rfl Try.func28 (by kernel_rfl) rfl #[.slice A0 l0.length c0] rfl (by (try simp only [List.map_toArray, List.map_cons, List.map_nil]); first | done | rfl | (simp only [List.length_drop, List.length_take]; rfl)) ?_; (with_reducible refine (forebaylaw08_Few.calls k _ _ l0 false _ ?side1 ?side2 A4.out).mono ?_); (case side1 => repeat (first | exact (Kd.V_reads' HO0.out).2.2 | (with_reducible refine Kd.C_alloc ?_ _) | (with_reducible refine Kd.C_drewN ?_ _) | (with_reducible refine Kd.C_drew ?_))); (case side2 => exact (Kd.V_reads' HO0.out).2.1); rintro e w9 ⟨rfl, hb⟩; refine ⟨_, rfl, ?_⟩; have n0_ := Aside0.mk (Kd.V_below (by (with_reducible repeat (first | apply Kd.V_alloc | apply Kd.V_drewN | apply Kd.V_drew)); exact HO0.out) hb); have n1_ := Aside0.mk (Kd.V_below (by (with_reducible repeat (first | apply Kd.V_alloc | apply Kd.V_drewN | apply Kd.V_drew)); exact HO1.out) hb); have n2_ := Aside0.mk (below_step (by repeat (first | (with_reducible first | exact HB.out | apply below_alloc | apply pw_below_drewN | apply below_drew1) | exact HB.out)) hb); clear HO0; clear HO1; clear HB; have HO0 := n0_; have HO1 := n1_; have HB := n2_; clear n0_ n1_ n2_; (try clear hb); (try clear hb2); (try clear hk); (try clear hi)))
   go_meet
   case rel => exact ⟨_, (true), (by first | rfl | (simp; done) | (simp [*]; done)), H', ⟨by first | omega | exact Nat.le_refl _⟩, ⟨by (with_reducible repeat (first | apply Kd.V_alloc | apply Kd.V_drewN | apply Kd.V_drew)); exact HO0.out⟩, ⟨by (with_reducible repeat (first | apply Kd.V_alloc | apply Kd.V_drewN | apply Kd.V_drew)); exact HO1.out⟩, ⟨by repeat (first | (with_reducible first | exact HB.out | apply below_alloc | apply pw_below_drewN | apply below_drew1) | exact HB.out)⟩⟩
 case rest =>
  clear HC3
  try clear c1
  try clear c2
  try clear p2
  try clear c5
  obtain ⟨kq, x24_2, rfl, HA, HJ2, HO_0, HO_1, HB⟩ := hcut
  cases kq with
  | zero => exact absurd HA.out (by simp [forebaylaw08_BatchBehind.j0])
  | succ kj2 =>
   have H := HA.out
   clear HA
   simp only [forebaylaw08_BatchBehind.j0] at H
   by_cases c10 : x24_2 = true
   ·subst c10
    have H1 : ((forebaylaw08_awake.f kj2).bind fun t128 => (some t128)) = some r := by rw [if_pos rfl] at H; exact H
    clear H
    have H := H1
    clear H1
    replace H := Option.bind_eq_some_iff.mp H
    obtain ⟨t128, A110, H⟩ := H
    replace H : (some t128) = some r := H
    have A11 := Aside0.mk A110
    clear A110
    obtain rfl := Option.some.inj H
    go_wp2_with (first | ((with_reducible refine gate_callee (f := 29) rfl ?_); refine goesL_ (some 25) rfl rfl Try.func29 (by kernel_rfl) rfl #[] rfl (by (try simp only [List.map_toArray, List.map_cons, List.map_nil]); first | done | rfl | (simp only [List.length_drop, List.length_take]; rfl)) ?_; (with_reducible refine (forebaylaw08_awake.calls kj2  t128 _ A11.out).mono ?_); rintro e w12 ⟨rfl, hb⟩; refine ⟨_, rfl, ?_⟩; have n0_ := Aside0.mk (Kd.V_below (by (with_reducible repeat (first | apply Kd.V_alloc | apply Kd.V_drewN | apply Kd.V_drew)); exact HO_0.out) hb); have n1_ := Aside0.mk (Kd.V_below (by (with_reducible repeat (first | apply Kd.V_alloc | apply Kd.V_drewN | apply Kd.V_drew)); exact HO_1.out) hb); have n2_ := Aside0.mk (below_step (by repeat (first | (with_reducible first | exact HB.out | apply below_alloc | apply pw_below_drewN | apply below_drew1) | exact HB.out)) hb); clear HO_0; clear HO_1; clear HB; have HO_0 := n0_; have HO_1 := n1_; have HB := n2_; clear n0_ n1_ n2_; (try clear hb); (try clear hb2); (try clear hk); (try clear hi)))
    go_ret
    exact ⟨by first | rfl | (simp [errW_none, errW_some] <;> rfl) | (simp [*, errW_none, errW_some] <;> rfl), by repeat (first | (with_reducible first | exact HB.out | apply below_alloc | apply pw_below_drewN | apply below_drew1) | exact HB.out)⟩
   ·replace c10 := Bool.eq_false_iff.mpr c10
    subst c10
    have H1 : ((some (([] : List (S25)) : List (S25))).bind fun y129 => (if y129.length + l0.length < 1599289640401 then ((some (y129 ++ l0 : List (S25))).bind fun y132 => (if y132.length + l1.length < 1599289640401 then ((some (y132 ++ l1 : List (S25))).bind fun y135 => ((batch_Normal.f l0).bind fun bt138 => ((batch_Normal.f l1).bind fun bt143 => ((batch_Normal.f y135).bind fun bt148 => ((batch_Names.f y135).bind fun t153 => ((batch_Names.f l0).bind fun t156 => (if (t153.length : Int) < (t156.length : Int) then (forebaylaw08_BatchBehind.j1 kj2 l0 bt138.1 bt138.2.1 bt138.2.2 bt143.1 bt143.2.1 bt143.2.2 bt148.1 bt148.2.1 bt148.2.2 true) else (if 0 ≤ (t156.length : Int) then (if (t156.length : Int) ≤ (t153.length : Int) then ((forebaylaw08_texts.f kj2 (t153.take ((t156.length : Int) : Int).toNat) t156).bind fun t164 => (forebaylaw08_BatchBehind.j1 kj2 l0 bt138.1 bt138.2.1 bt138.2.2 bt143.1 bt143.2.1 bt143.2.2 bt148.1 bt148.2.1 bt148.2.2 (!t164))) else (none)) else (none))))))))) else (none))) else (none))) = some r := by rw [if_neg (show ¬ (false = true) by decide)] at H; exact H
    clear H
    have H := H1
    clear H1
    obtain ⟨y129, hy129⟩ : ∃ y_ : List (S25), y_ = (([] : List (S25))) := ⟨_, rfl⟩
    replace H : (if y129.length + l0.length < 1599289640401 then ((some (y129 ++ l0 : List (S25))).bind fun y132 => (if y132.length + l1.length < 1599289640401 then ((some (y132 ++ l1 : List (S25))).bind fun y135 => ((batch_Normal.f l0).bind fun bt138 => ((batch_Normal.f l1).bind fun bt143 => ((batch_Normal.f y135).bind fun bt148 => ((batch_Names.f y135).bind fun t153 => ((batch_Names.f l0).bind fun t156 => (if (t153.length : Int) < (t156.length : Int) then (forebaylaw08_BatchBehind.j1 kj2 l0 bt138.1 bt138.2.1 bt138.2.2 bt143.1 bt143.2.1 bt143.2.2 bt148.1 bt148.2.1 bt148.2.2 true) else (if 0 ≤ (t156.length : Int) then (if (t156.length : Int) ≤ (t153.length : Int) then ((forebaylaw08_texts.f kj2 (t153.take ((t156.length : Int) : Int).toNat) t156).bind fun t164 => (forebaylaw08_BatchBehind.j1 kj2 l0 bt138.1 bt138.2.1 bt138.2.2 bt143.1 bt143.2.1 bt143.2.2 bt148.1 bt148.2.1 bt148.2.2 (!t164))) else (none)) else (none))))))))) else (none))) else (none)) = some r := by first | (rw [hy129]; with_reducible exact H) | (have H2_ := (Option.bind_some _ _).symm.trans H; rw [hy129]; with_reducible exact H2_) | (have H2_ := (Option.bind_some _ _).symm.trans H; with_reducible exact H2_) | with_reducible exact H | (rw [hy129]; exact H) | exact H
    have Ny129 := Aside0.mk hy129
    clear hy129
    by_cases c13 : y129.length + l0.length < 1599289640401
    ·rw [if_pos c13] at H
     have LMc13 := Aside0.mk c13
     clear c13
     obtain ⟨y132, hy132⟩ : ∃ y_ : List (S25), y_ = (y129 ++ l0) := ⟨_, rfl⟩
     replace H : (if y132.length + l1.length < 1599289640401 then ((some (y132 ++ l1 : List (S25))).bind fun y135 => ((batch_Normal.f l0).bind fun bt138 => ((batch_Normal.f l1).bind fun bt143 => ((batch_Normal.f y135).bind fun bt148 => ((batch_Names.f y135).bind fun t153 => ((batch_Names.f l0).bind fun t156 => (if (t153.length : Int) < (t156.length : Int) then (forebaylaw08_BatchBehind.j1 kj2 l0 bt138.1 bt138.2.1 bt138.2.2 bt143.1 bt143.2.1 bt143.2.2 bt148.1 bt148.2.1 bt148.2.2 true) else (if 0 ≤ (t156.length : Int) then (if (t156.length : Int) ≤ (t153.length : Int) then ((forebaylaw08_texts.f kj2 (t153.take ((t156.length : Int) : Int).toNat) t156).bind fun t164 => (forebaylaw08_BatchBehind.j1 kj2 l0 bt138.1 bt138.2.1 bt138.2.2 bt143.1 bt143.2.1 bt143.2.2 bt148.1 bt148.2.1 bt148.2.2 (!t164))) else (none)) else (none))))))))) else (none)) = some r := by first | (rw [hy132]; with_reducible exact H) | (have H2_ := (Option.bind_some _ _).symm.trans H; rw [hy132]; with_reducible exact H2_) | (have H2_ := (Option.bind_some _ _).symm.trans H; with_reducible exact H2_) | with_reducible exact H | (rw [hy132]; exact H) | exact H
     have Ny132 := Aside0.mk hy132
     clear hy132
     by_cases c14 : y132.length + l1.length < 1599289640401
     ·rw [if_pos c14] at H
      have LMc14 := Aside0.mk c14
      clear c14
      obtain ⟨y135, hy135⟩ : ∃ y_ : List (S25), y_ = (y132 ++ l1) := ⟨_, rfl⟩
      replace H : ((batch_Normal.f l0).bind fun bt138 => ((batch_Normal.f l1).bind fun bt143 => ((batch_Normal.f y135).bind fun bt148 => ((batch_Names.f y135).bind fun t153 => ((batch_Names.f l0).bind fun t156 => (if (t153.length : Int) < (t156.length : Int) then (forebaylaw08_BatchBehind.j1 kj2 l0 bt138.1 bt138.2.1 bt138.2.2 bt143.1 bt143.2.1 bt143.2.2 bt148.1 bt148.2.1 bt148.2.2 true) else (if 0 ≤ (t156.length : Int) then (if (t156.length : Int) ≤ (t153.length : Int) then ((forebaylaw08_texts.f kj2 (t153.take ((t156.length : Int) : Int).toNat) t156).bind fun t164 => (forebaylaw08_BatchBehind.j1 kj2 l0 bt138.1 bt138.2.1 bt138.2.2 bt143.1 bt143.2.1 bt143.2.2 bt148.1 bt148.2.1 bt148.2.2 (!t164))) else (none)) else (none)))))))) = some r := by first | (rw [hy135]; with_reducible exact H) | (have H2_ := (Option.bind_some _ _).symm.trans H; rw [hy135]; with_reducible exact H2_) | (have H2_ := (Option.bind_some _ _).symm.trans H; with_reducible exact H2_) | with_reducible exact H | (rw [hy135]; exact H) | exact H
      have Ny135 := Aside0.mk hy135
      clear hy135
      replace H := Option.bind_eq_some_iff.mp H
      obtain ⟨⟨t138, t141, t142⟩, A150, H⟩ := H
      replace H : ((batch_Normal.f l1).bind fun bt143 => ((batch_Normal.f y135).bind fun bt148 => ((batch_Names.f y135).bind fun t153 => ((batch_Names.f l0).bind fun t156 => (if (t153.length : Int) < (t156.length : Int) then (forebaylaw08_BatchBehind.j1 kj2 l0 t138 t141 t142 bt143.1 bt143.2.1 bt143.2.2 bt148.1 bt148.2.1 bt148.2.2 true) else (if 0 ≤ (t156.length : Int) then (if (t156.length : Int) ≤ (t153.length : Int) then ((forebaylaw08_texts.f kj2 (t153.take ((t156.length : Int) : Int).toNat) t156).bind fun t164 => (forebaylaw08_BatchBehind.j1 kj2 l0 t138 t141 t142 bt143.1 bt143.2.1 bt143.2.2 bt148.1 bt148.2.1 bt148.2.2 (!t164))) else (none)) else (none))))))) = some r := H
      have A15 := Aside0.mk A150
      clear A150
      replace H := Option.bind_eq_some_iff.mp H
      obtain ⟨⟨t143, t146, t147⟩, A160, H⟩ := H
      replace H : ((batch_Normal.f y135).bind fun bt148 => ((batch_Names.f y135).bind fun t153 => ((batch_Names.f l0).bind fun t156 => (if (t153.length : Int) < (t156.length : Int) then (forebaylaw08_BatchBehind.j1 kj2 l0 t138 t141 t142 t143 t146 t147 bt148.1 bt148.2.1 bt148.2.2 true) else (if 0 ≤ (t156.length : Int) then (if (t156.length : Int) ≤ (t153.length : Int) then ((forebaylaw08_texts.f kj2 (t153.take ((t156.length : Int) : Int).toNat) t156).bind fun t164 => (forebaylaw08_BatchBehind.j1 kj2 l0 t138 t141 t142 t143 t146 t147 bt148.1 bt148.2.1 bt148.2.2 (!t164))) else (none)) else (none)))))) = some r := H
      have A16 := Aside0.mk A160
      clear A160
      replace H := Option.bind_eq_some_iff.mp H
      obtain ⟨⟨t148, t151, t152⟩, A170, H⟩ := H
      replace H : ((batch_Names.f y135).bind fun t153 => ((batch_Names.f l0).bind fun t156 => (if (t153.length : Int) < (t156.length : Int) then (forebaylaw08_BatchBehind.j1 kj2 l0 t138 t141 t142 t143 t146 t147 t148 t151 t152 true) else (if 0 ≤ (t156.length : Int) then (if (t156.length : Int) ≤ (t153.length : Int) then ((forebaylaw08_texts.f kj2 (t153.take ((t156.length : Int) : Int).toNat) t156).bind fun t164 => (forebaylaw08_BatchBehind.j1 kj2 l0 t138 t141 t142 t143 t146 t147 t148 t151 t152 (!t164))) else (none)) else (none))))) = some r := H
      have A17 := Aside0.mk A170
      clear A170
      replace H := Option.bind_eq_some_iff.mp H
      obtain ⟨t153, A180, H⟩ := H
      replace H : ((batch_Names.f l0).bind fun t156 => (if (t153.length : Int) < (t156.length : Int) then (forebaylaw08_BatchBehind.j1 kj2 l0 t138 t141 t142 t143 t146 t147 t148 t151 t152 true) else (if 0 ≤ (t156.length : Int) then (if (t156.length : Int) ≤ (t153.length : Int) then ((forebaylaw08_texts.f kj2 (t153.take ((t156.length : Int) : Int).toNat) t156).bind fun t164 => (forebaylaw08_BatchBehind.j1 kj2 l0 t138 t141 t142 t143 t146 t147 t148 t151 t152 (!t164))) else (none)) else (none)))) = some r := H
      have A18 := Aside0.mk A180
      clear A180
      replace H := Option.bind_eq_some_iff.mp H
      obtain ⟨t156, A190, H⟩ := H
      replace H : (if (t153.length : Int) < (t156.length : Int) then (forebaylaw08_BatchBehind.j1 kj2 l0 t138 t141 t142 t143 t146 t147 t148 t151 t152 true) else (if 0 ≤ (t156.length : Int) then (if (t156.length : Int) ≤ (t153.length : Int) then ((forebaylaw08_texts.f kj2 (t153.take ((t156.length : Int) : Int).toNat) t156).bind fun t164 => (forebaylaw08_BatchBehind.j1 kj2 l0 t138 t141 t142 t143 t146 t147 t148 t151 t152 (!t164))) else (none)) else (none))) = some r := H
      have A19 := Aside0.mk A190
      clear A190
      have HC20 := Aside0.mk H
      clear H
      go_upto_region 9 with (first | ((with_reducible refine gate_dst (N := 26) rfl ?_); (try (refine gate_guard (by rfl) ?_; dsimp only)); refine Kd.N_lit k25 _ 25 ?hg (N' := 26) ?hd (xs := ([] : List (S25))) (inner := []) (ok := (fun k_ => ((P0_ k_ ∨ P1_ k_) ∨ w.heap.size ≤ k_))) (okp := (fun k_ => ((P0_ k_ ∨ P1_ k_) ∨ w.heap.size ≤ k_))) ?hr ?hp (fun _ hk => hk) ((show ∀ k_, wc.heap.size ≤ k_ → (fun k_ => ((P0_ k_ ∨ P1_ k_) ∨ w.heap.size ≤ k_)) k_ from fun k_ hk => (.inr (Nat.le_trans (below_size (by repeat (first | (with_reducible first | exact HB.out | apply below_alloc | apply pw_below_drewN | apply below_drew1) | exact HB.out))) hk))) _ (Nat.le_refl _)) (Below.refl _ _) (Nat.le_refl _) (by simp) ?_; (case hd => rfl); (case hg => rfl); (case hr => first | (go_simp; done) | (go_simp; rfl)); (case hp => exact (Reps.none _ _)); intro v130 w21 ho22 hb hg_ hnew_; clear hg_ hnew_; (first | rw [← Ny129.out] at ho22 | (simp only [Int.reduceToNat] at ho22; rw [← Ny129.out] at ho22)); have n0_ := Aside0.mk (Kd.V_elder' (by (with_reducible repeat (first | apply Kd.V_alloc | apply Kd.V_drewN | apply Kd.V_drew)); exact HO_0.out) (Kd.N_base ho22) hb); have n1_ := Aside0.mk (Kd.V_elder' (by (with_reducible repeat (first | apply Kd.V_alloc | apply Kd.V_drewN | apply Kd.V_drew)); exact HO_1.out) (Kd.N_base ho22) hb); have n2_ := Aside0.mk (Kd.N_lower ho22 (below_size (by repeat (first | (with_reducible first | exact HB.out | apply below_alloc | apply pw_below_drewN | apply below_drew1) | exact HB.out)))); have n3_ := Aside0.mk (below_step (by repeat (first | (with_reducible first | exact HB.out | apply below_alloc | apply pw_below_drewN | apply below_drew1) | exact HB.out)) hb); clear HO_0; clear HO_1; clear HB; have HO_0 := n0_; have HO_1 := n1_; have HO131 := n2_; have HB := n3_; clear n0_ n1_ n2_ n3_; clear hb ho22) | ((with_reducible refine gate_builtin (b := .append) (xs := #[.tmp 26, .tmp 27]) rfl ?_); (try (refine gate_guard (by rfl) ?_; dsimp only)); at_builtin; refine Kd.N_append_rows k25 (w0 := w) w.heap.size rfl (.tmp 26) (.tmp 27) 42 25 (.agg #[(.string ⟨#[]⟩), (.int .i64 0), (.slice none 0 0), (.int .i64 0), (.slice none 0 0), (.int .i64 0)]) 88 rfl Try.underlying42 info25 rfl (by decide) (by omega) v130 y129 l0 _ _ _ (fun k_ => ((P0_ k_ ∨ P1_ k_) ∨ w.heap.size ≤ k_)) (fun k_ => ((fun k_ => ((P0_ k_ ∨ P1_ k_) ∨ w.heap.size ≤ k_))) k_ ∧ some k_ ≠ (v130 : Value).ownBlock) rfl rfl ?aO ?aR (fun _ hk => hk) ?aF ?aB ?aS ?aL ?_; (case aR => exact (by skip; exact Kd.V_F (Kd.V_mono (ok' := (fun k_ => ((fun k_ => ((P0_ k_ ∨ P1_ k_) ∨ w.heap.size ≤ k_))) k_ ∧ some k_ ≠ (v130 : Value).ownBlock)) (HO_0.out) (fun k_ hk => ⟨hk.1, hk.2⟩)))); (case aB => exact (by repeat (first | (with_reducible first | exact HB.out | apply below_alloc | apply pw_below_drewN | apply below_drew1) | exact HB.out))); (case aF => exact (fun k_ hk => (.inr (Nat.le_trans (below_size (by repeat (first | (with_reducible first | exact HB.out | apply below_alloc | apply pw_below_drewN | apply below_drew1) | exact HB.out))) hk)))); (case aO => exact (by (with_reducible repeat (first | apply Kd.N_alloc | apply Kd.N_drewN | apply Kd.N_drew)); exact HO131.out)); (case aS => exact (below_size (by repeat (first | (with_reducible first | exact HB.out | apply below_alloc | apply pw_below_drewN | apply below_drew1) | exact HB.out)))); (case aL => have := LMc13.out; omega); intro v133 w23 ho hb hg hat; rw [← Ny132.out] at ho; have n0_ := Aside0.mk (Kd.V_afterv (ok := (fun k_ => ((P0_ k_ ∨ P1_ k_) ∨ w.heap.size ≤ k_))) (by (with_reducible repeat (first | apply Kd.V_alloc | apply Kd.V_drewN | apply Kd.V_drew)); exact HO_0.out) hg hat); have n1_ := Aside0.mk (Kd.V_afterv (ok := (fun k_ => ((P0_ k_ ∨ P1_ k_) ∨ w.heap.size ≤ k_))) (by (with_reducible repeat (first | apply Kd.V_alloc | apply Kd.V_drewN | apply Kd.V_drew)); exact HO_1.out) hg hat); have n2_ := Aside0.mk (hb); have n3_ := Aside0.mk (ho); clear HO_0; clear HO_1; clear HB; clear HO131; have HO_0 := n0_; have HO_1 := n1_; have HB := n2_; have HO134 := n3_; clear n0_ n1_ n2_ n3_; clear ho hb hg hat) | ((with_reducible refine gate_builtin (b := .append) (xs := #[.tmp 28, .tmp 29]) rfl ?_); (try (refine gate_guard (by rfl) ?_; dsimp only)); at_builtin; refine Kd.N_append_rows k25 (w0 := w) w.heap.size rfl (.tmp 28) (.tmp 29) 42 25 (.agg #[(.string ⟨#[]⟩), (.int .i64 0), (.slice none 0 0), (.int .i64 0), (.slice none 0 0), (.int .i64 0)]) 88 rfl Try.underlying42 info25 rfl (by decide) (by omega) v133 y132 l1 _ _ _ (fun k_ => ((P0_ k_ ∨ P1_ k_) ∨ w.heap.size ≤ k_)) (fun k_ => ((fun k_ => ((P0_ k_ ∨ P1_ k_) ∨ w.heap.size ≤ k_))) k_ ∧ some k_ ≠ (v133 : Value).ownBlock) rfl rfl ?aO ?aR (fun _ hk => hk) ?aF ?aB ?aS ?aL ?_; (case aR => exact (by skip; exact Kd.V_F (Kd.V_mono (ok' := (fun k_ => ((fun k_ => ((P0_ k_ ∨ P1_ k_) ∨ w.heap.size ≤ k_))) k_ ∧ some k_ ≠ (v133 : Value).ownBlock)) (HO_1.out) (fun k_ hk => ⟨hk.1, hk.2⟩)))); (case aB => exact (by repeat (first | (with_reducible first | exact HB.out | apply below_alloc | apply pw_below_drewN | apply below_drew1) | exact HB.out))); (case aF => exact (fun k_ hk => (.inr (Nat.le_trans (below_size (by repeat (first | (with_reducible first | exact HB.out | apply below_alloc | apply pw_below_drewN | apply below_drew1) | exact HB.out))) hk)))); (case aO => exact (by (with_reducible repeat (first | apply Kd.N_alloc | apply Kd.N_drewN | apply Kd.N_drew)); exact HO134.out)); (case aS => exact (below_size (by repeat (first | (with_reducible first | exact HB.out | apply below_alloc | apply pw_below_drewN | apply below_drew1) | exact HB.out)))); (case aL => have := LMc14.out; omega); intro v136 w24 ho hb hg hat; rw [← Ny135.out] at ho; have n0_ := Aside0.mk (Kd.V_afterv (ok := (fun k_ => ((P0_ k_ ∨ P1_ k_) ∨ w.heap.size ≤ k_))) (by (with_reducible repeat (first | apply Kd.V_alloc | apply Kd.V_drewN | apply Kd.V_drew)); exact HO_0.out) hg hat); have n1_ := Aside0.mk (Kd.V_afterv (ok := (fun k_ => ((P0_ k_ ∨ P1_ k_) ∨ w.heap.size ≤ k_))) (by (with_reducible repeat (first | apply Kd.V_alloc | apply Kd.V_drewN | apply Kd.V_drew)); exact HO_1.out) hg hat); have n2_ := Aside0.mk (hb); have n3_ := Aside0.mk (ho); clear HO_0; clear HO_1; clear HB; clear HO134; have HO_0 := n0_; have HO_1 := n1_; have HB := n2_; have HO137 := n3_; clear n0_ n1_ n2_ n3_; clear ho hb hg hat) | ((with_reducible refine gate_callee (f := 32) rfl ?_); refine goesL_ (some 33) rfl rfl Try.func32 (by kernel_rfl) rfl #[.slice A0 l0.length c0] rfl (by (try simp only [List.map_toArray, List.map_cons, List.map_nil]); first | done | rfl | (simp only [List.length_drop, List.length_take]; rfl)) ?_; (with_reducible refine (batch_Normal.calls _ _ l0 t138 t141 t142 _ ?side1 ?side2 A15.out).mono ?_); (case side1 => repeat (first | exact (Kd.V_reads' HO_0.out).2.2 | (with_reducible refine Kd.C_alloc ?_ _) | (with_reducible refine Kd.C_drewN ?_ _) | (with_reducible refine Kd.C_drew ?_))); (case side2 => exact (Kd.V_reads' HO_0.out).2.1); rintro e w25 ⟨v139, rfl, ho0, hb⟩; refine ⟨_, rfl, ?_⟩; have n0_ := Aside0.mk (Kd.V_elder' (by (with_reducible repeat (first | apply Kd.V_alloc | apply Kd.V_drewN | apply Kd.V_drew)); exact HO_0.out) (Kd.N_base ho0) hb); have n1_ := Aside0.mk (Kd.V_elder' (by (with_reducible repeat (first | apply Kd.V_alloc | apply Kd.V_drewN | apply Kd.V_drew)); exact HO_1.out) (Kd.N_base ho0) hb); have n2_ := Aside0.mk (Kd.N_elder' (by (with_reducible repeat (first | apply Kd.N_alloc | apply Kd.N_drewN | apply Kd.N_drew)); exact HO137.out) (Kd.N_base ho0) hb); have n3_ := Aside0.mk (Kd.N_lower (Kd.N_mono (ok' := fun k_ => ((P0_ k_ ∨ P1_ k_) ∨ w.heap.size ≤ k_) ∧ some k_ ≠ (v136 : Value).ownBlock) ho0 (fun k_ hk_ => ⟨(.inr (Nat.le_trans (below_size (by repeat (first | (with_reducible first | exact HB.out | apply below_alloc | apply pw_below_drewN | apply below_drew1) | exact HB.out))) hk_)), (Kd.fresh' (Kd.N_lt (by (with_reducible repeat (first | apply Kd.N_alloc | apply Kd.N_drewN | apply Kd.N_drew)); exact HO137.out)) k_ hk_)⟩)) (below_size (by repeat (first | (with_reducible first | exact HB.out | apply below_alloc | apply pw_below_drewN | apply below_drew1) | exact HB.out)))); have n4_ := Aside0.mk (below_step (by repeat (first | (with_reducible first | exact HB.out | apply below_alloc | apply pw_below_drewN | apply below_drew1) | exact HB.out)) hb); clear HO_0; clear HO_1; clear HO137; clear HB; have HO_0 := n0_; have HO_1 := n1_; have HO137 := n2_; have HO140 := n3_; have HB := n4_; clear n0_ n1_ n2_ n3_ n4_; (try clear hb); (try clear hb2); (try clear hk); (try clear hi); (try clear ho0)) | ((with_reducible refine gate_callee (f := 32) rfl ?_); refine goesL_ (some 39) rfl rfl Try.func32 (by kernel_rfl) rfl #[.slice A1 l1.length c1] rfl (by (try simp only [List.map_toArray, List.map_cons, List.map_nil]); first | done | rfl | (simp only [List.length_drop, List.length_take]; rfl)) ?_; (with_reducible refine (batch_Normal.calls _ _ l1 t143 t146 t147 _ ?side1 ?side2 A16.out).mono ?_); (case side1 => repeat (first | exact (Kd.V_reads' HO_1.out).2.2 | (with_reducible refine Kd.C_alloc ?_ _) | (with_reducible refine Kd.C_drewN ?_ _) | (with_reducible refine Kd.C_drew ?_))); (case side2 => exact (Kd.V_reads' HO_1.out).2.1); rintro e w26 ⟨v144, rfl, ho0, hb⟩; refine ⟨_, rfl, ?_⟩; have n0_ := Aside0.mk (Kd.V_elder' (by (with_reducible repeat (first | apply Kd.V_alloc | apply Kd.V_drewN | apply Kd.V_drew)); exact HO_0.out) (Kd.N_base ho0) hb); have n1_ := Aside0.mk (Kd.V_elder' (by (with_reducible repeat (first | apply Kd.V_alloc | apply Kd.V_drewN | apply Kd.V_drew)); exact HO_1.out) (Kd.N_base ho0) hb); have n2_ := Aside0.mk (Kd.N_elder' (by (with_reducible repeat (first | apply Kd.N_alloc | apply Kd.N_drewN | apply Kd.N_drew)); exact HO137.out) (Kd.N_base ho0) hb); have n3_ := Aside0.mk (Kd.N_elder' (by (with_reducible repeat (first | apply Kd.N_alloc | apply Kd.N_drewN | apply Kd.N_drew)); exact HO140.out) (Kd.N_base ho0) hb); have n4_ := Aside0.mk (Kd.N_lower (Kd.N_mono (ok' := fun k_ => ((P0_ k_ ∨ P1_ k_) ∨ w.heap.size ≤ k_) ∧ some k_ ≠ (v136 : Value).ownBlock ∧ some k_ ≠ (v139 : Value).ownBlock) ho0 (fun k_ hk_ => ⟨(.inr (Nat.le_trans (below_size (by repeat (first | (with_reducible first | exact HB.out | apply below_alloc | apply pw_below_drewN | apply below_drew1) | exact HB.out))) hk_)), (Kd.fresh' (Kd.N_lt (by (with_reducible repeat (first | apply Kd.N_alloc | apply Kd.N_drewN | apply Kd.N_drew)); exact HO137.out)) k_ hk_), (Kd.fresh' (Kd.N_lt (by (with_reducible repeat (first | apply Kd.N_alloc | apply Kd.N_drewN | apply Kd.N_drew)); exact HO140.out)) k_ hk_)⟩)) (below_size (by repeat (first | (with_reducible first | exact HB.out | apply below_alloc | apply pw_below_drewN | apply below_drew1) | exact HB.out)))); have n5_ := Aside0.mk (below_step (by repeat (first | (with_reducible first | exact HB.out | apply below_alloc | apply pw_below_drewN | apply below_drew1) | exact HB.out)) hb); clear HO_0; clear HO_1; clear HO137; clear HO140; clear HB; have HO_0 := n0_; have HO_1 := n1_; have HO137 := n2_; have HO140 := n3_; have HO145 := n4_; have HB := n5_; clear n0_ n1_ n2_ n3_ n4_ n5_; (try clear hb); (try clear hb2); (try clear hk); (try clear hi); (try clear ho0); obtain ⟨Ao27, co27, eo27⟩ := Kd.N_slice HO137.out; subst eo27) | ((with_reducible refine gate_callee (f := 32) rfl ?_); refine goesL_ (some 45) rfl rfl Try.func32 (by kernel_rfl) rfl #[.slice Ao27 y135.length co27] rfl (by (try simp only [List.map_toArray, List.map_cons, List.map_nil]); first | done | rfl | (simp only [List.length_drop, List.length_take]; rfl)) ?_; (with_reducible refine (batch_Normal.calls _ _ y135 t148 t151 t152 _ ?side1 ?side2 A17.out).mono ?_); (case side1 => repeat (first | exact (Kd.N_reads' HO137.out).2.2 | (with_reducible refine Kd.C_alloc ?_ _) | (with_reducible refine Kd.C_drewN ?_ _) | (with_reducible refine Kd.C_drew ?_))); (case side2 => exact (Kd.N_reads' HO137.out).2.1); rintro e w28 ⟨v149, rfl, ho0, hb⟩; refine ⟨_, rfl, ?_⟩; have n0_ := Aside0.mk (Kd.V_elder' (by (with_reducible repeat (first | apply Kd.V_alloc | apply Kd.V_drewN | apply Kd.V_drew)); exact HO_0.out) (Kd.N_base ho0) hb); have n1_ := Aside0.mk (Kd.V_elder' (by (with_reducible repeat (first | apply Kd.V_alloc | apply Kd.V_drewN | apply Kd.V_drew)); exact HO_1.out) (Kd.N_base ho0) hb); have n2_ := Aside0.mk (Kd.N_elder' (by (with_reducible repeat (first | apply Kd.N_alloc | apply Kd.N_drewN | apply Kd.N_drew)); exact HO137.out) (Kd.N_base ho0) hb); have n3_ := Aside0.mk (Kd.N_elder' (by (with_reducible repeat (first | apply Kd.N_alloc | apply Kd.N_drewN | apply Kd.N_drew)); exact HO140.out) (Kd.N_base ho0) hb); have n4_ := Aside0.mk (Kd.N_elder' (by (with_reducible repeat (first | apply Kd.N_alloc | apply Kd.N_drewN | apply Kd.N_drew)); exact HO145.out) (Kd.N_base ho0) hb); have n5_ := Aside0.mk (Kd.N_lower (Kd.N_mono (ok' := fun k_ => ((P0_ k_ ∨ P1_ k_) ∨ w.heap.size ≤ k_) ∧ some k_ ≠ (.slice Ao27 y135.length co27 : Value).ownBlock ∧ some k_ ≠ (v139 : Value).ownBlock ∧ some k_ ≠ (v144 : Value).ownBlock) ho0 (fun k_ hk_ => ⟨(.inr (Nat.le_trans (below_size (by repeat (first | (with_reducible first | exact HB.out | apply below_alloc | apply pw_below_drewN | apply below_drew1) | exact HB.out))) hk_)), (Kd.fresh' (Kd.N_lt (by (with_reducible repeat (first | apply Kd.N_alloc | apply Kd.N_drewN | apply Kd.N_drew)); exact HO137.out)) k_ hk_), (Kd.fresh' (Kd.N_lt (by (with_reducible repeat (first | apply Kd.N_alloc | apply Kd.N_drewN | apply Kd.N_drew)); exact HO140.out)) k_ hk_), (Kd.fresh' (Kd.N_lt (by (with_reducible repeat (first | apply Kd.N_alloc | apply Kd.N_drewN | apply Kd.N_drew)); exact HO145.out)) k_ hk_)⟩)) (below_size (by repeat (first | (with_reducible first | exact HB.out | apply below_alloc | apply pw_below_drewN | apply below_drew1) | exact HB.out)))); have n6_ := Aside0.mk (below_step (by repeat (first | (with_reducible first | exact HB.out | apply below_alloc | apply pw_below_drewN | apply below_drew1) | exact HB.out)) hb); clear HO_0; clear HO_1; clear HO137; clear HO140; clear HO145; clear HB; have HO_0 := n0_; have HO_1 := n1_; have HO137 := n2_; have HO140 := n3_; have HO145 := n4_; have HO150 := n5_; have HB := n6_; clear n0_ n1_ n2_ n3_ n4_ n5_ n6_; (try clear hb); (try clear hb2); (try clear hk); (try clear hi); (try clear ho0)) | ((with_reducible refine gate_callee (f := 35) rfl ?_); refine goesL_ (some 50) rfl rfl Try.func35 (by kernel_rfl) rfl #[.slice Ao27 y135.length co27] rfl (by (try simp only [List.map_toArray, List.map_cons, List.map_nil]); first | done | rfl | (simp only [List.length_drop, List.length_take]; rfl)) ?_; (with_reducible refine (batch_Names.calls _ _ y135 t153 _ ?side1 ?side2 A18.out).mono ?_); (case side1 => repeat (first | exact (Kd.N_reads' HO137.out).2.2 | (with_reducible refine Kd.C_alloc ?_ _) | (with_reducible refine Kd.C_drewN ?_ _) | (with_reducible refine Kd.C_drew ?_))); (case side2 => exact (Kd.N_reads' HO137.out).2.1); rintro e w29 ⟨v154, rfl, ho0, hb⟩; refine ⟨_, rfl, ?_⟩; have n0_ := Aside0.mk (Kd.V_elder' (by (with_reducible repeat (first | apply Kd.V_alloc | apply Kd.V_drewN | apply Kd.V_drew)); exact HO_0.out) (Kd.R_base ho0) hb); have n1_ := Aside0.mk (Kd.V_elder' (by (with_reducible repeat (first | apply Kd.V_alloc | apply Kd.V_drewN | apply Kd.V_drew)); exact HO_1.out) (Kd.R_base ho0) hb); have n2_ := Aside0.mk (Kd.N_elder' (by (with_reducible repeat (first | apply Kd.N_alloc | apply Kd.N_drewN | apply Kd.N_drew)); exact HO137.out) (Kd.R_base ho0) hb); have n3_ := Aside0.mk (Kd.N_elder' (by (with_reducible repeat (first | apply Kd.N_alloc | apply Kd.N_drewN | apply Kd.N_drew)); exact HO140.out) (Kd.R_base ho0) hb); have n4_ := Aside0.mk (Kd.N_elder' (by (with_reducible repeat (first | apply Kd.N_alloc | apply Kd.N_drewN | apply Kd.N_drew)); exact HO145.out) (Kd.R_base ho0) hb); have n5_ := Aside0.mk (Kd.N_elder' (by (with_reducible repeat (first | apply Kd.N_alloc | apply Kd.N_drewN | apply Kd.N_drew)); exact HO150.out) (Kd.R_base ho0) hb); have n6_ := Aside0.mk (Kd.R_lower (Kd.R_newM (M := fun k_ => (w.heap.size ≤ k_)) ho0 (below_size (by repeat (first | (with_reducible first | exact HB.out | apply below_alloc | apply pw_below_drewN | apply below_drew1) | exact HB.out))) (fun k_ h_ => h_)) (below_size (by repeat (first | (with_reducible first | exact HB.out | apply below_alloc | apply pw_below_drewN | apply below_drew1) | exact HB.out)))); have n7_ := Aside0.mk (below_step (by repeat (first | (with_reducible first | exact HB.out | apply below_alloc | apply pw_below_drewN | apply below_drew1) | exact HB.out)) hb); clear HO_0; clear HO_1; clear HO137; clear HO140; clear HO145; clear HO150; clear HB; have HO_0 := n0_; have HO_1 := n1_; have HO137 := n2_; have HO140 := n3_; have HO145 := n4_; have HO150 := n5_; have HO155 := n6_; have HB := n7_; clear n0_ n1_ n2_ n3_ n4_ n5_ n6_ n7_; (try clear hb); (try clear hb2); (try clear hk); (try clear hi); (try clear ho0)) | ((with_reducible refine gate_callee (f := 35) rfl ?_); refine goesL_ (some 52) rfl rfl Try.func35 (by kernel_rfl) rfl #[.slice A0 l0.length c0] rfl (by (try simp only [List.map_toArray, List.map_cons, List.map_nil]); first | done | rfl | (simp only [List.length_drop, List.length_take]; rfl)) ?_; (with_reducible refine (batch_Names.calls _ _ l0 t156 _ ?side1 ?side2 A19.out).mono ?_); (case side1 => repeat (first | exact (Kd.V_reads' HO_0.out).2.2 | (with_reducible refine Kd.C_alloc ?_ _) | (with_reducible refine Kd.C_drewN ?_ _) | (with_reducible refine Kd.C_drew ?_))); (case side2 => exact (Kd.V_reads' HO_0.out).2.1); rintro e w30 ⟨v157, rfl, ho0, hb⟩; refine ⟨_, rfl, ?_⟩; have n0_ := Aside0.mk (Kd.V_elder' (by (with_reducible repeat (first | apply Kd.V_alloc | apply Kd.V_drewN | apply Kd.V_drew)); exact HO_0.out) (Kd.R_base ho0) hb); have n1_ := Aside0.mk (Kd.V_elder' (by (with_reducible repeat (first | apply Kd.V_alloc | apply Kd.V_drewN | apply Kd.V_drew)); exact HO_1.out) (Kd.R_base ho0) hb); have n2_ := Aside0.mk (Kd.N_elder' (by (with_reducible repeat (first | apply Kd.N_alloc | apply Kd.N_drewN | apply Kd.N_drew)); exact HO137.out) (Kd.R_base ho0) hb); have n3_ := Aside0.mk (Kd.N_elder' (by (with_reducible repeat (first | apply Kd.N_alloc | apply Kd.N_drewN | apply Kd.N_drew)); exact HO140.out) (Kd.R_base ho0) hb); have n4_ := Aside0.mk (Kd.N_elder' (by (with_reducible repeat (first | apply Kd.N_alloc | apply Kd.N_drewN | apply Kd.N_drew)); exact HO145.out) (Kd.R_base ho0) hb); have n5_ := Aside0.mk (Kd.N_elder' (by (with_reducible repeat (first | apply Kd.N_alloc | apply Kd.N_drewN | apply Kd.N_drew)); exact HO150.out) (Kd.R_base ho0) hb); have n6_ := Aside0.mk (Kd.R_elder' (by (with_reducible repeat (first | apply Kd.R_alloc | apply Kd.R_drewN | apply Kd.R_drew)); exact HO155.out) (Kd.R_base ho0) hb); have n7_ := Aside0.mk (Kd.R_lower (Kd.R_new' (Kd.R_newM (M := fun k_ => (w.heap.size ≤ k_)) ho0 (below_size (by repeat (first | (with_reducible first | exact HB.out | apply below_alloc | apply pw_below_drewN | apply below_drew1) | exact HB.out))) (fun k_ h_ => h_)) (Kd.R_lt (by (with_reducible repeat (first | apply Kd.R_alloc | apply Kd.R_drewN | apply Kd.R_drew)); exact HO155.out))) (below_size (by repeat (first | (with_reducible first | exact HB.out | apply below_alloc | apply pw_below_drewN | apply below_drew1) | exact HB.out)))); have n8_ := Aside0.mk (below_step (by repeat (first | (with_reducible first | exact HB.out | apply below_alloc | apply pw_below_drewN | apply below_drew1) | exact HB.out)) hb); clear HO_0; clear HO_1; clear HO137; clear HO140; clear HO145; clear HO150; clear HO155; clear HB; have HO_0 := n0_; have HO_1 := n1_; have HO137 := n2_; have HO140 := n3_; have HO145 := n4_; have HO150 := n5_; have HO155 := n6_; have HO158 := n7_; have HB := n8_; clear n0_ n1_ n2_ n3_ n4_ n5_ n6_ n7_ n8_; (try clear hb); (try clear hb2); (try clear hk); (try clear hi); (try clear ho0)))
      (try simp only [Act.put, List.setIfInBounds_toArray, List.set_cons_zero, List.set_cons_succ])
      go_cut [66] (fun v66 wc => ∃ (kq : Nat) (x66_19 : Bool), v66 = .bool x66_19 ∧ Aside0 (forebaylaw08_BatchBehind.j1 kq l0 t138 t141 t142 t143 t146 t147 t148 t151 t152 x66_19 = some r) ∧ Aside0 (kq ≤ kj2) ∧ Aside0 (Kd.V k25 25 wc w.heap.size (fun k_ => ((P0_ k_ ∨ P1_ k_) ∨ w.heap.size ≤ k_) ∧ some k_ ≠ (v139 : Value).ownBlock ∧ some k_ ≠ (v144 : Value).ownBlock ∧ some k_ ≠ (v149 : Value).ownBlock) (.slice A0 l0.length c0) l0) ∧ Aside0 (Kd.N k25 25 wc w.heap.size (fun k_ => ((P0_ k_ ∨ P1_ k_) ∨ w.heap.size ≤ k_) ∧ some k_ ≠ (v144 : Value).ownBlock ∧ some k_ ≠ (v149 : Value).ownBlock) v139 t138) ∧ Aside0 (Kd.N k25 25 wc w.heap.size (fun k_ => ((P0_ k_ ∨ P1_ k_) ∨ w.heap.size ≤ k_) ∧ some k_ ≠ (v139 : Value).ownBlock ∧ some k_ ≠ (v149 : Value).ownBlock) v144 t143) ∧ Aside0 (Kd.N k25 25 wc w.heap.size (fun k_ => ((P0_ k_ ∨ P1_ k_) ∨ w.heap.size ≤ k_) ∧ some k_ ≠ (v139 : Value).ownBlock ∧ some k_ ≠ (v144 : Value).ownBlock) v149 t148) ∧ Aside0 (Below w.heap.size w wc))
      case first =>
       have H := HC20.out
       clear HC20
       by_cases c31 : (t153.length : Int) < (t156.length : Int)
       ·rw [if_pos c31] at H
        have c31b0 : decide ((t153.length : Int) < (t156.length : Int)) = true := decide_eq_true c31
        have c31b1 : decide (t153.length < t156.length) = true := decide_eq_true (Int.ofNat_lt.mp c31)
        clear c31
        (first | rw [c31b0] | (simp only [i64_w, i32_w]; rw [c31b0]) | skip)
        have H' := Aside0.mk H
        clear H
        obtain ⟨Ao32, co32, eo32⟩ := Kd.R_slice HO155.out
        subst eo32
        obtain ⟨Ao33, co33, eo33⟩ := Kd.R_slice HO158.out
        subst eo33
        go_wp2
        go_meet
        case rel => exact ⟨_, (true), (by first | rfl | (simp; done) | (simp [*]; done)), H', ⟨by have := HJ2.out; first | omega | exact Nat.le_refl _⟩, ⟨by (with_reducible repeat (first | apply Kd.V_alloc | apply Kd.V_drewN | apply Kd.V_drew)); exact Kd.V_mono HO_0.out (fun _ hk => ⟨hk.1.1.1.1.1.1, ⟨hk.1.1.1.1.2, ⟨hk.1.1.1.2, hk.1.1.2⟩⟩⟩)⟩, ⟨by (with_reducible repeat (first | apply Kd.N_alloc | apply Kd.N_drewN | apply Kd.N_drew)); exact Kd.N_mono HO140.out (fun _ hk => ⟨hk.1.1.1.1.1, ⟨hk.1.1.1.2, hk.1.1.2⟩⟩)⟩, ⟨by (with_reducible repeat (first | apply Kd.N_alloc | apply Kd.N_drewN | apply Kd.N_drew)); exact Kd.N_mono HO145.out (fun _ hk => ⟨hk.1.1.1.1, ⟨hk.1.1.1.2.2, hk.1.1.2⟩⟩)⟩, ⟨by (with_reducible repeat (first | apply Kd.N_alloc | apply Kd.N_drewN | apply Kd.N_drew)); exact Kd.N_mono HO150.out (fun _ hk => ⟨hk.1.1.1, ⟨hk.1.1.2.2.1, hk.1.1.2.2.2⟩⟩)⟩, ⟨by repeat (first | (with_reducible first | exact HB.out | apply below_alloc | apply pw_below_drewN | apply below_drew1) | exact HB.out)⟩⟩
       ·rw [if_neg c31] at H
        have c31b0 : decide ((t153.length : Int) < (t156.length : Int)) = false := decide_eq_false c31
        have c31b1 : decide (t153.length < t156.length) = false := decide_eq_false (fun h => c31 (Int.ofNat_lt.mpr h))
        clear c31
        (first | rw [c31b0] | (simp only [i64_w, i32_w]; rw [c31b0]) | skip)
        by_cases c34 : 0 ≤ (t156.length : Int)
        ·rw [if_pos c34] at H
         have c34b0 := eq_true c34
         have c34b1 : decide (0 ≤ (t156.length : Int)) = true := decide_eq_true c34
         clear c34
         by_cases c35 : (t156.length : Int) ≤ (t153.length : Int)
         ·rw [if_pos c35] at H
          have c35b0 := eq_true c35
          have c35b1 : decide ((t156.length : Int) ≤ (t153.length : Int)) = true := decide_eq_true c35
          clear c35
          obtain ⟨y159, hy159⟩ : ∃ y_ : List ByteArray, y_ = (t153.take ((t156.length : Int) : Int).toNat) := ⟨_, rfl⟩
          replace H : ((forebaylaw08_texts.f kj2 y159 t156).bind fun t164 => (forebaylaw08_BatchBehind.j1 kj2 l0 t138 t141 t142 t143 t146 t147 t148 t151 t152 (!t164))) = some r := by first | (rw [hy159]; with_reducible exact H) | (have H2_ := (Option.bind_some _ _).symm.trans H; rw [hy159]; with_reducible exact H2_) | (have H2_ := (Option.bind_some _ _).symm.trans H; with_reducible exact H2_) | with_reducible exact H | (rw [hy159]; exact H) | exact H
          have Ny159 := Aside0.mk hy159
          clear hy159
          replace H := Option.bind_eq_some_iff.mp H
          obtain ⟨t164, A360, H⟩ := H
          replace H : (forebaylaw08_BatchBehind.j1 kj2 l0 t138 t141 t142 t143 t146 t147 t148 t151 t152 (!t164)) = some r := H
          have A36 := Aside0.mk A360
          clear A360
          have H' := Aside0.mk H
          clear H
          obtain ⟨Ao37, co37, eo37⟩ := Kd.R_slice HO155.out
          subst eo37
          obtain ⟨Ao38, co38, eo38⟩ := Kd.R_slice HO158.out
          subst eo38
          have q39 : ((t156.length : Int) : Int) ≤ ((t153.length : Int) : Int) := of_decide_eq_true (by first | (with_reducible assumption) | assumption)
          obtain ⟨i039, hi039, _, hsz39, _⟩ := info_parts info9
          have hroom39 : t153.length ≤ co37 := (Kd.R_reads' HO155.out).2.1
          have hC39 : Kd.F Kd.string _ _ Ao37 t153.length t153 := (Kd.V_at (base := w.heap.size) (Kd.V_mono (ok' := (fun k_ => ((((((((P0_ k_ ∨ P1_ k_) ∨ w.heap.size ≤ k_) ∧ True) ∧ some k_ ≠ (.slice Ao38 t156.length co38 : Value).ownBlock) ∧ some k_ ≠ (.slice Ao27 y135.length co27 : Value).ownBlock) ∧ some k_ ≠ (v139 : Value).ownBlock) ∧ some k_ ≠ (v144 : Value).ownBlock) ∧ some k_ ≠ (v149 : Value).ownBlock))) (Kd.R_V (Kd.R_apart' (Kd.R_apart' (Kd.R_apart' (Kd.R_apart' (HO155.out) (Kd.N_typed HO137.out) (by decide)) (Kd.N_typed HO140.out) (by decide)) (Kd.N_typed HO145.out) (by decide)) (Kd.N_typed HO150.out) (by decide))) (fun k_ hk => ⟨⟨⟨⟨⟨⟨(.inr (hk.1.1.1.1.1.1)), trivial⟩, hk.1.1.1.1.2⟩, hk.1.1.1.2⟩, hk.1.1.2⟩, hk.1.2⟩, hk.2⟩))).2.2
          have hcut39 := cut_to (P := Try.prog) 52 9 .i64 Try.underlying52 hi039 Ao37 t153.length co37 (t156.length : Int) (of_decide_eq_true (by first | (with_reducible assumption) | assumption)) q39 hroom39
          have hr39 := Kd.F_take (m := ((t156.length : Int) : Int).toNat) hC39 (by omega)
          have hy39 : y159.length = ((t156.length : Int) : Int).toNat := (by rw [Ny159.out, List.length_take]; omega)
          rw [← Ny159.out] at hr39
          rw [← hy39] at hcut39
          have HO163 := Aside0.mk (show Kd.V Kd.string 9 _ w.heap.size _ (.slice Ao37 y159.length co37) y159 from Kd.V_mk (by omega) hr39)
          have HC163 := Aside0.mk (show y159.length ≤ co37 from by omega)
          clear hr39 hC39 hroom39 hi039 hsz39
          have KY39 := Aside0.mk hy39
          clear hy39
          replace q39 := eq_true q39
          go_wp2_with (first | (go_at_call 36; (with_reducible refine (forebaylaw08_texts.calls kj2 _ _ y159 _ _ t156 t164 _ ?side1 ?side2 ?side3 ?side4 A36.out).mono ?_); (case side1 => repeat (first | exact (Kd.V_reads' HO163.out).2.2 | (with_reducible refine Kd.C_alloc ?_ _) | (with_reducible refine Kd.C_drewN ?_ _) | (with_reducible refine Kd.C_drew ?_))); (case side2 => exact (Kd.V_reads' HO163.out).2.1); (case side3 => repeat (first | exact (Kd.R_reads' HO158.out).2.2 | (with_reducible refine Kd.C_alloc ?_ _) | (with_reducible refine Kd.C_drewN ?_ _) | (with_reducible refine Kd.C_drew ?_))); (case side4 => exact (Kd.R_reads' HO158.out).2.1); rintro e w' ⟨rfl, ⟨nd, rfl⟩⟩))
          go_meet
          case rel => exact ⟨_, (!t164), (by first | rfl | (simp; done) | (simp [*]; done)), H', ⟨by have := HJ2.out; first | omega | exact Nat.le_refl _⟩, ⟨by (with_reducible repeat (first | apply Kd.V_alloc | apply Kd.V_drewN | apply Kd.V_drew)); exact Kd.V_mono HO_0.out (fun _ hk => ⟨hk.1.1.1.1.1.1, ⟨hk.1.1.1.1.2, ⟨hk.1.1.1.2, hk.1.1.2⟩⟩⟩)⟩, ⟨by (with_reducible repeat (first | apply Kd.N_alloc | apply Kd.N_drewN | apply Kd.N_drew)); exact Kd.N_mono HO140.out (fun _ hk => ⟨hk.1.1.1.1.1, ⟨hk.1.1.1.2, hk.1.1.2⟩⟩)⟩, ⟨by (with_reducible repeat (first | apply Kd.N_alloc | apply Kd.N_drewN | apply Kd.N_drew)); exact Kd.N_mono HO145.out (fun _ hk => ⟨hk.1.1.1.1, ⟨hk.1.1.1.2.2, hk.1.1.2⟩⟩)⟩, ⟨by (with_reducible repeat (first | apply Kd.N_alloc | apply Kd.N_drewN | apply Kd.N_drew)); exact Kd.N_mono HO150.out (fun _ hk => ⟨hk.1.1.1, ⟨hk.1.1.2.2.1, hk.1.1.2.2.2⟩⟩)⟩, ⟨by repeat (first | (with_reducible first | exact HB.out | apply below_alloc | apply pw_below_drewN | apply below_drew1) | exact HB.out)⟩⟩
         ·rw [if_neg c35] at H
          exact absurd H (by simp)
        ·rw [if_neg c34] at H
         exact absurd H (by simp)
      case rest =>
       clear HC20
       try clear c1
       try clear c2
       try clear p2
       try clear c3
       try clear q3
       try clear c5
       try clear c10
       try clear c13
       try clear c14
       try clear c28
       try clear c29
       try clear c31
       try clear c31b0
       try clear c31b1
       try clear c32
       try clear c34
       try clear c34b0
       try clear c34b1
       try clear c35
       try clear c35b0
       try clear c35b1
       try clear q39
       try clear p2
       try clear q39
       obtain ⟨kq, x66_19, rfl, HA, HJ19, HO_0, HO_6, HO_9, HO_12, HB⟩ := hcut
       cases kq with
       | zero => exact absurd HA.out (by simp [forebaylaw08_BatchBehind.j1])
       | succ kj19 =>
        have H := HA.out
        clear HA
        simp only [forebaylaw08_BatchBehind.j1] at H
        by_cases c40 : x66_19 = true
        ·subst c40
         have H1 : (none) = some r := by rw [if_pos rfl] at H; exact H
         clear H
         have H := H1
         clear H1
         exact absurd H (by simp)
        ·replace c40 := Bool.eq_false_iff.mpr c40
         subst c40
         have H1 : (if t142 = 0 then (if t147 = 0 then (if t152 = 0 then (if t151 = 0 then ((some (([] : List (S25)) : List (S25))).bind fun y166 => (if y166.length + t138.length < 1599289640401 then ((some (y166 ++ t138 : List (S25))).bind fun y169 => (if y169.length + t143.length < 1599289640401 then ((batch_Equal.f t148 (y169 ++ t143)).bind fun t175 => (if t175 = true then ((forebaylaw08_awake.f kj19).bind fun t176 => (some t176)) else (none))) else (none))) else (none))) else (none)) else (none)) else (if t152 = t147 then (if t151 = (wrap64 (t146 + (l0.length : Int))) then (if (t148.length : Int) = 0 then ((forebaylaw08_awake.f kj19).bind fun t177 => (some t177)) else (none)) else (none)) else (none))) else (if t152 = t142 then (if t151 = t141 then (if (t148.length : Int) = 0 then ((forebaylaw08_awake.f kj19).bind fun t165 => (some t165)) else (none)) else (none)) else (none))) = some r := by rw [if_neg (show ¬ (false = true) by decide)] at H; exact H
         clear H
         have H := H1
         clear H1
         by_cases c41 : t142 = 0
         ·rw [if_pos c41] at H
          have c41b0 : (t142 == 0) = true := beq_iff_eq.mpr c41
          have c41b1 : (t142 != 0) = false := bne_eq_false_iff_eq.mpr c41
          clear c41
          by_cases c42 : t147 = 0
          ·rw [if_pos c42] at H
           have c42b0 : (t147 == 0) = true := beq_iff_eq.mpr c42
           have c42b1 : (t147 != 0) = false := bne_eq_false_iff_eq.mpr c42
           clear c42
           by_cases c43 : t152 = 0
           ·rw [if_pos c43] at H
            have c43b0 : (t152 == 0) = true := beq_iff_eq.mpr c43
            have c43b1 : (t152 != 0) = false := bne_eq_false_iff_eq.mpr c43
            clear c43
            by_cases c44 : t151 = 0
            ·rw [if_pos c44] at H
             have c44b0 : (t151 == 0) = true := beq_iff_eq.mpr c44
             have c44b1 : (t151 != 0) = false := bne_eq_false_iff_eq.mpr c44
             clear c44
             obtain ⟨y166, hy166⟩ : ∃ y_ : List (S25), y_ = (([] : List (S25))) := ⟨_, rfl⟩
             replace H : (if y166.length + t138.length < 1599289640401 then ((some (y166 ++ t138 : List (S25))).bind fun y169 => (if y169.length + t143.length < 1599289640401 then ((batch_Equal.f t148 (y169 ++ t143)).bind fun t175 => (if t175 = true then ((forebaylaw08_awake.f kj19).bind fun t176 => (some t176)) else (none))) else (none))) else (none)) = some r := by first | (rw [hy166]; with_reducible exact H) | (have H2_ := (Option.bind_some _ _).symm.trans H; rw [hy166]; with_reducible exact H2_) | (have H2_ := (Option.bind_some _ _).symm.trans H; with_reducible exact H2_) | with_reducible exact H | (rw [hy166]; exact H) | exact H
             have Ny166 := Aside0.mk hy166
             clear hy166
             by_cases c45 : y166.length + t138.length < 1599289640401
             ·rw [if_pos c45] at H
              have LMc45 := Aside0.mk c45
              clear c45
              obtain ⟨y169, hy169⟩ : ∃ y_ : List (S25), y_ = (y166 ++ t138) := ⟨_, rfl⟩
              replace H : (if y169.length + t143.length < 1599289640401 then ((batch_Equal.f t148 (y169 ++ t143)).bind fun t175 => (if t175 = true then ((forebaylaw08_awake.f kj19).bind fun t176 => (some t176)) else (none))) else (none)) = some r := by first | (rw [hy169]; with_reducible exact H) | (have H2_ := (Option.bind_some _ _).symm.trans H; rw [hy169]; with_reducible exact H2_) | (have H2_ := (Option.bind_some _ _).symm.trans H; with_reducible exact H2_) | with_reducible exact H | (rw [hy169]; exact H) | exact H
              have Ny169 := Aside0.mk hy169
              clear hy169
              by_cases c46 : y169.length + t143.length < 1599289640401
              ·rw [if_pos c46] at H
               have LMc46 := Aside0.mk c46
               clear c46
               obtain ⟨y172, hy172⟩ : ∃ y_ : List (S25), y_ = (y169 ++ t143) := ⟨_, rfl⟩
               replace H : ((batch_Equal.f t148 y172).bind fun t175 => (if t175 = true then ((forebaylaw08_awake.f kj19).bind fun t176 => (some t176)) else (none))) = some r := by first | (rw [hy172]; with_reducible exact H) | (have H2_ := (Option.bind_some _ _).symm.trans H; rw [hy172]; with_reducible exact H2_) | (have H2_ := (Option.bind_some _ _).symm.trans H; with_reducible exact H2_) | with_reducible exact H | (rw [hy172]; exact H) | exact H
               have Ny172 := Aside0.mk hy172
               clear hy172
               replace H := Option.bind_eq_some_iff.mp H
               obtain ⟨t175, A470, H⟩ := H
               replace H : (if t175 = true then ((forebaylaw08_awake.f kj19).bind fun t176 => (some t176)) else (none)) = some r := H
               have A47 := Aside0.mk A470
               clear A470
               by_cases c48 : t175 = true
               ·subst c48
                have H1 : ((forebaylaw08_awake.f kj19).bind fun t176 => (some t176)) = some r := by rw [if_pos rfl] at H; exact H
                clear H
                have H := H1
                clear H1
                replace H := Option.bind_eq_some_iff.mp H
                obtain ⟨t176, A490, H⟩ := H
                replace H : (some t176) = some r := H
                have A49 := Aside0.mk A490
                clear A490
                obtain rfl := Option.some.inj H
                go_wp2_with (first | ((with_reducible refine gate_dst (N := 114) rfl ?_); (try (refine gate_guard (by rfl) ?_; dsimp only)); refine Kd.N_lit k25 _ 25 ?hg (N' := 114) ?hd (xs := ([] : List (S25))) (inner := []) (ok := (fun k_ => ((P0_ k_ ∨ P1_ k_) ∨ w.heap.size ≤ k_) ∧ some k_ ≠ (v139 : Value).ownBlock ∧ some k_ ≠ (v144 : Value).ownBlock ∧ some k_ ≠ (v149 : Value).ownBlock)) (okp := (fun k_ => ((P0_ k_ ∨ P1_ k_) ∨ w.heap.size ≤ k_) ∧ some k_ ≠ (v139 : Value).ownBlock ∧ some k_ ≠ (v144 : Value).ownBlock ∧ some k_ ≠ (v149 : Value).ownBlock)) ?hr ?hp (fun _ hk => hk) ((show ∀ k_, wc.heap.size ≤ k_ → (fun k_ => ((P0_ k_ ∨ P1_ k_) ∨ w.heap.size ≤ k_) ∧ some k_ ≠ (v139 : Value).ownBlock ∧ some k_ ≠ (v144 : Value).ownBlock ∧ some k_ ≠ (v149 : Value).ownBlock) k_ from fun k_ hk => ⟨(.inr (Nat.le_trans (below_size (by repeat (first | (with_reducible first | exact HB.out | apply below_alloc | apply pw_below_drewN | apply below_drew1) | exact HB.out))) hk)), Kd.fresh' (Kd.N_lt (by (with_reducible repeat (first | apply Kd.N_alloc | apply Kd.N_drewN | apply Kd.N_drew)); exact HO_6.out)) k_ hk, Kd.fresh' (Kd.N_lt (by (with_reducible repeat (first | apply Kd.N_alloc | apply Kd.N_drewN | apply Kd.N_drew)); exact HO_9.out)) k_ hk, Kd.fresh' (Kd.N_lt (by (with_reducible repeat (first | apply Kd.N_alloc | apply Kd.N_drewN | apply Kd.N_drew)); exact HO_12.out)) k_ hk⟩) _ (Nat.le_refl _)) (Below.refl _ _) (Nat.le_refl _) (by simp) ?_; (case hd => rfl); (case hg => rfl); (case hr => first | (go_simp; done) | (go_simp; rfl)); (case hp => exact (Reps.none _ _)); intro v167 w50 ho51 hb hg_ hnew_; clear hg_ hnew_; (first | rw [← Ny166.out] at ho51 | (simp only [Int.reduceToNat] at ho51; rw [← Ny166.out] at ho51)); have n0_ := Aside0.mk (Kd.V_elder' (by (with_reducible repeat (first | apply Kd.V_alloc | apply Kd.V_drewN | apply Kd.V_drew)); exact HO_0.out) (Kd.N_base ho51) hb); have n1_ := Aside0.mk (Kd.N_elder' (by (with_reducible repeat (first | apply Kd.N_alloc | apply Kd.N_drewN | apply Kd.N_drew)); exact HO_6.out) (Kd.N_base ho51) hb); have n2_ := Aside0.mk (Kd.N_elder' (by (with_reducible repeat (first | apply Kd.N_alloc | apply Kd.N_drewN | apply Kd.N_drew)); exact HO_9.out) (Kd.N_base ho51) hb); have n3_ := Aside0.mk (Kd.N_elder' (by (with_reducible repeat (first | apply Kd.N_alloc | apply Kd.N_drewN | apply Kd.N_drew)); exact HO_12.out) (Kd.N_base ho51) hb); have n4_ := Aside0.mk (Kd.N_lower ho51 (below_size (by repeat (first | (with_reducible first | exact HB.out | apply below_alloc | apply pw_below_drewN | apply below_drew1) | exact HB.out)))); have n5_ := Aside0.mk (below_step (by repeat (first | (with_reducible first | exact HB.out | apply below_alloc | apply pw_below_drewN | apply below_drew1) | exact HB.out)) hb); clear HO_0; clear HO_6; clear HO_9; clear HO_12; clear HB; have HO_0 := n0_; have HO_6 := n1_; have HO_9 := n2_; have HO_12 := n3_; have HO168 := n4_; have HB := n5_; clear n0_ n1_ n2_ n3_ n4_ n5_; clear hb ho51; obtain ⟨Ao53, co53, eo53⟩ := Kd.N_slice HO_6.out; subst eo53) | ((with_reducible refine gate_builtin (b := .append) (xs := #[.tmp 114, .tmp 115]) rfl ?_); (try (refine gate_guard (by rfl) ?_; dsimp only)); at_builtin; refine Kd.N_append_rows k25 (w0 := w) w.heap.size rfl (.tmp 114) (.tmp 115) 42 25 (.agg #[(.string ⟨#[]⟩), (.int .i64 0), (.slice none 0 0), (.int .i64 0), (.slice none 0 0), (.int .i64 0)]) 88 rfl Try.underlying42 info25 rfl (by decide) (by omega) v167 y166 t138 _ _ _ (fun k_ => ((P0_ k_ ∨ P1_ k_) ∨ w.heap.size ≤ k_) ∧ some k_ ≠ (v144 : Value).ownBlock ∧ some k_ ≠ (v149 : Value).ownBlock) (fun k_ => ((fun k_ => ((P0_ k_ ∨ P1_ k_) ∨ w.heap.size ≤ k_) ∧ some k_ ≠ (v144 : Value).ownBlock ∧ some k_ ≠ (v149 : Value).ownBlock)) k_ ∧ some k_ ≠ (v167 : Value).ownBlock) rfl rfl ?aO ?aR (fun _ hk => hk) ?aF ?aB ?aS ?aL ?_; (case aR => exact (by skip; exact Kd.N_F (Kd.N_mono (ok' := (fun k_ => ((fun k_ => ((P0_ k_ ∨ P1_ k_) ∨ w.heap.size ≤ k_) ∧ some k_ ≠ (v144 : Value).ownBlock ∧ some k_ ≠ (v149 : Value).ownBlock)) k_ ∧ some k_ ≠ (v167 : Value).ownBlock)) (HO_6.out) (fun k_ hk => ⟨⟨hk.1.1, ⟨hk.1.2.1, hk.1.2.2⟩⟩, hk.2⟩)))); (case aB => exact (by repeat (first | (with_reducible first | exact HB.out | apply below_alloc | apply pw_below_drewN | apply below_drew1) | exact HB.out))); (case aF => exact (fun k_ hk => ⟨(.inr (Nat.le_trans (below_size (by repeat (first | (with_reducible first | exact HB.out | apply below_alloc | apply pw_below_drewN | apply below_drew1) | exact HB.out))) hk)), Kd.fresh' (Kd.N_lt (by (with_reducible repeat (first | apply Kd.N_alloc | apply Kd.N_drewN | apply Kd.N_drew)); exact HO_9.out)) k_ hk, Kd.fresh' (Kd.N_lt (by (with_reducible repeat (first | apply Kd.N_alloc | apply Kd.N_drewN | apply Kd.N_drew)); exact HO_12.out)) k_ hk⟩)); (case aO => exact (by (with_reducible repeat (first | apply Kd.N_alloc | apply Kd.N_drewN | apply Kd.N_drew)); exact Kd.N_mono HO168.out (fun _ hk => ⟨hk.1, ⟨hk.2.2.1, hk.2.2.2⟩⟩))); (case aS => exact (below_size (by repeat (first | (with_reducible first | exact HB.out | apply below_alloc | apply pw_below_drewN | apply below_drew1) | exact HB.out)))); (case aL => have := LMc45.out; omega); intro v170 w52 ho hb hg hat; rw [← Ny169.out] at ho; have n0_ := Aside0.mk (Kd.V_afterv (ok := (fun k_ => ((P0_ k_ ∨ P1_ k_) ∨ w.heap.size ≤ k_) ∧ some k_ ≠ (.slice Ao53 t138.length co53 : Value).ownBlock ∧ some k_ ≠ (v144 : Value).ownBlock ∧ some k_ ≠ (v149 : Value).ownBlock)) (by (with_reducible repeat (first | apply Kd.V_alloc | apply Kd.V_drewN | apply Kd.V_drew)); exact HO_0.out) hg hat); have n1_ := Aside0.mk (Kd.N_afterv (ok := (fun k_ => ((P0_ k_ ∨ P1_ k_) ∨ w.heap.size ≤ k_) ∧ some k_ ≠ (v144 : Value).ownBlock ∧ some k_ ≠ (v149 : Value).ownBlock)) (by (with_reducible repeat (first | apply Kd.N_alloc | apply Kd.N_drewN | apply Kd.N_drew)); exact HO_6.out) hg hat); have n2_ := Aside0.mk (Kd.N_afterv (ok := (fun k_ => ((P0_ k_ ∨ P1_ k_) ∨ w.heap.size ≤ k_) ∧ some k_ ≠ (.slice Ao53 t138.length co53 : Value).ownBlock ∧ some k_ ≠ (v149 : Value).ownBlock)) (by (with_reducible repeat (first | apply Kd.N_alloc | apply Kd.N_drewN | apply Kd.N_drew)); exact HO_9.out) hg hat); have n3_ := Aside0.mk (Kd.N_afterv (ok := (fun k_ => ((P0_ k_ ∨ P1_ k_) ∨ w.heap.size ≤ k_) ∧ some k_ ≠ (.slice Ao53 t138.length co53 : Value).ownBlock ∧ some k_ ≠ (v144 : Value).ownBlock)) (by (with_reducible repeat (first | apply Kd.N_alloc | apply Kd.N_drewN | apply Kd.N_drew)); exact HO_12.out) hg hat); have n4_ := Aside0.mk (hb); have n5_ := Aside0.mk (ho); clear HO_0; clear HO_6; clear HO_9; clear HO_12; clear HB; clear HO168; have HO_0 := n0_; have HO_6 := n1_; have HO_9 := n2_; have HO_12 := n3_; have HB := n4_; have HO171 := n5_; clear n0_ n1_ n2_ n3_ n4_ n5_; clear ho hb hg hat; obtain ⟨Ao55, co55, eo55⟩ := Kd.N_slice HO_9.out; subst eo55) | ((with_reducible refine gate_builtin (b := .append) (xs := #[.tmp 116, .tmp 117]) rfl ?_); (try (refine gate_guard (by rfl) ?_; dsimp only)); at_builtin; refine Kd.N_append_rows k25 (w0 := w) w.heap.size rfl (.tmp 116) (.tmp 117) 42 25 (.agg #[(.string ⟨#[]⟩), (.int .i64 0), (.slice none 0 0), (.int .i64 0), (.slice none 0 0), (.int .i64 0)]) 88 rfl Try.underlying42 info25 rfl (by decide) (by omega) v170 y169 t143 _ _ _ (fun k_ => ((P0_ k_ ∨ P1_ k_) ∨ w.heap.size ≤ k_) ∧ some k_ ≠ (v149 : Value).ownBlock) (fun k_ => ((fun k_ => ((P0_ k_ ∨ P1_ k_) ∨ w.heap.size ≤ k_) ∧ some k_ ≠ (v149 : Value).ownBlock)) k_ ∧ some k_ ≠ (v170 : Value).ownBlock) rfl rfl ?aO ?aR (fun _ hk => hk) ?aF ?aB ?aS ?aL ?_; (case aR => exact (by skip; exact Kd.N_F (Kd.N_mono (ok' := (fun k_ => ((fun k_ => ((P0_ k_ ∨ P1_ k_) ∨ w.heap.size ≤ k_) ∧ some k_ ≠ (v149 : Value).ownBlock)) k_ ∧ some k_ ≠ (v170 : Value).ownBlock)) (HO_9.out) (fun k_ hk => ⟨⟨hk.1.1, hk.1.2.2⟩, hk.2⟩)))); (case aB => exact (by repeat (first | (with_reducible first | exact HB.out | apply below_alloc | apply pw_below_drewN | apply below_drew1) | exact HB.out))); (case aF => exact (fun k_ hk => ⟨(.inr (Nat.le_trans (below_size (by repeat (first | (with_reducible first | exact HB.out | apply below_alloc | apply pw_below_drewN | apply below_drew1) | exact HB.out))) hk)), Kd.fresh' (Kd.N_lt (by (with_reducible repeat (first | apply Kd.N_alloc | apply Kd.N_drewN | apply Kd.N_drew)); exact HO_12.out)) k_ hk⟩)); (case aO => exact (by (with_reducible repeat (first | apply Kd.N_alloc | apply Kd.N_drewN | apply Kd.N_drew)); exact Kd.N_mono HO171.out (fun _ hk => ⟨hk.1, hk.2.2⟩))); (case aS => exact (below_size (by repeat (first | (with_reducible first | exact HB.out | apply below_alloc | apply pw_below_drewN | apply below_drew1) | exact HB.out)))); (case aL => have := LMc46.out; omega); intro v173 w54 ho hb hg hat; rw [← Ny172.out] at ho; have n0_ := Aside0.mk (Kd.V_afterv (ok := (fun k_ => ((P0_ k_ ∨ P1_ k_) ∨ w.heap.size ≤ k_) ∧ some k_ ≠ (.slice Ao53 t138.length co53 : Value).ownBlock ∧ some k_ ≠ (.slice Ao55 t143.length co55 : Value).ownBlock ∧ some k_ ≠ (v149 : Value).ownBlock)) (by (with_reducible repeat (first | apply Kd.V_alloc | apply Kd.V_drewN | apply Kd.V_drew)); exact HO_0.out) hg hat); have n1_ := Aside0.mk (Kd.N_afterv (ok := (fun k_ => ((P0_ k_ ∨ P1_ k_) ∨ w.heap.size ≤ k_) ∧ some k_ ≠ (.slice Ao55 t143.length co55 : Value).ownBlock ∧ some k_ ≠ (v149 : Value).ownBlock)) (by (with_reducible repeat (first | apply Kd.N_alloc | apply Kd.N_drewN | apply Kd.N_drew)); exact HO_6.out) hg hat); have n2_ := Aside0.mk (Kd.N_afterv (ok := (fun k_ => ((P0_ k_ ∨ P1_ k_) ∨ w.heap.size ≤ k_) ∧ some k_ ≠ (.slice Ao53 t138.length co53 : Value).ownBlock ∧ some k_ ≠ (v149 : Value).ownBlock)) (by (with_reducible repeat (first | apply Kd.N_alloc | apply Kd.N_drewN | apply Kd.N_drew)); exact HO_9.out) hg hat); have n3_ := Aside0.mk (Kd.N_afterv (ok := (fun k_ => ((P0_ k_ ∨ P1_ k_) ∨ w.heap.size ≤ k_) ∧ some k_ ≠ (.slice Ao53 t138.length co53 : Value).ownBlock ∧ some k_ ≠ (.slice Ao55 t143.length co55 : Value).ownBlock)) (by (with_reducible repeat (first | apply Kd.N_alloc | apply Kd.N_drewN | apply Kd.N_drew)); exact HO_12.out) hg hat); have n4_ := Aside0.mk (hb); have n5_ := Aside0.mk (ho); clear HO_0; clear HO_6; clear HO_9; clear HO_12; clear HB; clear HO171; have HO_0 := n0_; have HO_6 := n1_; have HO_9 := n2_; have HO_12 := n3_; have HB := n4_; have HO174 := n5_; clear n0_ n1_ n2_ n3_ n4_ n5_; clear ho hb hg hat; obtain ⟨Ao56, co56, eo56⟩ := Kd.N_slice HO_12.out; subst eo56; obtain ⟨Ao57, co57, eo57⟩ := Kd.N_slice HO174.out; subst eo57) | (go_at_call 37; (with_reducible refine (batch_Equal.calls _ _ t148 _ _ y172 true _ ?side1 ?side2 ?side3 ?side4 A47.out).mono ?_); (case side1 => repeat (first | exact (Kd.N_reads' HO_12.out).2.2 | (with_reducible refine Kd.C_alloc ?_ _) | (with_reducible refine Kd.C_drewN ?_ _) | (with_reducible refine Kd.C_drew ?_))); (case side2 => exact (Kd.N_reads' HO_12.out).2.1); (case side3 => repeat (first | exact (Kd.N_reads' HO174.out).2.2 | (with_reducible refine Kd.C_alloc ?_ _) | (with_reducible refine Kd.C_drewN ?_ _) | (with_reducible refine Kd.C_drew ?_))); (case side4 => exact (Kd.N_reads' HO174.out).2.1); rintro e w58 ⟨rfl, hb⟩; have n0_ := Aside0.mk (Kd.V_below (by (with_reducible repeat (first | apply Kd.V_alloc | apply Kd.V_drewN | apply Kd.V_drew)); exact HO_0.out) hb); have n1_ := Aside0.mk (Kd.N_below (by (with_reducible repeat (first | apply Kd.N_alloc | apply Kd.N_drewN | apply Kd.N_drew)); exact HO_6.out) hb); have n2_ := Aside0.mk (Kd.N_below (by (with_reducible repeat (first | apply Kd.N_alloc | apply Kd.N_drewN | apply Kd.N_drew)); exact HO_9.out) hb); have n3_ := Aside0.mk (Kd.N_below (by (with_reducible repeat (first | apply Kd.N_alloc | apply Kd.N_drewN | apply Kd.N_drew)); exact HO_12.out) hb); have n4_ := Aside0.mk (Kd.N_below (by (with_reducible repeat (first | apply Kd.N_alloc | apply Kd.N_drewN | apply Kd.N_drew)); exact HO174.out) hb); have n5_ := Aside0.mk (below_step (by repeat (first | (with_reducible first | exact HB.out | apply below_alloc | apply pw_below_drewN | apply below_drew1) | exact HB.out)) hb); clear HO_0; clear HO_6; clear HO_9; clear HO_12; clear HO174; clear HB; have HO_0 := n0_; have HO_6 := n1_; have HO_9 := n2_; have HO_12 := n3_; have HO174 := n4_; have HB := n5_; clear n0_ n1_ n2_ n3_ n4_ n5_; (try clear hb); (try clear hb2); (try clear hk); (try clear hi)) | (go_at_call 29; (with_reducible refine (forebaylaw08_awake.calls kj19  t176 _ A49.out).mono ?_); rintro e w59 ⟨rfl, hb⟩; have n0_ := Aside0.mk (Kd.V_below (by (with_reducible repeat (first | apply Kd.V_alloc | apply Kd.V_drewN | apply Kd.V_drew)); exact HO_0.out) hb); have n1_ := Aside0.mk (Kd.N_below (by (with_reducible repeat (first | apply Kd.N_alloc | apply Kd.N_drewN | apply Kd.N_drew)); exact HO_6.out) hb); have n2_ := Aside0.mk (Kd.N_below (by (with_reducible repeat (first | apply Kd.N_alloc | apply Kd.N_drewN | apply Kd.N_drew)); exact HO_9.out) hb); have n3_ := Aside0.mk (Kd.N_below (by (with_reducible repeat (first | apply Kd.N_alloc | apply Kd.N_drewN | apply Kd.N_drew)); exact HO_12.out) hb); have n4_ := Aside0.mk (Kd.N_below (by (with_reducible repeat (first | apply Kd.N_alloc | apply Kd.N_drewN | apply Kd.N_drew)); exact HO174.out) hb); have n5_ := Aside0.mk (below_step (by repeat (first | (with_reducible first | exact HB.out | apply below_alloc | apply pw_below_drewN | apply below_drew1) | exact HB.out)) hb); clear HO_0; clear HO_6; clear HO_9; clear HO_12; clear HO174; clear HB; have HO_0 := n0_; have HO_6 := n1_; have HO_9 := n2_; have HO_12 := n3_; have HO174 := n4_; have HB := n5_; clear n0_ n1_ n2_ n3_ n4_ n5_; (try clear hb); (try clear hb2); (try clear hk); (try clear hi)))
                go_ret
                exact ⟨by first | rfl | (simp [errW_none, errW_some] <;> rfl) | (simp [*, errW_none, errW_some] <;> rfl), by repeat (first | (with_reducible first | exact HB.out | apply below_alloc | apply pw_below_drewN | apply below_drew1) | exact HB.out)⟩
               ·replace c48 := Bool.eq_false_iff.mpr c48
                subst c48
                have H1 : (none) = some r := by rw [if_neg (show ¬ (false = true) by decide)] at H; exact H
                clear H
                have H := H1
                clear H1
                exact absurd H (by simp)
              ·rw [if_neg c46] at H
               exact absurd H (by simp)
             ·rw [if_neg c45] at H
              exact absurd H (by simp)
            ·rw [if_neg c44] at H
             exact absurd H (by simp)
           ·rw [if_neg c43] at H
            exact absurd H (by simp)
          ·rw [if_neg c42] at H
           have c42b0 : (t147 == 0) = false := beq_eq_false_iff_ne.mpr c42
           have c42b1 : (t147 != 0) = true := bne_iff_ne.mpr c42
           by_cases c60 : t152 = t147
           ·rw [if_pos c60] at H
            have c60b0 : (t152 == t147) = true := beq_iff_eq.mpr c60
            have c60b1 : (t152 != t147) = false := bne_eq_false_iff_eq.mpr c60
            clear c60
            by_cases c61 : t151 = (wrap64 (t146 + (l0.length : Int)))
            ·rw [if_pos c61] at H
             have c61b0 : (t151 == (wrap64 (t146 + (l0.length : Int)))) = true := beq_iff_eq.mpr c61
             have c61b1 : (t151 != (wrap64 (t146 + (l0.length : Int)))) = false := bne_eq_false_iff_eq.mpr c61
             clear c61
             by_cases c62 : (t148.length : Int) = 0
             ·rw [if_pos c62] at H
              have c62b0 : ((t148.length : Int) == 0) = true := beq_iff_eq.mpr c62
              have c62b1 : ((t148.length : Int) != 0) = false := bne_eq_false_iff_eq.mpr c62
              clear c62
              replace H := Option.bind_eq_some_iff.mp H
              obtain ⟨t177, A630, H⟩ := H
              replace H : (some t177) = some r := H
              have A63 := Aside0.mk A630
              clear A630
              obtain rfl := Option.some.inj H
              obtain ⟨Ao64, co64, eo64⟩ := Kd.N_slice HO_12.out
              subst eo64
              go_wp2_with (first | (go_at_call 29; (with_reducible refine (forebaylaw08_awake.calls kj19  t177 _ A63.out).mono ?_); rintro e w65 ⟨rfl, hb⟩; have n0_ := Aside0.mk (Kd.V_below (by (with_reducible repeat (first | apply Kd.V_alloc | apply Kd.V_drewN | apply Kd.V_drew)); exact HO_0.out) hb); have n1_ := Aside0.mk (Kd.N_below (by (with_reducible repeat (first | apply Kd.N_alloc | apply Kd.N_drewN | apply Kd.N_drew)); exact HO_6.out) hb); have n2_ := Aside0.mk (Kd.N_below (by (with_reducible repeat (first | apply Kd.N_alloc | apply Kd.N_drewN | apply Kd.N_drew)); exact HO_9.out) hb); have n3_ := Aside0.mk (Kd.N_below (by (with_reducible repeat (first | apply Kd.N_alloc | apply Kd.N_drewN | apply Kd.N_drew)); exact HO_12.out) hb); have n4_ := Aside0.mk (below_step (by repeat (first | (with_reducible first | exact HB.out | apply below_alloc | apply pw_below_drewN | apply below_drew1) | exact HB.out)) hb); clear HO_0; clear HO_6; clear HO_9; clear HO_12; clear HB; have HO_0 := n0_; have HO_6 := n1_; have HO_9 := n2_; have HO_12 := n3_; have HB := n4_; clear n0_ n1_ n2_ n3_ n4_; (try clear hb); (try clear hb2); (try clear hk); (try clear hi)))
              go_ret
              exact ⟨by first | rfl | (simp [errW_none, errW_some] <;> rfl) | (simp [*, errW_none, errW_some] <;> rfl), by repeat (first | (with_reducible first | exact HB.out | apply below_alloc | apply pw_below_drewN | apply below_drew1) | exact HB.out)⟩
             ·rw [if_neg c62] at H
              exact absurd H (by simp)
            ·rw [if_neg c61] at H
             exact absurd H (by simp)
           ·rw [if_neg c60] at H
            exact absurd H (by simp)
         ·rw [if_neg c41] at H
          have c41b0 : (t142 == 0) = false := beq_eq_false_iff_ne.mpr c41
          have c41b1 : (t142 != 0) = true := bne_iff_ne.mpr c41
          by_cases c66 : t152 = t142
          ·rw [if_pos c66] at H
           have c66b0 : (t152 == t142) = true := beq_iff_eq.mpr c66
           have c66b1 : (t152 != t142) = false := bne_eq_false_iff_eq.mpr c66
           clear c66
           by_cases c67 : t151 = t141
           ·rw [if_pos c67] at H
            have c67b0 : (t151 == t141) = true := beq_iff_eq.mpr c67
            have c67b1 : (t151 != t141) = false := bne_eq_false_iff_eq.mpr c67
            clear c67
            by_cases c68 : (t148.length : Int) = 0
            ·rw [if_pos c68] at H
             have c68b0 : ((t148.length : Int) == 0) = true := beq_iff_eq.mpr c68
             have c68b1 : ((t148.length : Int) != 0) = false := bne_eq_false_iff_eq.mpr c68
             clear c68
             replace H := Option.bind_eq_some_iff.mp H
             obtain ⟨t165, A690, H⟩ := H
             replace H : (some t165) = some r := H
             have A69 := Aside0.mk A690
             clear A690
             obtain rfl := Option.some.inj H
             obtain ⟨Ao70, co70, eo70⟩ := Kd.N_slice HO_12.out
             subst eo70
             go_wp2_with (first | (go_at_call 29; (with_reducible refine (forebaylaw08_awake.calls kj19  t165 _ A69.out).mono ?_); rintro e w71 ⟨rfl, hb⟩; have n0_ := Aside0.mk (Kd.V_below (by (with_reducible repeat (first | apply Kd.V_alloc | apply Kd.V_drewN | apply Kd.V_drew)); exact HO_0.out) hb); have n1_ := Aside0.mk (Kd.N_below (by (with_reducible repeat (first | apply Kd.N_alloc | apply Kd.N_drewN | apply Kd.N_drew)); exact HO_6.out) hb); have n2_ := Aside0.mk (Kd.N_below (by (with_reducible repeat (first | apply Kd.N_alloc | apply Kd.N_drewN | apply Kd.N_drew)); exact HO_9.out) hb); have n3_ := Aside0.mk (Kd.N_below (by (with_reducible repeat (first | apply Kd.N_alloc | apply Kd.N_drewN | apply Kd.N_drew)); exact HO_12.out) hb); have n4_ := Aside0.mk (below_step (by repeat (first | (with_reducible first | exact HB.out | apply below_alloc | apply pw_below_drewN | apply below_drew1) | exact HB.out)) hb); clear HO_0; clear HO_6; clear HO_9; clear HO_12; clear HB; have HO_0 := n0_; have HO_6 := n1_; have HO_9 := n2_; have HO_12 := n3_; have HB := n4_; clear n0_ n1_ n2_ n3_ n4_; (try clear hb); (try clear hb2); (try clear hk); (try clear hi)))
             go_ret
             exact ⟨by first | rfl | (simp [errW_none, errW_some] <;> rfl) | (simp [*, errW_none, errW_some] <;> rfl), by repeat (first | (with_reducible first | exact HB.out | apply below_alloc | apply pw_below_drewN | apply below_drew1) | exact HB.out)⟩
            ·rw [if_neg c68] at H
             exact absurd H (by simp)
           ·rw [if_neg c67] at H
            exact absurd H (by simp)
          ·rw [if_neg c66] at H
           exact absurd H (by simp)
     ·rw [if_neg c14] at H
      exact absurd H (by simp)
    ·rw [if_neg c13] at H
     exact absurd H (by simp)
end Go.Proofs.Yteamldgngknmfaa.PE
