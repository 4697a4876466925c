-- Printed by the kit's print.py over contracts of this session's own.
import Derived.Test.YteamldgngknmfaaZFInjN
import Derived.Test.YteamldgngknmfaaZFMNorm
import Derived.Test.YteamldgngknmfaaZFPEx0
import Derived.Test.YteamldgngknmfaaZFPEx11
import Derived.Test.YteamldgngknmfaaZFPEx12
import Derived.Test.YteamldgngknmfaaZFPEx14
namespace Go.Proofs.Yteamldgngknmfaa.PE
open Go.RowKit Go.Proofs.YteamldgngknmfaaW.PrintWords Go.Proofs.YteamldgngknmfaaW.PrintLast Go.Proofs.YteamldgngknmfaaW.PrintMore
attribute [local go_sem] max2_int min2_int max_two min_two max_three min_three max_four min_four   -- for this text's walks alone
set_option linter.unusedVariables false
set_option linter.unusedSimpArgs false
/-! ### forebaylaw08_BatchEquals: function 11 -/
mutual
def forebaylaw08_BatchEquals.j0 : Nat → List (S25) → List (S25) → Bool → Option (Bool)
 | 0, _, _, _ => none
 | k + 1, x0, x1, x19 => if x19 = true then ((forebaylaw08_awake.f k).bind fun t557 => (some t557)) else ((forebayref08_Normal.f k x0).bind fun bt558 => ((forebayref08_Normal.f k x1).bind fun bt563 => (if bt558.2.2 = 0 then (if bt563.2.2 = 0 then ((forebayref08_Equal.f k bt558.1 bt563.1).bind fun t568 => (forebaylaw08_BatchEquals.j1 k x0 x1 t568)) else (forebaylaw08_BatchEquals.j1 k x0 x1 false)) else (forebaylaw08_BatchEquals.j1 k x0 x1 false))))
def forebaylaw08_BatchEquals.j1 : Nat → List (S25) → List (S25) → Bool → Option (Bool)
 | 0, _, _, _ => none
 | k + 1, x0, x1, x11 => (batch_Equal.f x0 x1).bind fun t569 => ((forebayref08_Equal.f k x0 x1).bind fun t570 => (if (t569 == t570) = true then ((batch_Same.f x0 x1).bind fun t571 => (if (t571 == x11) = true then ((batch_Names.f x0).bind fun t572 => ((forebayref08_Names.f k x0).bind fun t575 => ((forebaylaw08_texts.f k t572 t575).bind fun t578 => (if t578 = true then ((forebaylaw08_awake.f k).bind fun t579 => (some t579)) else (none))))) else (none))) else (none)))
end
def forebaylaw08_BatchEquals.f (k : Nat) (l0 : List (S25)) (l1 : List (S25)) : Option (Bool) := (forebaylaw08_Few.f k l0).bind fun t555 => (if t555 = true then ((forebaylaw08_Few.f k l1).bind fun t556 => (forebaylaw08_BatchEquals.j0 k l0 l1 (!t556))) else (forebaylaw08_BatchEquals.j0 k l0 l1 true))
set_option maxHeartbeats 8000000 in
set_option maxRecDepth 100000 in
theorem forebaylaw08_BatchEquals.calls (k : Nat) (A0 : Option Addr) (c0 : Nat) (l0 : List (S25)) (A1 : Option Addr) (c1 : Nat) (l1 : List (S25)) (r : Bool) (w : World) (hr0 : Kd.C k25 w A0 l0.length l0) (hc0 : l0.length ≤ c0) (hr1 : Kd.C k25 w A1 l1.length l1) (hc1 : l1.length ≤ c1) (h : forebaylaw08_BatchEquals.f k l0 l1 = some r) :
  Calls Try.prog 11 #[.slice A0 l0.length c0, .slice A1 l1.length c1] w fun e w' => e = .returned (.bool r) ∧ Below w.heap.size w w' := by
 have HR0 := Aside0.mk hr0
 have HC0 := Aside0.mk hc0
 clear hr0 hc0
 have HR1 := Aside0.mk hr1
 have HC1 := Aside0.mk hc1
 clear hr1 hc1
 have HB := Aside0.mk (Below.refl w.heap.size w)
 have H : ((forebaylaw08_Few.f k l0).bind fun t555 => (if t555 = true then ((forebaylaw08_Few.f k l1).bind fun t556 => (forebaylaw08_BatchEquals.j0 k l0 l1 (!t556))) else (forebaylaw08_BatchEquals.j0 k l0 l1 true))) = some r := h
 clear h
 have HC3 := Aside0.mk H
 clear H
 go_enter Try.func11, Try.ntmps11
 go_upto_region 1 with (fail)
 go_cut [19] (fun v19 wc => ∃ (kq : Nat) (x19_2 : Bool), v19 = .bool x19_2 ∧ Aside0 (forebaylaw08_BatchEquals.j0 kq l0 l1 x19_2 = some r) ∧ Aside0 (kq ≤ k) ∧ Aside0 (Below w.heap.size w wc))
 case first =>
  have H := HC3.out
  clear HC3
  replace H := Option.bind_eq_some_iff.mp H
  obtain ⟨t555, A40, H⟩ := H
  replace H : (if t555 = true then ((forebaylaw08_Few.f k l1).bind fun t556 => (forebaylaw08_BatchEquals.j0 k l0 l1 (!t556))) else (forebaylaw08_BatchEquals.j0 k l0 l1 true)) = some r := H
  have A4 := Aside0.mk A40
  clear A40
  by_cases c5 : t555 = true
  ·subst c5
   have H1 : ((forebaylaw08_Few.f k l1).bind fun t556 => (forebaylaw08_BatchEquals.j0 k l0 l1 (!t556))) = some r := by rw [if_pos rfl] at H; exact H
   clear H
   have H := H1
   clear H1
   replace H := Option.bind_eq_some_iff.mp H
   obtain ⟨t556, A60, H⟩ := H
   replace H : (forebaylaw08_BatchEquals.j0 k l0 l1 (!t556)) = some r := H
   have A6 := Aside0.mk A60
   clear A60
   have H' := Aside0.mk H
   clear H
   go_wp2_with (first | ((with_reducible refine gate_callee (f := 28) rfl ?_); refine goesL_ (some 13) rfl rfl Try.func28 (by kernel_rfl) rfl #[.slice A0 l0.length c0] rfl (by (try simp only [List.map_toArray, List.map_cons, List.map_nil]); first | done | rfl | (simp only [List.length_drop, List.length_take]; rfl)) ?_; (with_reducible refine (forebaylaw08_Few.calls k _ _ l0 true _ ?side1 ?side2 A4.out).mono ?_); (case side1 => repeat (first | exact (Kd.C_below HR0.out HB.out) | (with_reducible refine Kd.C_alloc ?_ _) | (with_reducible refine Kd.C_drewN ?_ _) | (with_reducible refine Kd.C_drew ?_))); (case side2 => exact HC0.out); rintro e w7 ⟨rfl, hb⟩; refine ⟨_, rfl, ?_⟩; have n0_ := Aside0.mk (below_step (by repeat (first | (with_reducible first | exact HB.out | apply below_alloc | apply pw_below_drewN | apply below_drew1) | exact HB.out)) hb); clear HB; have HB := n0_; clear n0_; (try clear hb); (try clear hb2); (try clear hk); (try clear hi)) | (go_at_call 28; (with_reducible refine (forebaylaw08_Few.calls k _ _ l1 t556 _ ?side1 ?side2 A6.out).mono ?_); (case side1 => repeat (first | exact (Kd.C_below HR1.out HB.out) | (with_reducible refine Kd.C_alloc ?_ _) | (with_reducible refine Kd.C_drewN ?_ _) | (with_reducible refine Kd.C_drew ?_))); (case side2 => exact HC1.out); rintro e w8 ⟨rfl, hb⟩; have n0_ := Aside0.mk (below_step (by repeat (first | (with_reducible first | exact HB.out | apply below_alloc | apply pw_below_drewN | apply below_drew1) | exact HB.out)) hb); clear HB; have HB := n0_; clear n0_; (try clear hb); (try clear hb2); (try clear hk); (try clear hi)))
   go_meet
   case rel => exact ⟨_, (!t556), (by first | rfl | (simp; done) | (simp [*]; done)), H', ⟨by first | omega | exact Nat.le_refl _⟩, ⟨by repeat (first | (with_reducible first | exact HB.out | apply below_alloc | apply pw_below_drewN | apply below_drew1) | exact HB.out)⟩⟩
  ·replace c5 := Bool.eq_false_iff.mpr c5
   subst c5
   have H1 : (forebaylaw08_BatchEquals.j0 k l0 l1 true) = some r := by rw [if_neg (show ¬ (false = true) by decide)] at H; exact H
   clear H
   have H := H1
   clear H1
   have H' := Aside0.mk H
   clear H
   go_wp2_with (first | ((with_reducible refine gate_callee (f := 28) rfl ?_); refine goesL_ (some 13) rfl rfl Try.func28 (by kernel_rfl) rfl #[.slice A0 l0.length c0] rfl (by (try simp only [List.map_toArray, List.map_cons, List.map_nil]); first | done | rfl | (simp only [List.length_drop, List.length_take]; rfl)) ?_; (with_reducible refine (forebaylaw08_Few.calls k _ _ l0 false _ ?side1 ?side2 A4.out).mono ?_); (case side1 => repeat (first | exact (Kd.C_below HR0.out HB.out) | (with_reducible refine Kd.C_alloc ?_ _) | (with_reducible refine Kd.C_drewN ?_ _) | (with_reducible refine Kd.C_drew ?_))); (case side2 => exact HC0.out); rintro e w9 ⟨rfl, hb⟩; refine ⟨_, rfl, ?_⟩; have n0_ := Aside0.mk (below_step (by repeat (first | (with_reducible first | exact HB.out | apply below_alloc | apply pw_below_drewN | apply below_drew1) | exact HB.out)) hb); clear HB; have HB := n0_; clear n0_; (try clear hb); (try clear hb2); (try clear hk); (try clear hi)))
   go_meet
   case rel => exact ⟨_, (true), (by first | rfl | (simp; done) | (simp [*]; done)), H', ⟨by first | omega | exact Nat.le_refl _⟩, ⟨by repeat (first | (with_reducible first | exact HB.out | apply below_alloc | apply pw_below_drewN | apply below_drew1) | exact HB.out)⟩⟩
 case rest =>
  clear HC3
  try clear c1
  try clear c2
  try clear p2
  try clear c5
  obtain ⟨kq, x19_2, rfl, HA, HJ2, HB⟩ := hcut
  cases kq with
  | zero => exact absurd HA.out (by simp [forebaylaw08_BatchEquals.j0])
  | succ kj2 =>
   have H := HA.out
   clear HA
   simp only [forebaylaw08_BatchEquals.j0] at H
   by_cases c10 : x19_2 = true
   ·subst c10
    have H1 : ((forebaylaw08_awake.f kj2).bind fun t557 => (some t557)) = some r := by rw [if_pos rfl] at H; exact H
    clear H
    have H := H1
    clear H1
    replace H := Option.bind_eq_some_iff.mp H
    obtain ⟨t557, A110, H⟩ := H
    replace H : (some t557) = some r := H
    have A11 := Aside0.mk A110
    clear A110
    obtain rfl := Option.some.inj H
    go_wp2_with (first | ((with_reducible refine gate_callee (f := 29) rfl ?_); refine goesL_ (some 20) rfl rfl Try.func29 (by kernel_rfl) rfl #[] rfl (by (try simp only [List.map_toArray, List.map_cons, List.map_nil]); first | done | rfl | (simp only [List.length_drop, List.length_take]; rfl)) ?_; (with_reducible refine (forebaylaw08_awake.calls kj2  t557 _ A11.out).mono ?_); rintro e w12 ⟨rfl, hb⟩; refine ⟨_, rfl, ?_⟩; have n0_ := Aside0.mk (below_step (by repeat (first | (with_reducible first | exact HB.out | apply below_alloc | apply pw_below_drewN | apply below_drew1) | exact HB.out)) hb); clear HB; have HB := n0_; clear n0_; (try clear hb); (try clear hb2); (try clear hk); (try clear hi)))
    go_ret
    exact ⟨by first | rfl | (simp [errW_none, errW_some] <;> rfl) | (simp [*, errW_none, errW_some] <;> rfl), by repeat (first | (with_reducible first | exact HB.out | apply below_alloc | apply pw_below_drewN | apply below_drew1) | exact HB.out)⟩
   ·replace c10 := Bool.eq_false_iff.mpr c10
    subst c10
    have H1 : ((forebayref08_Normal.f kj2 l0).bind fun bt558 => ((forebayref08_Normal.f kj2 l1).bind fun bt563 => (if bt558.2.2 = 0 then (if bt563.2.2 = 0 then ((forebayref08_Equal.f kj2 bt558.1 bt563.1).bind fun t568 => (forebaylaw08_BatchEquals.j1 kj2 l0 l1 t568)) else (forebaylaw08_BatchEquals.j1 kj2 l0 l1 false)) else (forebaylaw08_BatchEquals.j1 kj2 l0 l1 false)))) = some r := by rw [if_neg (show ¬ (false = true) by decide)] at H; exact H
    clear H
    have H := H1
    clear H1
    replace H := Option.bind_eq_some_iff.mp H
    obtain ⟨⟨t558, t559, t560⟩, A130, H⟩ := H
    replace H : ((forebayref08_Normal.f kj2 l1).bind fun bt563 => (if t560 = 0 then (if bt563.2.2 = 0 then ((forebayref08_Equal.f kj2 t558 bt563.1).bind fun t568 => (forebaylaw08_BatchEquals.j1 kj2 l0 l1 t568)) else (forebaylaw08_BatchEquals.j1 kj2 l0 l1 false)) else (forebaylaw08_BatchEquals.j1 kj2 l0 l1 false))) = some r := H
    have A13 := Aside0.mk A130
    clear A130
    replace H := Option.bind_eq_some_iff.mp H
    obtain ⟨⟨t563, t564, t565⟩, A140, H⟩ := H
    replace H : (if t560 = 0 then (if t565 = 0 then ((forebayref08_Equal.f kj2 t558 t563).bind fun t568 => (forebaylaw08_BatchEquals.j1 kj2 l0 l1 t568)) else (forebaylaw08_BatchEquals.j1 kj2 l0 l1 false)) else (forebaylaw08_BatchEquals.j1 kj2 l0 l1 false)) = some r := H
    have A14 := Aside0.mk A140
    clear A140
    have HC15 := Aside0.mk H
    clear H
    go_upto_region 5 with (first | ((with_reducible refine gate_callee (f := 33) rfl ?_); refine goesL_ (some 23) rfl rfl Try.func33 (by kernel_rfl) rfl #[.slice A0 l0.length c0] rfl (by (try simp only [List.map_toArray, List.map_cons, List.map_nil]); first | done | rfl | (simp only [List.length_drop, List.length_take]; rfl)) ?_; (with_reducible refine (forebayref08_Normal.calls kj2 _ _ l0 t558 t559 t560 _ ?side1 ?side2 A13.out).mono ?_); (case side1 => repeat (first | exact (Kd.C_below HR0.out HB.out) | (with_reducible refine Kd.C_alloc ?_ _) | (with_reducible refine Kd.C_drewN ?_ _) | (with_reducible refine Kd.C_drew ?_))); (case side2 => exact HC0.out); rintro e w16 ⟨v561, rfl, ho0, hb⟩; refine ⟨_, rfl, ?_⟩; have n0_ := Aside0.mk (Kd.S_lower ho0 (below_size (by repeat (first | (with_reducible first | exact HB.out | apply below_alloc | apply pw_below_drewN | apply below_drew1) | exact HB.out)))); have n1_ := Aside0.mk (below_step (by repeat (first | (with_reducible first | exact HB.out | apply below_alloc | apply pw_below_drewN | apply below_drew1) | exact HB.out)) hb); clear HB; have HO562 := n0_; have HB := n1_; clear n0_ n1_; (try clear hb); (try clear hb2); (try clear hk); (try clear hi); (try clear ho0)) | ((with_reducible refine gate_callee (f := 33) rfl ?_); refine goesL_ (some 29) rfl rfl Try.func33 (by kernel_rfl) rfl #[.slice A1 l1.length c1] rfl (by (try simp only [List.map_toArray, List.map_cons, List.map_nil]); first | done | rfl | (simp only [List.length_drop, List.length_take]; rfl)) ?_; (with_reducible refine (forebayref08_Normal.calls kj2 _ _ l1 t563 t564 t565 _ ?side1 ?side2 A14.out).mono ?_); (case side1 => repeat (first | exact (Kd.C_below HR1.out HB.out) | (with_reducible refine Kd.C_alloc ?_ _) | (with_reducible refine Kd.C_drewN ?_ _) | (with_reducible refine Kd.C_drew ?_))); (case side2 => exact HC1.out); rintro e w17 ⟨v566, rfl, ho0, hb⟩; refine ⟨_, rfl, ?_⟩; have n0_ := Aside0.mk (Kd.S_elder' (by (with_reducible repeat (first | apply Kd.S_alloc | apply Kd.S_drewN | apply Kd.S_drew)); exact HO562.out) (Kd.S_base ho0) hb); have n1_ := Aside0.mk (Kd.S_lower (Kd.S_new' ho0 (Kd.S_lt (by (with_reducible repeat (first | apply Kd.S_alloc | apply Kd.S_drewN | apply Kd.S_drew)); exact HO562.out))) (below_size (by repeat (first | (with_reducible first | exact HB.out | apply below_alloc | apply pw_below_drewN | apply below_drew1) | exact HB.out)))); have n2_ := Aside0.mk (below_step (by repeat (first | (with_reducible first | exact HB.out | apply below_alloc | apply pw_below_drewN | apply below_drew1) | exact HB.out)) hb); clear HO562; clear HB; have HO562 := n0_; have HO567 := n1_; have HB := n2_; clear n0_ n1_ n2_; (try clear hb); (try clear hb2); (try clear hk); (try clear hi); (try clear ho0)))
    (try simp only [Act.put, List.setIfInBounds_toArray, List.set_cons_zero, List.set_cons_succ])
    go_cut [11] (fun v11 wc => ∃ (kq : Nat) (x11_14 : Bool), v11 = .bool x11_14 ∧ Aside0 (forebaylaw08_BatchEquals.j1 kq l0 l1 x11_14 = some r) ∧ Aside0 (kq ≤ kj2) ∧ Aside0 (Below w.heap.size w wc))
    case first =>
     have H := HC15.out
     clear HC15
     by_cases c18 : t560 = 0
     ·rw [if_pos c18] at H
      have c18b0 : (t560 == 0) = true := beq_iff_eq.mpr c18
      have c18b1 : (t560 != 0) = false := bne_eq_false_iff_eq.mpr c18
      clear c18
      (first | rw [c18b0] | (simp only [i64_w, i32_w]; rw [c18b0]) | skip)
      by_cases c19 : t565 = 0
      ·rw [if_pos c19] at H
       have c19b0 : (t565 == 0) = true := beq_iff_eq.mpr c19
       have c19b1 : (t565 != 0) = false := bne_eq_false_iff_eq.mpr c19
       clear c19
       replace H := Option.bind_eq_some_iff.mp H
       obtain ⟨t568, A200, H⟩ := H
       replace H : (forebaylaw08_BatchEquals.j1 kj2 l0 l1 t568) = some r := H
       have A20 := Aside0.mk A200
       clear A200
       have H' := Aside0.mk H
       clear H
       obtain ⟨Ao21, co21, eo21⟩ := Kd.S_slice HO562.out
       subst eo21
       obtain ⟨Ao22, co22, eo22⟩ := Kd.S_slice HO567.out
       subst eo22
       go_wp2_with (first | (go_at_call 34; (with_reducible refine (forebayref08_Equal.calls kj2 _ _ t558 _ _ t563 t568 _ ?side1 ?side2 ?side3 ?side4 A20.out).mono ?_); (case side1 => repeat (first | exact (Kd.S_reads' HO562.out).2.2 | (with_reducible refine Kd.C_alloc ?_ _) | (with_reducible refine Kd.C_drewN ?_ _) | (with_reducible refine Kd.C_drew ?_))); (case side2 => exact (Kd.S_reads' HO562.out).2.1); (case side3 => repeat (first | exact (Kd.S_reads' HO567.out).2.2 | (with_reducible refine Kd.C_alloc ?_ _) | (with_reducible refine Kd.C_drewN ?_ _) | (with_reducible refine Kd.C_drew ?_))); (case side4 => exact (Kd.S_reads' HO567.out).2.1); rintro e w23 ⟨rfl, hb⟩; have n0_ := Aside0.mk (Kd.S_below (by (with_reducible repeat (first | apply Kd.S_alloc | apply Kd.S_drewN | apply Kd.S_drew)); exact HO562.out) hb); have n1_ := Aside0.mk (Kd.S_below (by (with_reducible repeat (first | apply Kd.S_alloc | apply Kd.S_drewN | apply Kd.S_drew)); exact HO567.out) hb); have n2_ := Aside0.mk (below_step (by repeat (first | (with_reducible first | exact HB.out | apply below_alloc | apply pw_below_drewN | apply below_drew1) | exact HB.out)) hb); clear HO562; clear HO567; clear HB; have HO562 := n0_; have HO567 := n1_; have HB := n2_; clear n0_ n1_ n2_; (try clear hb); (try clear hb2); (try clear hk); (try clear hi)))
       go_meet
       case rel => exact ⟨_, (t568), (by first | rfl | (simp; done) | (simp [*]; done)), H', ⟨by have := HJ2.out; first | omega | exact Nat.le_refl _⟩, ⟨by repeat (first | (with_reducible first | exact HB.out | apply below_alloc | apply pw_below_drewN | apply below_drew1) | exact HB.out)⟩⟩
      ·rw [if_neg c19] at H
       have c19b0 : (t565 == 0) = false := beq_eq_false_iff_ne.mpr c19
       have c19b1 : (t565 != 0) = true := bne_iff_ne.mpr c19
       have H' := Aside0.mk H
       clear H
       go_wp2
       go_meet
       case rel => exact ⟨_, (false), (by first | rfl | (simp; done) | (simp [*]; done)), H', ⟨by have := HJ2.out; first | omega | exact Nat.le_refl _⟩, ⟨by repeat (first | (with_reducible first | exact HB.out | apply below_alloc | apply pw_below_drewN | apply below_drew1) | exact HB.out)⟩⟩
     ·rw [if_neg c18] at H
      have c18b0 : (t560 == 0) = false := beq_eq_false_iff_ne.mpr c18
      have c18b1 : (t560 != 0) = true := bne_iff_ne.mpr c18
      (first | rw [c18b0] | (simp only [i64_w, i32_w]; rw [c18b0]) | skip)
      have H' := Aside0.mk H
      clear H
      go_wp2
      go_meet
      case rel => exact ⟨_, (false), (by first | rfl | (simp; done) | (simp [*]; done)), H', ⟨by have := HJ2.out; first | omega | exact Nat.le_refl _⟩, ⟨by repeat (first | (with_reducible first | exact HB.out | apply below_alloc | apply pw_below_drewN | apply below_drew1) | exact HB.out)⟩⟩
    case rest =>
     clear HC15
     try clear c1
     try clear c2
     try clear p2
     try clear c3
     try clear c5
     try clear c10
     try clear c11
     try clear c18
     try clear c18b0
     try clear c18b1
     try clear c19
     try clear c19b0
     try clear c19b1
     try clear p2
     obtain ⟨kq, x11_14, rfl, HA, HJ14, HB⟩ := hcut
     cases kq with
     | zero => exact absurd HA.out (by simp [forebaylaw08_BatchEquals.j1])
     | succ kj14 =>
      have H := HA.out
      clear HA
      simp only [forebaylaw08_BatchEquals.j1] at H
      replace H := Option.bind_eq_some_iff.mp H
      obtain ⟨t569, A240, H⟩ := H
      replace H : ((forebayref08_Equal.f kj14 l0 l1).bind fun t570 => (if (t569 == t570) = true then ((batch_Same.f l0 l1).bind fun t571 => (if (t571 == x11_14) = true then ((batch_Names.f l0).bind fun t572 => ((forebayref08_Names.f kj14 l0).bind fun t575 => ((forebaylaw08_texts.f kj14 t572 t575).bind fun t578 => (if t578 = true then ((forebaylaw08_awake.f kj14).bind fun t579 => (some t579)) else (none))))) else (none))) else (none))) = some r := H
      have A24 := Aside0.mk A240
      clear A240
      replace H := Option.bind_eq_some_iff.mp H
      obtain ⟨t570, A250, H⟩ := H
      replace H : (if (t569 == t570) = true then ((batch_Same.f l0 l1).bind fun t571 => (if (t571 == x11_14) = true then ((batch_Names.f l0).bind fun t572 => ((forebayref08_Names.f kj14 l0).bind fun t575 => ((forebaylaw08_texts.f kj14 t572 t575).bind fun t578 => (if t578 = true then ((forebaylaw08_awake.f kj14).bind fun t579 => (some t579)) else (none))))) else (none))) else (none)) = some r := H
      have A25 := Aside0.mk A250
      clear A250
      by_cases c26 : (t569 == t570) = true
      ·rw [if_pos c26] at H
       have c26b0 : (t569 == t570) = true := c26
       (try (have c26b1 : decide (t569 = t570) = true := by simpa using c26))
       (try (have c26b2 : (t569 == t570) = true := by simpa using c26))
       clear c26
       replace H := Option.bind_eq_some_iff.mp H
       obtain ⟨t571, A270, H⟩ := H
       replace H : (if (t571 == x11_14) = true then ((batch_Names.f l0).bind fun t572 => ((forebayref08_Names.f kj14 l0).bind fun t575 => ((forebaylaw08_texts.f kj14 t572 t575).bind fun t578 => (if t578 = true then ((forebaylaw08_awake.f kj14).bind fun t579 => (some t579)) else (none))))) else (none)) = some r := H
       have A27 := Aside0.mk A270
       clear A270
       by_cases c28 : (t571 == x11_14) = true
       ·rw [if_pos c28] at H
        have c28b0 : (t571 == x11_14) = true := c28
        (try (have c28b1 : decide (t571 = x11_14) = true := by simpa using c28))
        (try (have c28b2 : (t571 == x11_14) = true := by simpa using c28))
        clear c28
        replace H := Option.bind_eq_some_iff.mp H
        obtain ⟨t572, A290, H⟩ := H
        replace H : ((forebayref08_Names.f kj14 l0).bind fun t575 => ((forebaylaw08_texts.f kj14 t572 t575).bind fun t578 => (if t578 = true then ((forebaylaw08_awake.f kj14).bind fun t579 => (some t579)) else (none)))) = some r := H
        have A29 := Aside0.mk A290
        clear A290
        replace H := Option.bind_eq_some_iff.mp H
        obtain ⟨t575, A300, H⟩ := H
        replace H : ((forebaylaw08_texts.f kj14 t572 t575).bind fun t578 => (if t578 = true then ((forebaylaw08_awake.f kj14).bind fun t579 => (some t579)) else (none))) = some r := H
        have A30 := Aside0.mk A300
        clear A300
        replace H := Option.bind_eq_some_iff.mp H
        obtain ⟨t578, A310, H⟩ := H
        replace H : (if t578 = true then ((forebaylaw08_awake.f kj14).bind fun t579 => (some t579)) else (none)) = some r := H
        have A31 := Aside0.mk A310
        clear A310
        by_cases c32 : t578 = true
        ·subst c32
         have H1 : ((forebaylaw08_awake.f kj14).bind fun t579 => (some t579)) = some r := by rw [if_pos rfl] at H; exact H
         clear H
         have H := H1
         clear H1
         replace H := Option.bind_eq_some_iff.mp H
         obtain ⟨t579, A330, H⟩ := H
         replace H : (some t579) = some r := H
         have A33 := Aside0.mk A330
         clear A330
         obtain rfl := Option.some.inj H
         go_wp2_with (first | ((with_reducible refine gate_callee (f := 37) rfl ?_); refine goesL_ (some 46) rfl rfl Try.func37 (by kernel_rfl) rfl #[.slice A0 l0.length c0, .slice A1 l1.length c1] rfl (by (try simp only [List.map_toArray, List.map_cons, List.map_nil]); first | done | rfl | (simp only [List.length_drop, List.length_take]; rfl)) ?_; (with_reducible refine (batch_Equal.calls _ _ l0 _ _ l1 t569 _ ?side1 ?side2 ?side3 ?side4 A24.out).mono ?_); (case side1 => repeat (first | exact (Kd.C_below HR0.out HB.out) | (with_reducible refine Kd.C_alloc ?_ _) | (with_reducible refine Kd.C_drewN ?_ _) | (with_reducible refine Kd.C_drew ?_))); (case side2 => exact HC0.out); (case side3 => repeat (first | exact (Kd.C_below HR1.out HB.out) | (with_reducible refine Kd.C_alloc ?_ _) | (with_reducible refine Kd.C_drewN ?_ _) | (with_reducible refine Kd.C_drew ?_))); (case side4 => exact HC1.out); rintro e w34 ⟨rfl, hb⟩; refine ⟨_, rfl, ?_⟩; have n0_ := Aside0.mk (below_step (by repeat (first | (with_reducible first | exact HB.out | apply below_alloc | apply pw_below_drewN | apply below_drew1) | exact HB.out)) hb); clear HB; have HB := n0_; clear n0_; (try clear hb); (try clear hb2); (try clear hk); (try clear hi)) | ((with_reducible refine gate_callee (f := 34) rfl ?_); refine goesL_ (some 49) rfl rfl Try.func34 (by kernel_rfl) rfl #[.slice A0 l0.length c0, .slice A1 l1.length c1] rfl (by (try simp only [List.map_toArray, List.map_cons, List.map_nil]); first | done | rfl | (simp only [List.length_drop, List.length_take]; rfl)) ?_; (with_reducible refine (forebayref08_Equal.calls kj14 _ _ l0 _ _ l1 t570 _ ?side1 ?side2 ?side3 ?side4 A25.out).mono ?_); (case side1 => repeat (first | exact (Kd.C_below HR0.out HB.out) | (with_reducible refine Kd.C_alloc ?_ _) | (with_reducible refine Kd.C_drewN ?_ _) | (with_reducible refine Kd.C_drew ?_))); (case side2 => exact HC0.out); (case side3 => repeat (first | exact (Kd.C_below HR1.out HB.out) | (with_reducible refine Kd.C_alloc ?_ _) | (with_reducible refine Kd.C_drewN ?_ _) | (with_reducible refine Kd.C_drew ?_))); (case side4 => exact HC1.out); rintro e w35 ⟨rfl, hb⟩; refine ⟨_, rfl, ?_⟩; have n0_ := Aside0.mk (below_step (by repeat (first | (with_reducible first | exact HB.out | apply below_alloc | apply pw_below_drewN | apply below_drew1) | exact HB.out)) hb); clear HB; have HB := n0_; clear n0_; (try clear hb); (try clear hb2); (try clear hk); (try clear hi)) | (go_at_call 38; (with_reducible refine (batch_Same.calls _ _ l0 _ _ l1 t571 _ ?side1 ?side2 ?side3 ?side4 A27.out).mono ?_); (case side1 => repeat (first | exact (Kd.C_below HR0.out HB.out) | (with_reducible refine Kd.C_alloc ?_ _) | (with_reducible refine Kd.C_drewN ?_ _) | (with_reducible refine Kd.C_drew ?_))); (case side2 => exact HC0.out); (case side3 => repeat (first | exact (Kd.C_below HR1.out HB.out) | (with_reducible refine Kd.C_alloc ?_ _) | (with_reducible refine Kd.C_drewN ?_ _) | (with_reducible refine Kd.C_drew ?_))); (case side4 => exact HC1.out); rintro e w36 ⟨rfl, hb⟩; have n0_ := Aside0.mk (below_step (by repeat (first | (with_reducible first | exact HB.out | apply below_alloc | apply pw_below_drewN | apply below_drew1) | exact HB.out)) hb); clear HB; have HB := n0_; clear n0_; (try clear hb); (try clear hb2); (try clear hk); (try clear hi)) | (go_at_call 35; (with_reducible refine (batch_Names.calls _ _ l0 t572 _ ?side1 ?side2 A29.out).mono ?_); (case side1 => repeat (first | exact (Kd.C_below HR0.out HB.out) | (with_reducible refine Kd.C_alloc ?_ _) | (with_reducible refine Kd.C_drewN ?_ _) | (with_reducible refine Kd.C_drew ?_))); (case side2 => exact HC0.out); rintro e w37 ⟨v573, rfl, ho0, hb⟩; have n0_ := Aside0.mk (Kd.R_lower ho0 (below_size (by repeat (first | (with_reducible first | exact HB.out | apply below_alloc | apply pw_below_drewN | apply below_drew1) | exact HB.out)))); have n1_ := Aside0.mk (below_step (by repeat (first | (with_reducible first | exact HB.out | apply below_alloc | apply pw_below_drewN | apply below_drew1) | exact HB.out)) hb); clear HB; have HO574 := n0_; have HB := n1_; clear n0_ n1_; (try clear hb); (try clear hb2); (try clear hk); (try clear hi); (try clear ho0)) | (go_at_call 39; (with_reducible refine (forebayref08_Names.calls kj14 _ _ l0 t575 _ ?side1 ?side2 A30.out).mono ?_); (case side1 => repeat (first | exact (Kd.C_below HR0.out HB.out) | (with_reducible refine Kd.C_alloc ?_ _) | (with_reducible refine Kd.C_drewN ?_ _) | (with_reducible refine Kd.C_drew ?_))); (case side2 => exact HC0.out); rintro e w38 ⟨v576, rfl, ho0, hb⟩; have n0_ := Aside0.mk (Kd.R_elder' (by (with_reducible repeat (first | apply Kd.R_alloc | apply Kd.R_drewN | apply Kd.R_drew)); exact HO574.out) (Kd.R_base ho0) hb); have n1_ := Aside0.mk (Kd.R_lower (Kd.R_new' ho0 (Kd.R_lt (by (with_reducible repeat (first | apply Kd.R_alloc | apply Kd.R_drewN | apply Kd.R_drew)); exact HO574.out))) (below_size (by repeat (first | (with_reducible first | exact HB.out | apply below_alloc | apply pw_below_drewN | apply below_drew1) | exact HB.out)))); have n2_ := Aside0.mk (below_step (by repeat (first | (with_reducible first | exact HB.out | apply below_alloc | apply pw_below_drewN | apply below_drew1) | exact HB.out)) hb); clear HO574; clear HB; have HO574 := n0_; have HO577 := n1_; have HB := n2_; clear n0_ n1_ n2_; (try clear hb); (try clear hb2); (try clear hk); (try clear hi); (try clear ho0); obtain ⟨Ao39, co39, eo39⟩ := Kd.R_slice HO574.out; subst eo39; obtain ⟨Ao40, co40, eo40⟩ := Kd.R_slice HO577.out; subst eo40) | (go_at_call 36; (with_reducible refine (forebaylaw08_texts.calls kj14 _ _ t572 _ _ t575 true _ ?side1 ?side2 ?side3 ?side4 A31.out).mono ?_); (case side1 => repeat (first | exact (Kd.R_reads' HO574.out).2.2 | (with_reducible refine Kd.C_alloc ?_ _) | (with_reducible refine Kd.C_drewN ?_ _) | (with_reducible refine Kd.C_drew ?_))); (case side2 => exact (Kd.R_reads' HO574.out).2.1); (case side3 => repeat (first | exact (Kd.R_reads' HO577.out).2.2 | (with_reducible refine Kd.C_alloc ?_ _) | (with_reducible refine Kd.C_drewN ?_ _) | (with_reducible refine Kd.C_drew ?_))); (case side4 => exact (Kd.R_reads' HO577.out).2.1); rintro e w' ⟨rfl, ⟨nd, rfl⟩⟩) | (go_at_call 29; (with_reducible refine (forebaylaw08_awake.calls kj14  t579 _ A33.out).mono ?_); rintro e w41 ⟨rfl, hb⟩; have n0_ := Aside0.mk (Kd.R_below (by (with_reducible repeat (first | apply Kd.R_alloc | apply Kd.R_drewN | apply Kd.R_drew)); exact HO574.out) hb); have n1_ := Aside0.mk (Kd.R_below (by (with_reducible repeat (first | apply Kd.R_alloc | apply Kd.R_drewN | apply Kd.R_drew)); exact HO577.out) hb); have n2_ := Aside0.mk (below_step (by repeat (first | (with_reducible first | exact HB.out | apply below_alloc | apply pw_below_drewN | apply below_drew1) | exact HB.out)) hb); clear HO574; clear HO577; clear HB; have HO574 := n0_; have HO577 := n1_; have HB := n2_; clear n0_ n1_ n2_; (try clear hb); (try clear hb2); (try clear hk); (try clear hi)))
         go_ret
         exact ⟨by first | rfl | (simp [errW_none, errW_some] <;> rfl) | (simp [*, errW_none, errW_some] <;> rfl), by repeat (first | (with_reducible first | exact HB.out | apply below_alloc | apply pw_below_drewN | apply below_drew1) | exact HB.out)⟩
        ·replace c32 := Bool.eq_false_iff.mpr c32
         subst c32
         have H1 : (none) = some r := by rw [if_neg (show ¬ (false = true) by decide)] at H; exact H
         clear H
         have H := H1
         clear H1
         exact absurd H (by simp)
       ·rw [if_neg c28] at H
        exact absurd H (by simp)
      ·rw [if_neg c26] at H
       exact absurd H (by simp)
/-! ### forebaylaw08_BatchOnce: function 12 -/
mutual
def forebaylaw08_BatchOnce.j1 : Nat → List (S25) → List (S25) → Bool → Option (Bool)
 | 0, _, _, _ => none
 | k + 1, x0, x3, x103 => if x103 = true then (none) else (forebaylaw08_BatchOnce.l0 k x0 x3 0)
def forebaylaw08_BatchOnce.l0 : Nat → List (S25) → List (S25) → Int → Option (Bool)
 | 0, _, _, _ => none
 | k + 1, x0, x3, x14 => if x14 < (x0.length : Int) then (if 0 ≤ x14 then ((metric_Normal.f ((rd_T25 x0 x14).f0) ((rd_T25 x0 x14).f1) ((rd_T25 x0 x14).f2) ((rd_T25 x0 x14).f3) ((rd_T25 x0 x14).f4) ((rd_T25 x0 x14).f5)).bind fun bt620 => (if bt620.2.2.2.2.2.2 = 0 then (if x14 < (x3.length : Int) then ((metric_Equal.f k bt620.1 bt620.2.1 bt620.2.2.1 bt620.2.2.2.1 bt620.2.2.2.2.1 bt620.2.2.2.2.2.1 ((rd_T25 x3 x14).f0) ((rd_T25 x3 x14).f1) ((rd_T25 x3 x14).f2) ((rd_T25 x3 x14).f3) ((rd_T25 x3 x14).f4) ((rd_T25 x3 x14).f5)).bind fun t633 => (if t633 = true then ((metric_Same.f k ((rd_T25 x0 x14).f0) ((rd_T25 x0 x14).f1) ((rd_T25 x0 x14).f2) ((rd_T25 x0 x14).f3) ((rd_T25 x0 x14).f4) ((rd_T25 x0 x14).f5) ((rd_T25 x3 x14).f0) ((rd_T25 x3 x14).f1) ((rd_T25 x3 x14).f2) ((rd_T25 x3 x14).f3) ((rd_T25 x3 x14).f4) ((rd_T25 x3 x14).f5)).bind fun t636 => (if t636 = true then (forebaylaw08_BatchOnce.l0 k x0 x3 (wrap64 (x14 + 1))) else (none))) else (none))) else (none)) else (none))) else (none)) else ((forebaylaw08_awake.f k).bind fun t618 => (some t618))
def forebaylaw08_BatchOnce.j0 : Nat → List (S25) → Int → Int → Bool → Option (Bool)
 | 0, _, _, _, _ => none
 | k + 1, x0, x4, x5, x46 => if x46 = true then (none) else (if 0 ≤ x4 then (if x4 < (x0.length : Int) then ((metric_Normal.f ((rd_T25 x0 x4).f0) ((rd_T25 x0 x4).f1) ((rd_T25 x0 x4).f2) ((rd_T25 x0 x4).f3) ((rd_T25 x0 x4).f4) ((rd_T25 x0 x4).f5)).bind fun bt589 => (if x4 ≤ (x0.length : Int) then ((batch_Normal.f (x0.take (x4 : Int).toNat)).bind fun bt605 => (if bt589.2.2.2.2.2.2 = x5 then (if bt605.2.2 = 0 then ((forebaylaw08_awake.f k).bind fun t610 => (some t610)) else (none)) else (none))) else (none))) else (none)) else (none))
end
end Go.Proofs.Yteamldgngknmfaa.PE
