-- Printed by the kit's print.py over contracts of this session's own.
import Derived.Test.YtbdennijmfgdpaaUExB
import Derived.Test.YtbdennijmfgdpaaUInj
import Derived.Test.YtbdennijmfgdpaaUPEx0
import Derived.Test.YtbdennijmfgdpaaUPEx7
import Derived.Test.YtbdennijmfgdpaaUPEx8
import Derived.Test.YtbdennijmfgdpaaUPEx10
import Derived.Test.YtbdennijmfgdpaaUPEx11
namespace Go.Proofs.Ytbdennijmfgdpaa.PE
open Go.RowKit Go.Proofs.YtbdennijmfgdpaaW.PrintWords Go.Proofs.YtbdennijmfgdpaaW.PrintLast Go.Proofs.YtbdennijmfgdpaaW.PrintMore
attribute [local go_sem] max2_int min2_int max_two min_two max_three min_three max_four min_four   -- for this text's walks alone
set_option linter.unusedVariables false
set_option linter.unusedSimpArgs false
/-! ### forebaylaw09_ExprSays: function 4 -/
def forebaylaw09_ExprSays.l0 : Nat → Int → List Int → Int → Int → ByteArray → Int → List (S46) → Int → List (S48) → Int → Option (Bool)
  | 0, _, _, _, _, _, _, _, _, _, _ => none
  | k + 1, x1, x5, x6, x7, x307000, x307001, x307002, x307003, x307004, x307005 => if x7 ≤ 4 then ((forebayref09_Metric.f k x307000 x307001 x307002 x307003 x307004 x307005 x7).bind fun t315 => (if t315 = 0 then (if x6 ≥ (x5.length : Int) then (none) else (if 0 ≤ x6 then (if x6 < (x5.length : Int) then (if (rd x5 x6) = x7 then (forebaylaw09_ExprSays.l0 k x1 x5 (wrap64 (x6 + 1)) (wrap64 (x7 + 1)) x307000 x307001 x307002 x307003 x307004 x307005) else (none)) else (none)) else (none))) else (forebaylaw09_ExprSays.l0 k x1 x5 x6 (wrap64 (x7 + 1)) x307000 x307001 x307002 x307003 x307004 x307005))) else (if x6 = (x5.length : Int) then ((expr_Metric.f x307000 x307001 x307002 x307003 x307004 x307005 x1).bind fun t312 => ((forebayref09_Metric.f k x307000 x307001 x307002 x307003 x307004 x307005 x1).bind fun t313 => (if t312 = t313 then ((forebaylaw09_awake.f k).bind fun t314 => (some t314)) else (none)))) else (none))
/-! ### forebaylaw09_ExprBatches: function 5 -/
def forebaylaw09_ExprBatches.f (k : Nat) (l0 : List (S25)) (a1 : Int) : Option (Bool) := (forebaylaw08_Few.f k l0).bind fun t317 => (if t317 = true then ((expr_Batch.f l0 a1).bind fun bt318 => ((forebayref09_Batch.f k l0 a1).bind fun bt320 => (if bt318.1 = bt320.1 then (if bt318.2 = bt320.2 then ((forebaylaw09_awake.f k).bind fun t322 => (some t322)) else (none)) else (none)))) else ((forebaylaw09_awake.f k).bind fun t323 => (some t323)))
set_option maxHeartbeats 8000000 in
set_option maxRecDepth 100000 in
theorem forebaylaw09_ExprBatches.calls (k : Nat) (A0 : Option Addr) (c0 : Nat) (l0 : List (S25)) (a1 : Int) (r : Bool) (w : World) (hr0 : Kd.C k25 w A0 l0.length l0) (hc0 : l0.length ≤ c0) (h : forebaylaw09_ExprBatches.f k l0 a1 = some r) :
    Calls Try.prog 5 #[.slice A0 l0.length c0, .int .i64 a1] w fun e w' => e = .returned (.bool r) ∧ Below w.heap.size w w' := by
  have HR0 := Aside0.mk hr0
  have HC0 := Aside0.mk hc0
  clear hr0 hc0
  have HB := Aside0.mk (Below.refl w.heap.size w)
  have H : ((forebaylaw08_Few.f k l0).bind fun t317 => (if t317 = true then ((expr_Batch.f l0 a1).bind fun bt318 => ((forebayref09_Batch.f k l0 a1).bind fun bt320 => (if bt318.1 = bt320.1 then (if bt318.2 = bt320.2 then ((forebaylaw09_awake.f k).bind fun t322 => (some t322)) else (none)) else (none)))) else ((forebaylaw09_awake.f k).bind fun t323 => (some t323)))) = some r := h
  clear h
  replace H := Option.bind_eq_some_iff.mp H
  obtain ⟨t317, A30, H⟩ := H
  replace H : (if t317 = true then ((expr_Batch.f l0 a1).bind fun bt318 => ((forebayref09_Batch.f k l0 a1).bind fun bt320 => (if bt318.1 = bt320.1 then (if bt318.2 = bt320.2 then ((forebaylaw09_awake.f k).bind fun t322 => (some t322)) else (none)) else (none)))) else ((forebaylaw09_awake.f k).bind fun t323 => (some t323))) = some r := H
  have A3 := Aside0.mk A30
  clear A30
  by_cases c4 : t317 = true
  · subst c4
    have H1 : ((expr_Batch.f l0 a1).bind fun bt318 => ((forebayref09_Batch.f k l0 a1).bind fun bt320 => (if bt318.1 = bt320.1 then (if bt318.2 = bt320.2 then ((forebaylaw09_awake.f k).bind fun t322 => (some t322)) else (none)) else (none)))) = some r := by rw [if_pos rfl] at H; exact H
    clear H
    have H := H1
    clear H1
    replace H := Option.bind_eq_some_iff.mp H
    obtain ⟨⟨t318, t319⟩, A50, H⟩ := H
    replace H : ((forebayref09_Batch.f k l0 a1).bind fun bt320 => (if t318 = bt320.1 then (if t319 = bt320.2 then ((forebaylaw09_awake.f k).bind fun t322 => (some t322)) else (none)) else (none))) = some r := H
    have A5 := Aside0.mk A50
    clear A50
    replace H := Option.bind_eq_some_iff.mp H
    obtain ⟨⟨t320, t321⟩, A60, H⟩ := H
    replace H : (if t318 = t320 then (if t319 = t321 then ((forebaylaw09_awake.f k).bind fun t322 => (some t322)) else (none)) else (none)) = some r := H
    have A6 := Aside0.mk A60
    clear A60
    by_cases c7 : t318 = t320
    · rw [if_pos c7] at H
      have c7b0 : (t318 == t320) = true := beq_iff_eq.mpr c7
      have c7b1 : (t318 != t320) = false := bne_eq_false_iff_eq.mpr c7
      clear c7
      by_cases c8 : t319 = t321
      · rw [if_pos c8] at H
        have c8b0 : (t319 == t321) = true := beq_iff_eq.mpr c8
        have c8b1 : (t319 != t321) = false := bne_eq_false_iff_eq.mpr c8
        clear c8
        replace H := Option.bind_eq_some_iff.mp H
        obtain ⟨t322, A90, H⟩ := H
        replace H : (some t322) = some r := H
        have A9 := Aside0.mk A90
        clear A90
        obtain rfl := Option.some.inj H
        go_enter Try.func5, Try.ntmps5
        go_wp2_with (first | ((with_reducible refine gate_callee (f := 20) rfl ?_); refine goesL_ (some 10) rfl rfl Try.func20 (by kernel_rfl) rfl #[.slice A0 l0.length c0] rfl (by (try simp only [List.map_toArray, List.map_cons, List.map_nil]); first | done | rfl | (simp only [List.length_drop, List.length_take]; rfl)) ?_; (with_reducible refine (forebaylaw08_Few.calls k _ _ l0 true _ ?side1 ?side2 A3.out).mono ?_); (case side1 => repeat (first | exact HR0.out | (with_reducible refine Kd.C_alloc ?_ _) | (with_reducible refine Kd.C_drewN ?_ _) | (with_reducible refine Kd.C_drew ?_))); (case side2 => exact HC0.out); rintro e w10 ⟨rfl, hb⟩; refine ⟨_, rfl, ?_⟩; have n0_ := Aside0.mk (below_step (by repeat (first | (with_reducible first | exact HB.out | apply below_alloc | apply pw_below_drewN | apply below_drew1) | exact HB.out)) hb); clear HB; have HB := n0_; clear n0_; (try clear hb); (try clear hb2); (try clear hk); (try clear hi)) | ((with_reducible refine gate_callee (f := 21) rfl ?_); refine goesL_ (some 16) rfl rfl Try.func21 (by kernel_rfl) rfl #[.slice A0 l0.length c0, .int .i64 a1] rfl (by (try simp only [List.map_toArray, List.map_cons, List.map_nil]); first | done | rfl | (simp only [List.length_drop, List.length_take]; rfl)) ?_; (with_reducible refine (expr_Batch.calls _ _ l0 a1 t318 t319 _ ?side1 ?side2 A5.out).mono ?_); (case side1 => repeat (first | exact (Kd.C_below HR0.out HB.out) | (with_reducible refine Kd.C_alloc ?_ _) | (with_reducible refine Kd.C_drewN ?_ _) | (with_reducible refine Kd.C_drew ?_))); (case side2 => exact HC0.out); rintro e w11 ⟨rfl, hb⟩; refine ⟨_, rfl, ?_⟩; have n0_ := Aside0.mk (below_step (by repeat (first | (with_reducible first | exact HB.out | apply below_alloc | apply pw_below_drewN | apply below_drew1) | exact HB.out)) hb); clear HB; have HB := n0_; clear n0_; (try clear hb); (try clear hb2); (try clear hk); (try clear hi)) | ((with_reducible refine gate_callee (f := 22) rfl ?_); refine goesL_ (some 22) rfl rfl Try.func22 (by kernel_rfl) rfl #[.slice A0 l0.length c0, .int .i64 a1] rfl (by (try simp only [List.map_toArray, List.map_cons, List.map_nil]); first | done | rfl | (simp only [List.length_drop, List.length_take]; rfl)) ?_; (with_reducible refine (forebayref09_Batch.calls k _ _ l0 a1 t320 t321 _ ?side1 ?side2 A6.out).mono ?_); (case side1 => repeat (first | exact (Kd.C_below HR0.out HB.out) | (with_reducible refine Kd.C_alloc ?_ _) | (with_reducible refine Kd.C_drewN ?_ _) | (with_reducible refine Kd.C_drew ?_))); (case side2 => exact HC0.out); rintro e w12 ⟨rfl, hb⟩; refine ⟨_, rfl, ?_⟩; have n0_ := Aside0.mk (below_step (by repeat (first | (with_reducible first | exact HB.out | apply below_alloc | apply pw_below_drewN | apply below_drew1) | exact HB.out)) hb); clear HB; have HB := n0_; clear n0_; (try clear hb); (try clear hb2); (try clear hk); (try clear hi)) | (go_at_call 13; (with_reducible refine (forebaylaw09_awake.calls k  t322 _ A9.out).mono ?_); rintro e w13 ⟨rfl, hb⟩; have n0_ := Aside0.mk (below_step (by repeat (first | (with_reducible first | exact HB.out | apply below_alloc | apply pw_below_drewN | apply below_drew1) | exact HB.out)) hb); clear HB; have HB := n0_; clear n0_; (try clear hb); (try clear hb2); (try clear hk); (try clear hi)))
        go_ret
        exact ⟨by first | rfl | (simp [errW_none, errW_some] <;> rfl) | (simp [*, errW_none, errW_some] <;> rfl), by repeat (first | (with_reducible first | exact HB.out | apply below_alloc | apply pw_below_drewN | apply below_drew1) | exact HB.out)⟩
      · rw [if_neg c8] at H
        exact absurd H (by simp)
    · rw [if_neg c7] at H
      exact absurd H (by simp)
  · replace c4 := Bool.eq_false_iff.mpr c4
    subst c4
    have H1 : ((forebaylaw09_awake.f k).bind fun t323 => (some t323)) = some r := by rw [if_neg (show ¬ (false = true) by decide)] at H; exact H
    clear H
    have H := H1
    clear H1
    replace H := Option.bind_eq_some_iff.mp H
    obtain ⟨t323, A140, H⟩ := H
    replace H : (some t323) = some r := H
    have A14 := Aside0.mk A140
    clear A140
    obtain rfl := Option.some.inj H
    go_enter Try.func5, Try.ntmps5
    go_wp2_with (first | ((with_reducible refine gate_callee (f := 20) rfl ?_); refine goesL_ (some 10) rfl rfl Try.func20 (by kernel_rfl) rfl #[.slice A0 l0.length c0] rfl (by (try simp only [List.map_toArray, List.map_cons, List.map_nil]); first | done | rfl | (simp only [List.length_drop, List.length_take]; rfl)) ?_; (with_reducible refine (forebaylaw08_Few.calls k _ _ l0 false _ ?side1 ?side2 A3.out).mono ?_); (case side1 => repeat (first | exact HR0.out | (with_reducible refine Kd.C_alloc ?_ _) | (with_reducible refine Kd.C_drewN ?_ _) | (with_reducible refine Kd.C_drew ?_))); (case side2 => exact HC0.out); rintro e w15 ⟨rfl, hb⟩; refine ⟨_, rfl, ?_⟩; have n0_ := Aside0.mk (below_step (by repeat (first | (with_reducible first | exact HB.out | apply below_alloc | apply pw_below_drewN | apply below_drew1) | exact HB.out)) hb); clear HB; have HB := n0_; clear n0_; (try clear hb); (try clear hb2); (try clear hk); (try clear hi)) | ((with_reducible refine gate_callee (f := 13) rfl ?_); refine goesL_ (some 12) rfl rfl Try.func13 (by kernel_rfl) rfl #[] rfl (by (try simp only [List.map_toArray, List.map_cons, List.map_nil]); first | done | rfl | (simp only [List.length_drop, List.length_take]; rfl)) ?_; (with_reducible refine (forebaylaw09_awake.calls k  t323 _ A14.out).mono ?_); rintro e w16 ⟨rfl, hb⟩; refine ⟨_, rfl, ?_⟩; have n0_ := Aside0.mk (below_step (by repeat (first | (with_reducible first | exact HB.out | apply below_alloc | apply pw_below_drewN | apply below_drew1) | exact HB.out)) hb); clear HB; have HB := n0_; clear n0_; (try clear hb); (try clear hb2); (try clear hk); (try clear hi)))
    go_ret
    exact ⟨by first | rfl | (simp [errW_none, errW_some] <;> rfl) | (simp [*, errW_none, errW_some] <;> rfl), by repeat (first | (with_reducible first | exact HB.out | apply below_alloc | apply pw_below_drewN | apply below_drew1) | exact HB.out)⟩
/-! ### forebaylaw09_ExprSome: function 6 -/
mutual
def forebaylaw09_ExprSome.l0 : Nat → List (S25) → Int → Int → Int → Int → Option (Bool)
  | 0, _, _, _, _, _ => none
  | k + 1, x0, x1, x5, x6, x7 => if x7 < (x0.length : Int) then (if 0 ≤ x7 then ((metric_Check.f ((rd_T25 x0 x7).f0) ((rd_T25 x0 x7).f1) ((rd_T25 x0 x7).f2) ((rd_T25 x0 x7).f3) ((rd_T25 x0 x7).f4) ((rd_T25 x0 x7).f5)).bind fun t327 => ((expr_Metric.f ((rd_T25 x0 x7).f0) ((rd_T25 x0 x7).f1) ((rd_T25 x0 x7).f2) ((rd_T25 x0 x7).f3) ((rd_T25 x0 x7).f4) ((rd_T25 x0 x7).f5) 1).bind fun t329 => ((expr_Metric.f ((rd_T25 x0 x7).f0) ((rd_T25 x0 x7).f1) ((rd_T25 x0 x7).f2) ((rd_T25 x0 x7).f3) ((rd_T25 x0 x7).f4) ((rd_T25 x0 x7).f5) 2).bind fun t331 => ((expr_Metric.f ((rd_T25 x0 x7).f0) ((rd_T25 x0 x7).f1) ((rd_T25 x0 x7).f2) ((rd_T25 x0 x7).f3) ((rd_T25 x0 x7).f4) ((rd_T25 x0 x7).f5) 3).bind fun t333 => ((expr_Metric.f ((rd_T25 x0 x7).f0) ((rd_T25 x0 x7).f1) ((rd_T25 x0 x7).f2) ((rd_T25 x0 x7).f3) ((rd_T25 x0 x7).f4) ((rd_T25 x0 x7).f5) 4).bind fun t335 => (if t331 = t327 then (if t335 = t327 then (if t329 = 0 then (if t327 = 0 then (if t333 = 0 then (forebaylaw09_ExprSome.j1 k x0 x1 x5 x6 x7 t327 true) else (forebaylaw09_ExprSome.j1 k x0 x1 x5 x6 x7 t327 false)) else (forebaylaw09_ExprSome.j1 k x0 x1 x5 x6 x7 t327 true)) else (if t333 = 0 then (forebaylaw09_ExprSome.j1 k x0 x1 x5 x6 x7 t327 (t327 != 0)) else (forebaylaw09_ExprSome.j1 k x0 x1 x5 x6 x7 t327 false))) else (forebaylaw09_ExprSome.j1 k x0 x1 x5 x6 x7 t327 true)) else (forebaylaw09_ExprSome.j1 k x0 x1 x5 x6 x7 t327 true))))))) else (none)) else ((expr_Batch.f x0 x1).bind fun bt340 => (if x1 < 1 then (forebaylaw09_ExprSome.j3 k x0 x5 x6 bt340.1 bt340.2 true) else (forebaylaw09_ExprSome.j3 k x0 x5 x6 bt340.1 bt340.2 (decide (x1 > 4)))))
def forebaylaw09_ExprSome.j1 : Nat → List (S25) → Int → Int → Int → Int → Int → Bool → Option (Bool)
  | 0, _, _, _, _, _, _, _ => none
  | k + 1, x0, x1, x5, x6, x7, x8, x77 => if x77 = true then (none) else (if x8 = 0 then (forebaylaw09_ExprSome.j2 k x0 x1 x5 x6 x7 false) else (forebaylaw09_ExprSome.j2 k x0 x1 x5 x6 x7 (decide (x6 < 0))))
def forebaylaw09_ExprSome.j2 : Nat → List (S25) → Int → Int → Int → Int → Bool → Option (Bool)
  | 0, _, _, _, _, _, _ => none
  | k + 1, x0, x1, x5, x6, x7, x83 => if x83 = true then (if 0 ≤ x7 then (if x7 < (x0.length : Int) then ((expr_Metric.f ((rd_T25 x0 x7).f0) ((rd_T25 x0 x7).f1) ((rd_T25 x0 x7).f2) ((rd_T25 x0 x7).f3) ((rd_T25 x0 x7).f4) ((rd_T25 x0 x7).f5) x1).bind fun t337 => (if t337 = 0 then (forebaylaw09_ExprSome.l0 k x0 x1 x5 x7 (wrap64 (x7 + 1))) else (if x5 < 0 then (forebaylaw09_ExprSome.l0 k x0 x1 x7 x7 (wrap64 (x7 + 1))) else (forebaylaw09_ExprSome.l0 k x0 x1 x5 x7 (wrap64 (x7 + 1)))))) else (none)) else (none)) else (if 0 ≤ x7 then (if x7 < (x0.length : Int) then ((expr_Metric.f ((rd_T25 x0 x7).f0) ((rd_T25 x0 x7).f1) ((rd_T25 x0 x7).f2) ((rd_T25 x0 x7).f3) ((rd_T25 x0 x7).f4) ((rd_T25 x0 x7).f5) x1).bind fun t339 => (if t339 = 0 then (forebaylaw09_ExprSome.l0 k x0 x1 x5 x6 (wrap64 (x7 + 1))) else (if x5 < 0 then (forebaylaw09_ExprSome.l0 k x0 x1 x7 x6 (wrap64 (x7 + 1))) else (forebaylaw09_ExprSome.l0 k x0 x1 x5 x6 (wrap64 (x7 + 1)))))) else (none)) else (none))
def forebaylaw09_ExprSome.j3 : Nat → List (S25) → Int → Int → Int → Int → Bool → Option (Bool)
  | 0, _, _, _, _, _, _ => none
  | k + 1, x0, x5, x6, x13, x14, x108 => if x108 = true then (if x13 = 0 then (if x14 = 29 then ((forebaylaw09_awake.f k).bind fun t342 => (some t342)) else (none)) else (none)) else (if x6 ≥ 0 then (if x13 = x6 then (if 0 ≤ x6 then (if x6 < (x0.length : Int) then ((metric_Check.f ((rd_T25 x0 x6).f0) ((rd_T25 x0 x6).f1) ((rd_T25 x0 x6).f2) ((rd_T25 x0 x6).f3) ((rd_T25 x0 x6).f4) ((rd_T25 x0 x6).f5)).bind fun t344 => (if x14 = t344 then ((forebaylaw09_awake.f k).bind fun t345 => (some t345)) else (none))) else (none)) else (none)) else (none)) else (if x5 ≥ 0 then (if x13 = x5 then (if x14 = 26 then ((forebaylaw09_awake.f k).bind fun t346 => (some t346)) else (none)) else (none)) else (if x13 = 0 then (if x14 = 0 then ((forebaylaw09_awake.f k).bind fun t347 => (some t347)) else (none)) else (none))))
end
end Go.Proofs.Ytbdennijmfgdpaa.PE
