-- Printed by the kit's print.py over contracts of this session's own.
import Derived.Test.YtbdennijmfgdpaaVExB
import Derived.Test.YtbdennijmfgdpaaVInj
import Derived.Test.YtbdennijmfgdpaaVPEx0
import Derived.Test.YtbdennijmfgdpaaVPEx7
import Derived.Test.YtbdennijmfgdpaaVPEx8
import Derived.Test.YtbdennijmfgdpaaVPEx10
import Derived.Test.YtbdennijmfgdpaaVPEx11
namespace Go.Proofs.Ytbdennijmfgdpaa.PE
open Go.RowKit Go.Proofs.YtbdennijmfgdpaaW.PrintWords Go.Proofs.YtbdennijmfgdpaaW.PrintLast Go.Proofs.YtbdennijmfgdpaaW.PrintMore
attribute [local go_sem] max2_int min2_int max_two min_two max_three min_three max_four min_four   -- for this text's walks alone
set_option linter.unusedVariables false
set_option linter.unusedSimpArgs false
/-! ### forebaylaw09_ExprSays: function 4 -/
def forebaylaw09_ExprSays.l0 : Nat → Int → List Int → Int → Int → ByteArray → Int → List (S46) → Int → List (S48) → Int → Option (Bool)
  | 0, _, _, _, _, _, _, _, _, _, _ => none
  | k + 1, x1, x5, x6, x7, x307000, x307001, x307002, x307003, x307004, x307005 => if x7 ≤ 4 then ((forebayref09_Metric.f k x307000 x307001 x307002 x307003 x307004 x307005 x7).bind fun t315 => (if t315 = 0 then (if x6 ≥ (x5.length : Int) then (none) else (if 0 ≤ x6 then (if x6 < (x5.length : Int) then (if (rd x5 x6) = x7 then (forebaylaw09_ExprSays.l0 k x1 x5 (wrap64 (x6 + 1)) (wrap64 (x7 + 1)) x307000 x307001 x307002 x307003 x307004 x307005) else (none)) else (none)) else (none))) else (forebaylaw09_ExprSays.l0 k x1 x5 x6 (wrap64 (x7 + 1)) x307000 x307001 x307002 x307003 x307004 x307005))) else (if x6 = (x5.length : Int) then ((expr_Metric.f x307000 x307001 x307002 x307003 x307004 x307005 x1).bind fun t312 => ((forebayref09_Metric.f k x307000 x307001 x307002 x307003 x307004 x307005 x1).bind fun t313 => (if t312 = t313 then ((forebaylaw09_awake.f k).bind fun t314 => (some t314)) else (none)))) else (none))
/-! ### forebaylaw09_ExprBatches: function 5 -/
/-! ### forebaylaw09_ExprSome: function 6 -/
mutual
def forebaylaw09_ExprSome.l0 : Nat → List (S25) → Int → Int → Int → Int → Option (Bool)
  | 0, _, _, _, _, _ => none
  | k + 1, x0, x1, x5, x6, x7 => if x7 < (x0.length : Int) then (if 0 ≤ x7 then ((metric_Check.f ((rd_T25 x0 x7).f0) ((rd_T25 x0 x7).f1) ((rd_T25 x0 x7).f2) ((rd_T25 x0 x7).f3) ((rd_T25 x0 x7).f4) ((rd_T25 x0 x7).f5)).bind fun t327 => ((expr_Metric.f ((rd_T25 x0 x7).f0) ((rd_T25 x0 x7).f1) ((rd_T25 x0 x7).f2) ((rd_T25 x0 x7).f3) ((rd_T25 x0 x7).f4) ((rd_T25 x0 x7).f5) 1).bind fun t329 => ((expr_Metric.f ((rd_T25 x0 x7).f0) ((rd_T25 x0 x7).f1) ((rd_T25 x0 x7).f2) ((rd_T25 x0 x7).f3) ((rd_T25 x0 x7).f4) ((rd_T25 x0 x7).f5) 2).bind fun t331 => ((expr_Metric.f ((rd_T25 x0 x7).f0) ((rd_T25 x0 x7).f1) ((rd_T25 x0 x7).f2) ((rd_T25 x0 x7).f3) ((rd_T25 x0 x7).f4) ((rd_T25 x0 x7).f5) 3).bind fun t333 => ((expr_Metric.f ((rd_T25 x0 x7).f0) ((rd_T25 x0 x7).f1) ((rd_T25 x0 x7).f2) ((rd_T25 x0 x7).f3) ((rd_T25 x0 x7).f4) ((rd_T25 x0 x7).f5) 4).bind fun t335 => (if t331 = t327 then (if t335 = t327 then (if t329 = 0 then (if t327 = 0 then (if t333 = 0 then (forebaylaw09_ExprSome.j1 k x0 x1 x5 x6 x7 t327 true) else (forebaylaw09_ExprSome.j1 k x0 x1 x5 x6 x7 t327 false)) else (forebaylaw09_ExprSome.j1 k x0 x1 x5 x6 x7 t327 true)) else (if t333 = 0 then (forebaylaw09_ExprSome.j1 k x0 x1 x5 x6 x7 t327 (t327 != 0)) else (forebaylaw09_ExprSome.j1 k x0 x1 x5 x6 x7 t327 false))) else (forebaylaw09_ExprSome.j1 k x0 x1 x5 x6 x7 t327 true)) else (forebaylaw09_ExprSome.j1 k x0 x1 x5 x6 x7 t327 true))))))) else (none)) else ((expr_Batch.f x0 x1).bind fun bt340 => (if x1 < 1 then (forebaylaw09_ExprSome.j3 k x0 x5 x6 bt340.1 bt340.2 true) else (forebaylaw09_ExprSome.j3 k x0 x5 x6 bt340.1 bt340.2 (decide (x1 > 4)))))
def forebaylaw09_ExprSome.j1 : Nat → List (S25) → Int → Int → Int → Int → Int → Bool → Option (Bool)
  | 0, _, _, _, _, _, _, _ => none
  | k + 1, x0, x1, x5, x6, x7, x8, x77 => if x77 = true then (none) else (if x8 = 0 then (forebaylaw09_ExprSome.j2 k x0 x1 x5 x6 x7 false) else (forebaylaw09_ExprSome.j2 k x0 x1 x5 x6 x7 (decide (x6 < 0))))
def forebaylaw09_ExprSome.j2 : Nat → List (S25) → Int → Int → Int → Int → Bool → Option (Bool)
  | 0, _, _, _, _, _, _ => none
  | k + 1, x0, x1, x5, x6, x7, x83 => if x83 = true then (if 0 ≤ x7 then (if x7 < (x0.length : Int) then ((expr_Metric.f ((rd_T25 x0 x7).f0) ((rd_T25 x0 x7).f1) ((rd_T25 x0 x7).f2) ((rd_T25 x0 x7).f3) ((rd_T25 x0 x7).f4) ((rd_T25 x0 x7).f5) x1).bind fun t337 => (if t337 = 0 then (forebaylaw09_ExprSome.l0 k x0 x1 x5 x7 (wrap64 (x7 + 1))) else (if x5 < 0 then (forebaylaw09_ExprSome.l0 k x0 x1 x7 x7 (wrap64 (x7 + 1))) else (forebaylaw09_ExprSome.l0 k x0 x1 x5 x7 (wrap64 (x7 + 1)))))) else (none)) else (none)) else (if 0 ≤ x7 then (if x7 < (x0.length : Int) then ((expr_Metric.f ((rd_T25 x0 x7).f0) ((rd_T25 x0 x7).f1) ((rd_T25 x0 x7).f2) ((rd_T25 x0 x7).f3) ((rd_T25 x0 x7).f4) ((rd_T25 x0 x7).f5) x1).bind fun t339 => (if t339 = 0 then (forebaylaw09_ExprSome.l0 k x0 x1 x5 x6 (wrap64 (x7 + 1))) else (if x5 < 0 then (forebaylaw09_ExprSome.l0 k x0 x1 x7 x6 (wrap64 (x7 + 1))) else (forebaylaw09_ExprSome.l0 k x0 x1 x5 x6 (wrap64 (x7 + 1)))))) else (none)) else (none))
def forebaylaw09_ExprSome.j3 : Nat → List (S25) → Int → Int → Int → Int → Bool → Option (Bool)
  | 0, _, _, _, _, _, _ => none
  | k + 1, x0, x5, x6, x13, x14, x108 => if x108 = true then (if x13 = 0 then (if x14 = 29 then ((forebaylaw09_awake.f k).bind fun t342 => (some t342)) else (none)) else (none)) else (if x6 ≥ 0 then (if x13 = x6 then (if 0 ≤ x6 then (if x6 < (x0.length : Int) then ((metric_Check.f ((rd_T25 x0 x6).f0) ((rd_T25 x0 x6).f1) ((rd_T25 x0 x6).f2) ((rd_T25 x0 x6).f3) ((rd_T25 x0 x6).f4) ((rd_T25 x0 x6).f5)).bind fun t344 => (if x14 = t344 then ((forebaylaw09_awake.f k).bind fun t345 => (some t345)) else (none))) else (none)) else (none)) else (none)) else (if x5 ≥ 0 then (if x13 = x5 then (if x14 = 26 then ((forebaylaw09_awake.f k).bind fun t346 => (some t346)) else (none)) else (none)) else (if x13 = 0 then (if x14 = 0 then ((forebaylaw09_awake.f k).bind fun t347 => (some t347)) else (none)) else (none))))
end
def forebaylaw09_ExprSome.f (k : Nat) (l0 : List (S25)) (a1 : Int) : Option (Bool) := (forebaylaw08_Few.f k l0).bind fun t324 => (if t324 = true then (forebaylaw09_ExprSome.l0 k l0 a1 (-1) (-1) 0) else ((forebaylaw09_awake.f k).bind fun t325 => (some t325)))
set_option maxHeartbeats 8000000 in
set_option maxRecDepth 100000 in
theorem forebaylaw09_ExprSome.calls (k : Nat) (A0 : Option Addr) (c0 : Nat) (l0 : List (S25)) (a1 : Int) (r : Bool) (w : World) (hr0 : Kd.C k25 w A0 l0.length l0) (hc0 : l0.length ≤ c0) (h : forebaylaw09_ExprSome.f k l0 a1 = some r) :
    Calls Try.prog 6 #[.slice A0 l0.length c0, .int .i64 a1] w fun e w' => e = .returned (.bool r) ∧ Below w.heap.size w w' := by
  have hu25 := Try.underlying25
  have HR0 := Aside0.mk hr0
  have HC0 := Aside0.mk hc0
  clear hr0 hc0
  have HB := Aside0.mk (Below.refl w.heap.size w)
  have H : ((forebaylaw08_Few.f k l0).bind fun t324 => (if t324 = true then (forebaylaw09_ExprSome.l0 k l0 a1 (-1) (-1) 0) else ((forebaylaw09_awake.f k).bind fun t325 => (some t325)))) = some r := h
  clear h
  replace H := Option.bind_eq_some_iff.mp H
  obtain ⟨t324, A30, H⟩ := H
  replace H : (if t324 = true then (forebaylaw09_ExprSome.l0 k l0 a1 (-1) (-1) 0) else ((forebaylaw09_awake.f k).bind fun t325 => (some t325))) = some r := H
  have A3 := Aside0.mk A30
  clear A30
  by_cases c4 : t324 = true
  · subst c4
    have H1 : (forebaylaw09_ExprSome.l0 k l0 a1 (-1) (-1) 0) = some r := by rw [if_pos rfl] at H; exact H
    clear H
    have H := H1
    clear H1
    have H' := Aside0.mk H
    clear H
    go_enter Try.func6, Try.ntmps6
    go_wp2_with (first | ((with_reducible refine gate_callee (f := 20) rfl ?_); refine goesL_ (some 16) rfl rfl Try.func20 (by kernel_rfl) rfl #[.slice A0 l0.length c0] rfl (by (try simp only [List.map_toArray, List.map_cons, List.map_nil]); first | done | rfl | (simp only [List.length_drop, List.length_take]; rfl)) ?_; (with_reducible refine (forebaylaw08_Few.calls k _ _ l0 true _ ?side1 ?side2 A3.out).mono ?_); (case side1 => repeat (first | exact HR0.out | (with_reducible refine Kd.C_alloc ?_ _) | (with_reducible refine Kd.C_drewN ?_ _) | (with_reducible refine Kd.C_drew ?_))); (case side2 => exact HC0.out); rintro e w5 ⟨rfl, hb⟩; refine ⟨_, rfl, ?_⟩; have n0_ := Aside0.mk (below_step (by repeat (first | (with_reducible first | exact HB.out | apply below_alloc | apply pw_below_drewN | apply below_drew1) | exact HB.out)) hb); clear HB; have HB := n0_; clear n0_; (try clear hb); (try clear hb2); (try clear hk); (try clear hi)))
    go_loopg [5, 6, 7] k (fun kq v5 v6 v7 w' => ∃ (x5_1 : Int) (x6_1 : Int) (x7_1 : Int), v5 = .int .i64 x5_1 ∧ v6 = .int .i64 x6_1 ∧ v7 = .int .i64 x7_1 ∧ Aside0 (forebaylaw09_ExprSome.l0 kq l0 a1 x5_1 x6_1 x7_1 = some r) ∧ Aside0 (kq ≤ k) ∧ Aside0 (Below w.heap.size w w'))
    case atStart => exact ⟨((-1)), ((-1)), (0), (by first | rfl | (simp; done) | (simp [*]; done)), (by first | rfl | (simp; done) | (simp [*]; done)), (by first | rfl | (simp; done) | (simp [*]; done)), H', ⟨Nat.le_refl _⟩, ⟨by repeat (first | (with_reducible first | exact HB.out | apply below_alloc | apply pw_below_drewN | apply below_drew1) | exact HB.out)⟩⟩
    case round =>
      clear H'
      try clear c2
      try clear p2
      try clear c4
      obtain ⟨x5_1, x6_1, x7_1, rfl, rfl, rfl, HA, HK1, HB⟩ := hrel
      cases gk with
      | zero => exact absurd HA.out (by simp [forebaylaw09_ExprSome.l0])
      | succ k1 =>
        have H := HA.out
        clear HA
        simp only [forebaylaw09_ExprSome.l0] at H
        by_cases c6 : x7_1 < (l0.length : Int)
        · rw [if_pos c6] at H
          have c6b0 : decide (x7_1 < (l0.length : Int)) = true := decide_eq_true c6
          clear c6
          by_cases c7 : 0 ≤ x7_1
          · rw [if_pos c7] at H
            have c7b0 : decide (0 ≤ x7_1) = true := decide_eq_true c7
            clear c7
            replace H := Option.bind_eq_some_iff.mp H
            obtain ⟨t327, A80, H⟩ := H
            replace H : ((expr_Metric.f ((rd_T25 l0 x7_1).f0) ((rd_T25 l0 x7_1).f1) ((rd_T25 l0 x7_1).f2) ((rd_T25 l0 x7_1).f3) ((rd_T25 l0 x7_1).f4) ((rd_T25 l0 x7_1).f5) 1).bind fun t329 => ((expr_Metric.f ((rd_T25 l0 x7_1).f0) ((rd_T25 l0 x7_1).f1) ((rd_T25 l0 x7_1).f2) ((rd_T25 l0 x7_1).f3) ((rd_T25 l0 x7_1).f4) ((rd_T25 l0 x7_1).f5) 2).bind fun t331 => ((expr_Metric.f ((rd_T25 l0 x7_1).f0) ((rd_T25 l0 x7_1).f1) ((rd_T25 l0 x7_1).f2) ((rd_T25 l0 x7_1).f3) ((rd_T25 l0 x7_1).f4) ((rd_T25 l0 x7_1).f5) 3).bind fun t333 => ((expr_Metric.f ((rd_T25 l0 x7_1).f0) ((rd_T25 l0 x7_1).f1) ((rd_T25 l0 x7_1).f2) ((rd_T25 l0 x7_1).f3) ((rd_T25 l0 x7_1).f4) ((rd_T25 l0 x7_1).f5) 4).bind fun t335 => (if t331 = t327 then (if t335 = t327 then (if t329 = 0 then (if t327 = 0 then (if t333 = 0 then (forebaylaw09_ExprSome.j1 k1 l0 a1 x5_1 x6_1 x7_1 t327 true) else (forebaylaw09_ExprSome.j1 k1 l0 a1 x5_1 x6_1 x7_1 t327 false)) else (forebaylaw09_ExprSome.j1 k1 l0 a1 x5_1 x6_1 x7_1 t327 true)) else (if t333 = 0 then (forebaylaw09_ExprSome.j1 k1 l0 a1 x5_1 x6_1 x7_1 t327 (t327 != 0)) else (forebaylaw09_ExprSome.j1 k1 l0 a1 x5_1 x6_1 x7_1 t327 false))) else (forebaylaw09_ExprSome.j1 k1 l0 a1 x5_1 x6_1 x7_1 t327 true)) else (forebaylaw09_ExprSome.j1 k1 l0 a1 x5_1 x6_1 x7_1 t327 true)))))) = some r := H
            have A8 := Aside0.mk A80
            clear A80
            replace H := Option.bind_eq_some_iff.mp H
            obtain ⟨t329, A90, H⟩ := H
            replace H : ((expr_Metric.f ((rd_T25 l0 x7_1).f0) ((rd_T25 l0 x7_1).f1) ((rd_T25 l0 x7_1).f2) ((rd_T25 l0 x7_1).f3) ((rd_T25 l0 x7_1).f4) ((rd_T25 l0 x7_1).f5) 2).bind fun t331 => ((expr_Metric.f ((rd_T25 l0 x7_1).f0) ((rd_T25 l0 x7_1).f1) ((rd_T25 l0 x7_1).f2) ((rd_T25 l0 x7_1).f3) ((rd_T25 l0 x7_1).f4) ((rd_T25 l0 x7_1).f5) 3).bind fun t333 => ((expr_Metric.f ((rd_T25 l0 x7_1).f0) ((rd_T25 l0 x7_1).f1) ((rd_T25 l0 x7_1).f2) ((rd_T25 l0 x7_1).f3) ((rd_T25 l0 x7_1).f4) ((rd_T25 l0 x7_1).f5) 4).bind fun t335 => (if t331 = t327 then (if t335 = t327 then (if t329 = 0 then (if t327 = 0 then (if t333 = 0 then (forebaylaw09_ExprSome.j1 k1 l0 a1 x5_1 x6_1 x7_1 t327 true) else (forebaylaw09_ExprSome.j1 k1 l0 a1 x5_1 x6_1 x7_1 t327 false)) else (forebaylaw09_ExprSome.j1 k1 l0 a1 x5_1 x6_1 x7_1 t327 true)) else (if t333 = 0 then (forebaylaw09_ExprSome.j1 k1 l0 a1 x5_1 x6_1 x7_1 t327 (t327 != 0)) else (forebaylaw09_ExprSome.j1 k1 l0 a1 x5_1 x6_1 x7_1 t327 false))) else (forebaylaw09_ExprSome.j1 k1 l0 a1 x5_1 x6_1 x7_1 t327 true)) else (forebaylaw09_ExprSome.j1 k1 l0 a1 x5_1 x6_1 x7_1 t327 true))))) = some r := H
            have A9 := Aside0.mk A90
            clear A90
            replace H := Option.bind_eq_some_iff.mp H
            obtain ⟨t331, A100, H⟩ := H
            replace H : ((expr_Metric.f ((rd_T25 l0 x7_1).f0) ((rd_T25 l0 x7_1).f1) ((rd_T25 l0 x7_1).f2) ((rd_T25 l0 x7_1).f3) ((rd_T25 l0 x7_1).f4) ((rd_T25 l0 x7_1).f5) 3).bind fun t333 => ((expr_Metric.f ((rd_T25 l0 x7_1).f0) ((rd_T25 l0 x7_1).f1) ((rd_T25 l0 x7_1).f2) ((rd_T25 l0 x7_1).f3) ((rd_T25 l0 x7_1).f4) ((rd_T25 l0 x7_1).f5) 4).bind fun t335 => (if t331 = t327 then (if t335 = t327 then (if t329 = 0 then (if t327 = 0 then (if t333 = 0 then (forebaylaw09_ExprSome.j1 k1 l0 a1 x5_1 x6_1 x7_1 t327 true) else (forebaylaw09_ExprSome.j1 k1 l0 a1 x5_1 x6_1 x7_1 t327 false)) else (forebaylaw09_ExprSome.j1 k1 l0 a1 x5_1 x6_1 x7_1 t327 true)) else (if t333 = 0 then (forebaylaw09_ExprSome.j1 k1 l0 a1 x5_1 x6_1 x7_1 t327 (t327 != 0)) else (forebaylaw09_ExprSome.j1 k1 l0 a1 x5_1 x6_1 x7_1 t327 false))) else (forebaylaw09_ExprSome.j1 k1 l0 a1 x5_1 x6_1 x7_1 t327 true)) else (forebaylaw09_ExprSome.j1 k1 l0 a1 x5_1 x6_1 x7_1 t327 true)))) = some r := H
            have A10 := Aside0.mk A100
            clear A100
            replace H := Option.bind_eq_some_iff.mp H
            obtain ⟨t333, A110, H⟩ := H
            replace H : ((expr_Metric.f ((rd_T25 l0 x7_1).f0) ((rd_T25 l0 x7_1).f1) ((rd_T25 l0 x7_1).f2) ((rd_T25 l0 x7_1).f3) ((rd_T25 l0 x7_1).f4) ((rd_T25 l0 x7_1).f5) 4).bind fun t335 => (if t331 = t327 then (if t335 = t327 then (if t329 = 0 then (if t327 = 0 then (if t333 = 0 then (forebaylaw09_ExprSome.j1 k1 l0 a1 x5_1 x6_1 x7_1 t327 true) else (forebaylaw09_ExprSome.j1 k1 l0 a1 x5_1 x6_1 x7_1 t327 false)) else (forebaylaw09_ExprSome.j1 k1 l0 a1 x5_1 x6_1 x7_1 t327 true)) else (if t333 = 0 then (forebaylaw09_ExprSome.j1 k1 l0 a1 x5_1 x6_1 x7_1 t327 (t327 != 0)) else (forebaylaw09_ExprSome.j1 k1 l0 a1 x5_1 x6_1 x7_1 t327 false))) else (forebaylaw09_ExprSome.j1 k1 l0 a1 x5_1 x6_1 x7_1 t327 true)) else (forebaylaw09_ExprSome.j1 k1 l0 a1 x5_1 x6_1 x7_1 t327 true))) = some r := H
            have A11 := Aside0.mk A110
            clear A110
            replace H := Option.bind_eq_some_iff.mp H
            obtain ⟨t335, A120, H⟩ := H
            replace H : (if t331 = t327 then (if t335 = t327 then (if t329 = 0 then (if t327 = 0 then (if t333 = 0 then (forebaylaw09_ExprSome.j1 k1 l0 a1 x5_1 x6_1 x7_1 t327 true) else (forebaylaw09_ExprSome.j1 k1 l0 a1 x5_1 x6_1 x7_1 t327 false)) else (forebaylaw09_ExprSome.j1 k1 l0 a1 x5_1 x6_1 x7_1 t327 true)) else (if t333 = 0 then (forebaylaw09_ExprSome.j1 k1 l0 a1 x5_1 x6_1 x7_1 t327 (t327 != 0)) else (forebaylaw09_ExprSome.j1 k1 l0 a1 x5_1 x6_1 x7_1 t327 false))) else (forebaylaw09_ExprSome.j1 k1 l0 a1 x5_1 x6_1 x7_1 t327 true)) else (forebaylaw09_ExprSome.j1 k1 l0 a1 x5_1 x6_1 x7_1 t327 true)) = some r := H
            have A12 := Aside0.mk A120
            clear A120
            have HC13 := Aside0.mk H
            clear H
            have p326 : 0 ≤ (x7_1 : Int) := of_decide_eq_true (by first | (with_reducible assumption) | assumption)
            have q326 : x7_1 < (l0.length : Int) := of_decide_eq_true (by first | (with_reducible assumption) | assumption)
            obtain ⟨ad326, A326_2, c326_2, A326_4, c326_4, e326, hx326_0, hx326_1, hx326_2, hx326_3, hx326_4, hx326_5, hl326_2, hi326_2, hl326_4, hi326_4⟩ := at_T25 HR0.out x7_1 p326 q326
            cases e326
            replace hx326_0 := (HB.out.cell (World.block_lt_of_cell? w _ hx326_0)).trans hx326_0
            replace hx326_1 := (HB.out.cell (World.block_lt_of_cell? w _ hx326_1)).trans hx326_1
            replace hx326_2 := (HB.out.cell (World.block_lt_of_cell? w _ hx326_2)).trans hx326_2
            replace hx326_3 := (HB.out.cell (World.block_lt_of_cell? w _ hx326_3)).trans hx326_3
            replace hx326_4 := (HB.out.cell (World.block_lt_of_cell? w _ hx326_4)).trans hx326_4
            replace hx326_5 := (HB.out.cell (World.block_lt_of_cell? w _ hx326_5)).trans hx326_5
            have HR326_2 := Aside0.mk hi326_2
            have HC326_2 := Aside0.mk hl326_2
            clear hi326_2 hl326_2
            have HR326_4 := Aside0.mk hi326_4
            have HC326_4 := Aside0.mk hl326_4
            clear hi326_4 hl326_4
            replace p326 := eq_true p326
            replace q326 := eq_true q326
            go_upto_region 13 with (first | ((with_reducible refine gate_callee (f := 23) rfl ?_); refine goesL_ (some 29) rfl rfl Try.func23 (by kernel_rfl) rfl #[.agg #[.string ((rd_T25 l0 x7_1).f0), .int .i64 ((rd_T25 l0 x7_1).f1), .slice A326_2 ((rd_T25 l0 x7_1).f2).length c326_2, .int .i64 ((rd_T25 l0 x7_1).f3), .slice A326_4 ((rd_T25 l0 x7_1).f4).length c326_4, .int .i64 ((rd_T25 l0 x7_1).f5)]] rfl (by (try simp only [List.map_toArray, List.map_cons, List.map_nil]); first | done | rfl | (simp only [List.length_drop, List.length_take]; rfl)) ?_; (with_reducible refine (metric_Check.calls ((rd_T25 l0 x7_1).f0) ((rd_T25 l0 x7_1).f1) _ _ ((rd_T25 l0 x7_1).f2) ((rd_T25 l0 x7_1).f3) _ _ ((rd_T25 l0 x7_1).f4) ((rd_T25 l0 x7_1).f5) t327 _ ?side1 ?side2 ?side3 ?side4 A8.out).mono ?_); (case side1 => repeat (first | exact (Kd.C_below HR326_2.out HB.out) | (with_reducible refine Kd.C_alloc ?_ _) | (with_reducible refine Kd.C_drewN ?_ _) | (with_reducible refine Kd.C_drew ?_))); (case side2 => exact HC326_2.out); (case side3 => repeat (first | exact (Kd.C_below HR326_4.out HB.out) | (with_reducible refine Kd.C_alloc ?_ _) | (with_reducible refine Kd.C_drewN ?_ _) | (with_reducible refine Kd.C_drew ?_))); (case side4 => exact HC326_4.out); rintro e w14 ⟨rfl, hb⟩; refine ⟨_, rfl, ?_⟩; have n0_ := Aside0.mk (below_step (by repeat (first | (with_reducible first | exact HB.out | apply below_alloc | apply pw_below_drewN | apply below_drew1) | exact HB.out)) hb); clear HB; have HB := n0_; clear n0_; (try clear hb); (try clear hb2); (try clear hk); (try clear hi); have p328 : 0 ≤ (x7_1 : Int) := of_decide_eq_true (by first | (with_reducible assumption) | assumption); have q328 : x7_1 < (l0.length : Int) := of_decide_eq_true (by first | (with_reducible assumption) | assumption); obtain ⟨ad328, A328_2, c328_2, A328_4, c328_4, e328, hx328_0, hx328_1, hx328_2, hx328_3, hx328_4, hx328_5, hl328_2, hi328_2, hl328_4, hi328_4⟩ := at_T25 HR0.out x7_1 p328 q328; obtain rfl : ad326 = ad328 := (by injection e328); replace hx328_0 := (HB.out.cell (World.block_lt_of_cell? w _ hx328_0)).trans hx328_0; replace hx328_1 := (HB.out.cell (World.block_lt_of_cell? w _ hx328_1)).trans hx328_1; replace hx328_2 := (HB.out.cell (World.block_lt_of_cell? w _ hx328_2)).trans hx328_2; replace hx328_3 := (HB.out.cell (World.block_lt_of_cell? w _ hx328_3)).trans hx328_3; replace hx328_4 := (HB.out.cell (World.block_lt_of_cell? w _ hx328_4)).trans hx328_4; replace hx328_5 := (HB.out.cell (World.block_lt_of_cell? w _ hx328_5)).trans hx328_5; have HR328_2 := Aside0.mk hi328_2; have HC328_2 := Aside0.mk hl328_2; clear hi328_2 hl328_2; have HR328_4 := Aside0.mk hi328_4; have HC328_4 := Aside0.mk hl328_4; clear hi328_4 hl328_4; replace p328 := eq_true p328; replace q328 := eq_true q328) | ((with_reducible refine gate_callee (f := 19) rfl ?_); refine goesL_ (some 34) rfl rfl Try.func19 (by kernel_rfl) rfl #[.agg #[.string ((rd_T25 l0 x7_1).f0), .int .i64 ((rd_T25 l0 x7_1).f1), .slice A328_2 ((rd_T25 l0 x7_1).f2).length c328_2, .int .i64 ((rd_T25 l0 x7_1).f3), .slice A328_4 ((rd_T25 l0 x7_1).f4).length c328_4, .int .i64 ((rd_T25 l0 x7_1).f5)], .int .i64 1] rfl (by (try simp only [List.map_toArray, List.map_cons, List.map_nil]); first | done | rfl | (simp only [List.length_drop, List.length_take]; rfl)) ?_; (with_reducible refine (expr_Metric.calls ((rd_T25 l0 x7_1).f0) ((rd_T25 l0 x7_1).f1) _ _ ((rd_T25 l0 x7_1).f2) ((rd_T25 l0 x7_1).f3) _ _ ((rd_T25 l0 x7_1).f4) ((rd_T25 l0 x7_1).f5) 1 t329 _ ?side1 ?side2 ?side3 ?side4 A9.out).mono ?_); (case side1 => repeat (first | exact (Kd.C_below HR328_2.out HB.out) | (with_reducible refine Kd.C_alloc ?_ _) | (with_reducible refine Kd.C_drewN ?_ _) | (with_reducible refine Kd.C_drew ?_))); (case side2 => exact HC328_2.out); (case side3 => repeat (first | exact (Kd.C_below HR328_4.out HB.out) | (with_reducible refine Kd.C_alloc ?_ _) | (with_reducible refine Kd.C_drewN ?_ _) | (with_reducible refine Kd.C_drew ?_))); (case side4 => exact HC328_4.out); rintro e w15 ⟨rfl, hb⟩; refine ⟨_, rfl, ?_⟩; have n0_ := Aside0.mk (below_step (by repeat (first | (with_reducible first | exact HB.out | apply below_alloc | apply pw_below_drewN | apply below_drew1) | exact HB.out)) hb); clear HB; have HB := n0_; clear n0_; (try clear hb); (try clear hb2); (try clear hk); (try clear hi); have p330 : 0 ≤ (x7_1 : Int) := of_decide_eq_true (by first | (with_reducible assumption) | assumption); have q330 : x7_1 < (l0.length : Int) := of_decide_eq_true (by first | (with_reducible assumption) | assumption); obtain ⟨ad330, A330_2, c330_2, A330_4, c330_4, e330, hx330_0, hx330_1, hx330_2, hx330_3, hx330_4, hx330_5, hl330_2, hi330_2, hl330_4, hi330_4⟩ := at_T25 HR0.out x7_1 p330 q330; obtain rfl : ad326 = ad330 := (by injection e330); replace hx330_0 := (HB.out.cell (World.block_lt_of_cell? w _ hx330_0)).trans hx330_0; replace hx330_1 := (HB.out.cell (World.block_lt_of_cell? w _ hx330_1)).trans hx330_1; replace hx330_2 := (HB.out.cell (World.block_lt_of_cell? w _ hx330_2)).trans hx330_2; replace hx330_3 := (HB.out.cell (World.block_lt_of_cell? w _ hx330_3)).trans hx330_3; replace hx330_4 := (HB.out.cell (World.block_lt_of_cell? w _ hx330_4)).trans hx330_4; replace hx330_5 := (HB.out.cell (World.block_lt_of_cell? w _ hx330_5)).trans hx330_5; have HR330_2 := Aside0.mk hi330_2; have HC330_2 := Aside0.mk hl330_2; clear hi330_2 hl330_2; have HR330_4 := Aside0.mk hi330_4; have HC330_4 := Aside0.mk hl330_4; clear hi330_4 hl330_4; replace p330 := eq_true p330; replace q330 := eq_true q330) | ((with_reducible refine gate_callee (f := 19) rfl ?_); refine goesL_ (some 39) rfl rfl Try.func19 (by kernel_rfl) rfl #[.agg #[.string ((rd_T25 l0 x7_1).f0), .int .i64 ((rd_T25 l0 x7_1).f1), .slice A330_2 ((rd_T25 l0 x7_1).f2).length c330_2, .int .i64 ((rd_T25 l0 x7_1).f3), .slice A330_4 ((rd_T25 l0 x7_1).f4).length c330_4, .int .i64 ((rd_T25 l0 x7_1).f5)], .int .i64 2] rfl (by (try simp only [List.map_toArray, List.map_cons, List.map_nil]); first | done | rfl | (simp only [List.length_drop, List.length_take]; rfl)) ?_; (with_reducible refine (expr_Metric.calls ((rd_T25 l0 x7_1).f0) ((rd_T25 l0 x7_1).f1) _ _ ((rd_T25 l0 x7_1).f2) ((rd_T25 l0 x7_1).f3) _ _ ((rd_T25 l0 x7_1).f4) ((rd_T25 l0 x7_1).f5) 2 t331 _ ?side1 ?side2 ?side3 ?side4 A10.out).mono ?_); (case side1 => repeat (first | exact (Kd.C_below HR330_2.out HB.out) | (with_reducible refine Kd.C_alloc ?_ _) | (with_reducible refine Kd.C_drewN ?_ _) | (with_reducible refine Kd.C_drew ?_))); (case side2 => exact HC330_2.out); (case side3 => repeat (first | exact (Kd.C_below HR330_4.out HB.out) | (with_reducible refine Kd.C_alloc ?_ _) | (with_reducible refine Kd.C_drewN ?_ _) | (with_reducible refine Kd.C_drew ?_))); (case side4 => exact HC330_4.out); rintro e w16 ⟨rfl, hb⟩; refine ⟨_, rfl, ?_⟩; have n0_ := Aside0.mk (below_step (by repeat (first | (with_reducible first | exact HB.out | apply below_alloc | apply pw_below_drewN | apply below_drew1) | exact HB.out)) hb); clear HB; have HB := n0_; clear n0_; (try clear hb); (try clear hb2); (try clear hk); (try clear hi); have p332 : 0 ≤ (x7_1 : Int) := of_decide_eq_true (by first | (with_reducible assumption) | assumption); have q332 : x7_1 < (l0.length : Int) := of_decide_eq_true (by first | (with_reducible assumption) | assumption); obtain ⟨ad332, A332_2, c332_2, A332_4, c332_4, e332, hx332_0, hx332_1, hx332_2, hx332_3, hx332_4, hx332_5, hl332_2, hi332_2, hl332_4, hi332_4⟩ := at_T25 HR0.out x7_1 p332 q332; obtain rfl : ad326 = ad332 := (by injection e332); replace hx332_0 := (HB.out.cell (World.block_lt_of_cell? w _ hx332_0)).trans hx332_0; replace hx332_1 := (HB.out.cell (World.block_lt_of_cell? w _ hx332_1)).trans hx332_1; replace hx332_2 := (HB.out.cell (World.block_lt_of_cell? w _ hx332_2)).trans hx332_2; replace hx332_3 := (HB.out.cell (World.block_lt_of_cell? w _ hx332_3)).trans hx332_3; replace hx332_4 := (HB.out.cell (World.block_lt_of_cell? w _ hx332_4)).trans hx332_4; replace hx332_5 := (HB.out.cell (World.block_lt_of_cell? w _ hx332_5)).trans hx332_5; have HR332_2 := Aside0.mk hi332_2; have HC332_2 := Aside0.mk hl332_2; clear hi332_2 hl332_2; have HR332_4 := Aside0.mk hi332_4; have HC332_4 := Aside0.mk hl332_4; clear hi332_4 hl332_4; replace p332 := eq_true p332; replace q332 := eq_true q332) | ((with_reducible refine gate_callee (f := 19) rfl ?_); refine goesL_ (some 44) rfl rfl Try.func19 (by kernel_rfl) rfl #[.agg #[.string ((rd_T25 l0 x7_1).f0), .int .i64 ((rd_T25 l0 x7_1).f1), .slice A332_2 ((rd_T25 l0 x7_1).f2).length c332_2, .int .i64 ((rd_T25 l0 x7_1).f3), .slice A332_4 ((rd_T25 l0 x7_1).f4).length c332_4, .int .i64 ((rd_T25 l0 x7_1).f5)], .int .i64 3] rfl (by (try simp only [List.map_toArray, List.map_cons, List.map_nil]); first | done | rfl | (simp only [List.length_drop, List.length_take]; rfl)) ?_; (with_reducible refine (expr_Metric.calls ((rd_T25 l0 x7_1).f0) ((rd_T25 l0 x7_1).f1) _ _ ((rd_T25 l0 x7_1).f2) ((rd_T25 l0 x7_1).f3) _ _ ((rd_T25 l0 x7_1).f4) ((rd_T25 l0 x7_1).f5) 3 t333 _ ?side1 ?side2 ?side3 ?side4 A11.out).mono ?_); (case side1 => repeat (first | exact (Kd.C_below HR332_2.out HB.out) | (with_reducible refine Kd.C_alloc ?_ _) | (with_reducible refine Kd.C_drewN ?_ _) | (with_reducible refine Kd.C_drew ?_))); (case side2 => exact HC332_2.out); (case side3 => repeat (first | exact (Kd.C_below HR332_4.out HB.out) | (with_reducible refine Kd.C_alloc ?_ _) | (with_reducible refine Kd.C_drewN ?_ _) | (with_reducible refine Kd.C_drew ?_))); (case side4 => exact HC332_4.out); rintro e w17 ⟨rfl, hb⟩; refine ⟨_, rfl, ?_⟩; have n0_ := Aside0.mk (below_step (by repeat (first | (with_reducible first | exact HB.out | apply below_alloc | apply pw_below_drewN | apply below_drew1) | exact HB.out)) hb); clear HB; have HB := n0_; clear n0_; (try clear hb); (try clear hb2); (try clear hk); (try clear hi); have p334 : 0 ≤ (x7_1 : Int) := of_decide_eq_true (by first | (with_reducible assumption) | assumption); have q334 : x7_1 < (l0.length : Int) := of_decide_eq_true (by first | (with_reducible assumption) | assumption); obtain ⟨ad334, A334_2, c334_2, A334_4, c334_4, e334, hx334_0, hx334_1, hx334_2, hx334_3, hx334_4, hx334_5, hl334_2, hi334_2, hl334_4, hi334_4⟩ := at_T25 HR0.out x7_1 p334 q334; obtain rfl : ad326 = ad334 := (by injection e334); replace hx334_0 := (HB.out.cell (World.block_lt_of_cell? w _ hx334_0)).trans hx334_0; replace hx334_1 := (HB.out.cell (World.block_lt_of_cell? w _ hx334_1)).trans hx334_1; replace hx334_2 := (HB.out.cell (World.block_lt_of_cell? w _ hx334_2)).trans hx334_2; replace hx334_3 := (HB.out.cell (World.block_lt_of_cell? w _ hx334_3)).trans hx334_3; replace hx334_4 := (HB.out.cell (World.block_lt_of_cell? w _ hx334_4)).trans hx334_4; replace hx334_5 := (HB.out.cell (World.block_lt_of_cell? w _ hx334_5)).trans hx334_5; have HR334_2 := Aside0.mk hi334_2; have HC334_2 := Aside0.mk hl334_2; clear hi334_2 hl334_2; have HR334_4 := Aside0.mk hi334_4; have HC334_4 := Aside0.mk hl334_4; clear hi334_4 hl334_4; replace p334 := eq_true p334; replace q334 := eq_true q334) | ((with_reducible refine gate_callee (f := 19) rfl ?_); refine goesL_ (some 49) rfl rfl Try.func19 (by kernel_rfl) rfl #[.agg #[.string ((rd_T25 l0 x7_1).f0), .int .i64 ((rd_T25 l0 x7_1).f1), .slice A334_2 ((rd_T25 l0 x7_1).f2).length c334_2, .int .i64 ((rd_T25 l0 x7_1).f3), .slice A334_4 ((rd_T25 l0 x7_1).f4).length c334_4, .int .i64 ((rd_T25 l0 x7_1).f5)], .int .i64 4] rfl (by (try simp only [List.map_toArray, List.map_cons, List.map_nil]); first | done | rfl | (simp only [List.length_drop, List.length_take]; rfl)) ?_; (with_reducible refine (expr_Metric.calls ((rd_T25 l0 x7_1).f0) ((rd_T25 l0 x7_1).f1) _ _ ((rd_T25 l0 x7_1).f2) ((rd_T25 l0 x7_1).f3) _ _ ((rd_T25 l0 x7_1).f4) ((rd_T25 l0 x7_1).f5) 4 t335 _ ?side1 ?side2 ?side3 ?side4 A12.out).mono ?_); (case side1 => repeat (first | exact (Kd.C_below HR334_2.out HB.out) | (with_reducible refine Kd.C_alloc ?_ _) | (with_reducible refine Kd.C_drewN ?_ _) | (with_reducible refine Kd.C_drew ?_))); (case side2 => exact HC334_2.out); (case side3 => repeat (first | exact (Kd.C_below HR334_4.out HB.out) | (with_reducible refine Kd.C_alloc ?_ _) | (with_reducible refine Kd.C_drewN ?_ _) | (with_reducible refine Kd.C_drew ?_))); (case side4 => exact HC334_4.out); rintro e w18 ⟨rfl, hb⟩; refine ⟨_, rfl, ?_⟩; have n0_ := Aside0.mk (below_step (by repeat (first | (with_reducible first | exact HB.out | apply below_alloc | apply pw_below_drewN | apply below_drew1) | exact HB.out)) hb); clear HB; have HB := n0_; clear n0_; (try clear hb); (try clear hb2); (try clear hk); (try clear hi)))
            (try simp only [Act.put, List.setIfInBounds_toArray, List.set_cons_zero, List.set_cons_succ])
            go_cut [77] (fun v77 wc => ∃ (kq : Nat) (x77_12 : Bool), v77 = .bool x77_12 ∧ Aside0 (forebaylaw09_ExprSome.j1 kq l0 a1 x5_1 x6_1 x7_1 t327 x77_12 = some r) ∧ Aside0 (kq ≤ k1) ∧ Aside0 (Below w.heap.size w wc))
            case first =>
              have H := HC13.out
              clear HC13
              by_cases c19 : t331 = t327
              · rw [if_pos c19] at H
                have c19b0 : (t331 == t327) = true := beq_iff_eq.mpr c19
                have c19b1 : (t331 != t327) = false := bne_eq_false_iff_eq.mpr c19
                clear c19
                (first | rw [c19b0] | (simp only [i64_w, i32_w]; rw [c19b0]) | skip)
                by_cases c20 : t335 = t327
                · rw [if_pos c20] at H
                  have c20b0 : (t335 == t327) = true := beq_iff_eq.mpr c20
                  have c20b1 : (t335 != t327) = false := bne_eq_false_iff_eq.mpr c20
                  clear c20
                  by_cases c21 : t329 = 0
                  · rw [if_pos c21] at H
                    have c21b0 : (t329 == 0) = true := beq_iff_eq.mpr c21
                    have c21b1 : (t329 != 0) = false := bne_eq_false_iff_eq.mpr c21
                    clear c21
                    by_cases c22 : t327 = 0
                    · rw [if_pos c22] at H
                      have c22b0 : (t327 == 0) = true := beq_iff_eq.mpr c22
                      have c22b1 : (t327 != 0) = false := bne_eq_false_iff_eq.mpr c22
                      clear c22
                      by_cases c23 : t333 = 0
                      · rw [if_pos c23] at H
                        have c23b0 : (t333 == 0) = true := beq_iff_eq.mpr c23
                        have c23b1 : (t333 != 0) = false := bne_eq_false_iff_eq.mpr c23
                        clear c23
                        have H' := Aside0.mk H
                        clear H
                        go_wp2
                        go_meet
                        case rel => exact ⟨_, (true), (by first | rfl | (simp; done) | (simp [*]; done)), H', ⟨by have := HK1.out; first | omega | exact Nat.le_refl _⟩, ⟨by repeat (first | (with_reducible first | exact HB.out | apply below_alloc | apply pw_below_drewN | apply below_drew1) | exact HB.out)⟩⟩
                      · rw [if_neg c23] at H
                        have c23b0 : (t333 == 0) = false := beq_eq_false_iff_ne.mpr c23
                        have c23b1 : (t333 != 0) = true := bne_iff_ne.mpr c23
                        have H' := Aside0.mk H
                        clear H
                        go_wp2
                        go_meet
                        case rel => exact ⟨_, (false), (by first | rfl | (simp; done) | (simp [*]; done)), H', ⟨by have := HK1.out; first | omega | exact Nat.le_refl _⟩, ⟨by repeat (first | (with_reducible first | exact HB.out | apply below_alloc | apply pw_below_drewN | apply below_drew1) | exact HB.out)⟩⟩
                    · rw [if_neg c22] at H
                      have c22b0 : (t327 == 0) = false := beq_eq_false_iff_ne.mpr c22
                      have c22b1 : (t327 != 0) = true := bne_iff_ne.mpr c22
                      have H' := Aside0.mk H
                      clear H
                      go_wp2
                      go_meet
                      case rel => exact ⟨_, (true), (by first | rfl | (simp; done) | (simp [*]; done)), H', ⟨by have := HK1.out; first | omega | exact Nat.le_refl _⟩, ⟨by repeat (first | (with_reducible first | exact HB.out | apply below_alloc | apply pw_below_drewN | apply below_drew1) | exact HB.out)⟩⟩
                  · rw [if_neg c21] at H
                    have c21b0 : (t329 == 0) = false := beq_eq_false_iff_ne.mpr c21
                    have c21b1 : (t329 != 0) = true := bne_iff_ne.mpr c21
                    by_cases c24 : t333 = 0
                    · rw [if_pos c24] at H
                      have c24b0 : (t333 == 0) = true := beq_iff_eq.mpr c24
                      have c24b1 : (t333 != 0) = false := bne_eq_false_iff_eq.mpr c24
                      clear c24
                      have H' := Aside0.mk H
                      clear H
                      go_wp2
                      go_meet
                      case rel => exact ⟨_, ((t327 != 0)), (by first | rfl | (simp; done) | (simp [*]; done)), H', ⟨by have := HK1.out; first | omega | exact Nat.le_refl _⟩, ⟨by repeat (first | (with_reducible first | exact HB.out | apply below_alloc | apply pw_below_drewN | apply below_drew1) | exact HB.out)⟩⟩
                    · rw [if_neg c24] at H
                      have c24b0 : (t333 == 0) = false := beq_eq_false_iff_ne.mpr c24
                      have c24b1 : (t333 != 0) = true := bne_iff_ne.mpr c24
                      have H' := Aside0.mk H
                      clear H
                      go_wp2
                      go_meet
                      case rel => exact ⟨_, (false), (by first | rfl | (simp; done) | (simp [*]; done)), H', ⟨by have := HK1.out; first | omega | exact Nat.le_refl _⟩, ⟨by repeat (first | (with_reducible first | exact HB.out | apply below_alloc | apply pw_below_drewN | apply below_drew1) | exact HB.out)⟩⟩
                · rw [if_neg c20] at H
                  have c20b0 : (t335 == t327) = false := beq_eq_false_iff_ne.mpr c20
                  have c20b1 : (t335 != t327) = true := bne_iff_ne.mpr c20
                  have H' := Aside0.mk H
                  clear H
                  go_wp2
                  go_meet
                  case rel => exact ⟨_, (true), (by first | rfl | (simp; done) | (simp [*]; done)), H', ⟨by have := HK1.out; first | omega | exact Nat.le_refl _⟩, ⟨by repeat (first | (with_reducible first | exact HB.out | apply below_alloc | apply pw_below_drewN | apply below_drew1) | exact HB.out)⟩⟩
              · rw [if_neg c19] at H
                have c19b0 : (t331 == t327) = false := beq_eq_false_iff_ne.mpr c19
                have c19b1 : (t331 != t327) = true := bne_iff_ne.mpr c19
                (first | rw [c19b0] | (simp only [i64_w, i32_w]; rw [c19b0]) | skip)
                have H' := Aside0.mk H
                clear H
                go_wp2
                go_meet
                case rel => exact ⟨_, (true), (by first | rfl | (simp; done) | (simp [*]; done)), H', ⟨by have := HK1.out; first | omega | exact Nat.le_refl _⟩, ⟨by repeat (first | (with_reducible first | exact HB.out | apply below_alloc | apply pw_below_drewN | apply below_drew1) | exact HB.out)⟩⟩
            case rest =>
              clear HC13
              try clear c1
              try clear c2
              try clear p2
              try clear c3
              try clear p3
              try clear q3
              try clear hx3
              try clear c4
              try clear c6
              try clear c6b0
              try clear c7
              try clear c7b0
              try clear c19
              try clear c19b0
              try clear c19b1
              try clear c20
              try clear c20b0
              try clear c20b1
              try clear c21
              try clear c21b0
              try clear c21b1
              try clear c22
              try clear c22b0
              try clear c22b1
              try clear c23
              try clear c23b0
              try clear c23b1
              try clear c24
              try clear c24b0
              try clear c24b1
              try clear hx326_0
              try clear hx326_1
              try clear hx326_2
              try clear hx326_3
              try clear hx326_4
              try clear hx326_5
              try clear hx328_0
              try clear hx328_1
              try clear hx328_2
              try clear hx328_3
              try clear hx328_4
              try clear hx328_5
              try clear hx330_0
              try clear hx330_1
              try clear hx330_2
              try clear hx330_3
              try clear hx330_4
              try clear hx330_5
              try clear hx332_0
              try clear hx332_1
              try clear hx332_2
              try clear hx332_3
              try clear hx332_4
              try clear hx332_5
              try clear hx334_0
              try clear hx334_1
              try clear hx334_2
              try clear hx334_3
              try clear hx334_4
              try clear hx334_5
              try clear p2
              try clear p326
              try clear p328
              try clear p330
              try clear p332
              try clear p334
              try clear q326
              try clear q328
              try clear q330
              try clear q332
              try clear q334
              obtain ⟨kq, x77_12, rfl, HA, HJ12, HB⟩ := hcut
              cases kq with
              | zero => exact absurd HA.out (by simp [forebaylaw09_ExprSome.j1])
              | succ kj12 =>
                have H := HA.out
                clear HA
                simp only [forebaylaw09_ExprSome.j1] at H
                by_cases c25 : x77_12 = true
                · subst c25
                  have H1 : (none) = some r := by rw [if_pos rfl] at H; exact H
                  clear H
                  have H := H1
                  clear H1
                  exact absurd H (by simp)
                · replace c25 := Bool.eq_false_iff.mpr c25
                  subst c25
                  have H1 : (if t327 = 0 then (forebaylaw09_ExprSome.j2 kj12 l0 a1 x5_1 x6_1 x7_1 false) else (forebaylaw09_ExprSome.j2 kj12 l0 a1 x5_1 x6_1 x7_1 (decide (x6_1 < 0)))) = some r := by rw [if_neg (show ¬ (false = true) by decide)] at H; exact H
                  clear H
                  have H := H1
                  clear H1
                  have HC26 := Aside0.mk H
                  clear H
                  go_upto_region 15 with (fail)
                  go_cut [83] (fun v83 wc => ∃ (kq : Nat) (x83_25 : Bool), v83 = .bool x83_25 ∧ Aside0 (forebaylaw09_ExprSome.j2 kq l0 a1 x5_1 x6_1 x7_1 x83_25 = some r) ∧ Aside0 (kq ≤ kj12) ∧ Aside0 (Below w.heap.size w wc))
                  case first =>
                    have H := HC26.out
                    clear HC26
                    by_cases c27 : t327 = 0
                    · rw [if_pos c27] at H
                      have c27b0 : (t327 == 0) = true := beq_iff_eq.mpr c27
                      have c27b1 : (t327 != 0) = false := bne_eq_false_iff_eq.mpr c27
                      clear c27
                      (first | rw [c27b0] | (simp only [i64_w, i32_w]; rw [c27b0]) | skip)
                      have H' := Aside0.mk H
                      clear H
                      go_wp2
                      go_meet
                      case rel => exact ⟨_, (false), (by first | rfl | (simp; done) | (simp [*]; done)), H', ⟨by have := HK1.out; have := HJ12.out; first | omega | exact Nat.le_refl _⟩, ⟨by repeat (first | (with_reducible first | exact HB.out | apply below_alloc | apply pw_below_drewN | apply below_drew1) | exact HB.out)⟩⟩
                    · rw [if_neg c27] at H
                      have c27b0 : (t327 == 0) = false := beq_eq_false_iff_ne.mpr c27
                      have c27b1 : (t327 != 0) = true := bne_iff_ne.mpr c27
                      (first | rw [c27b0] | (simp only [i64_w, i32_w]; rw [c27b0]) | skip)
                      have H' := Aside0.mk H
                      clear H
                      go_wp2
                      go_meet
                      case rel => exact ⟨_, (decide (x6_1 < 0)), (by first | rfl | (simp; done) | (simp [*]; done)), H', ⟨by have := HK1.out; have := HJ12.out; first | omega | exact Nat.le_refl _⟩, ⟨by repeat (first | (with_reducible first | exact HB.out | apply below_alloc | apply pw_below_drewN | apply below_drew1) | exact HB.out)⟩⟩
                  case rest =>
                    clear HC26
                    try clear c1
                    try clear c2
                    try clear p2
                    try clear c3
                    try clear p3
                    try clear q3
                    try clear hx3
                    try clear c4
                    try clear c6
                    try clear c6b0
                    try clear c7
                    try clear c7b0
                    try clear c19
                    try clear c19b0
                    try clear c19b1
                    try clear c20
                    try clear c20b0
                    try clear c20b1
                    try clear c21
                    try clear c21b0
                    try clear c21b1
                    try clear c22
                    try clear c22b0
                    try clear c22b1
                    try clear c23
                    try clear c23b0
                    try clear c23b1
                    try clear c24
                    try clear c24b0
                    try clear c24b1
                    try clear c25
                    try clear c27
                    try clear c27b0
                    try clear c27b1
                    try clear hx326_0
                    try clear hx326_1
                    try clear hx326_2
                    try clear hx326_3
                    try clear hx326_4
                    try clear hx326_5
                    try clear hx328_0
                    try clear hx328_1
                    try clear hx328_2
                    try clear hx328_3
                    try clear hx328_4
                    try clear hx328_5
                    try clear hx330_0
                    try clear hx330_1
                    try clear hx330_2
                    try clear hx330_3
                    try clear hx330_4
                    try clear hx330_5
                    try clear hx332_0
                    try clear hx332_1
                    try clear hx332_2
                    try clear hx332_3
                    try clear hx332_4
                    try clear hx332_5
                    try clear hx334_0
                    try clear hx334_1
                    try clear hx334_2
                    try clear hx334_3
                    try clear hx334_4
                    try clear hx334_5
                    try clear p2
                    try clear p3
                    try clear p326
                    try clear p328
                    try clear p330
                    try clear p332
                    try clear p334
                    try clear q3
                    try clear q326
                    try clear q328
                    try clear q330
                    try clear q332
                    try clear q334
                    obtain ⟨kq, x83_25, rfl, HA, HJ25, HB⟩ := hcut
                    cases kq with
                    | zero => exact absurd HA.out (by simp [forebaylaw09_ExprSome.j2])
                    | succ kj25 =>
                      have H := HA.out
                      clear HA
                      simp only [forebaylaw09_ExprSome.j2] at H
                      by_cases c28 : x83_25 = true
                      · subst c28
                        have H1 : (if 0 ≤ x7_1 then (if x7_1 < (l0.length : Int) then ((expr_Metric.f ((rd_T25 l0 x7_1).f0) ((rd_T25 l0 x7_1).f1) ((rd_T25 l0 x7_1).f2) ((rd_T25 l0 x7_1).f3) ((rd_T25 l0 x7_1).f4) ((rd_T25 l0 x7_1).f5) a1).bind fun t337 => (if t337 = 0 then (forebaylaw09_ExprSome.l0 kj25 l0 a1 x5_1 x7_1 (wrap64 (x7_1 + 1))) else (if x5_1 < 0 then (forebaylaw09_ExprSome.l0 kj25 l0 a1 x7_1 x7_1 (wrap64 (x7_1 + 1))) else (forebaylaw09_ExprSome.l0 kj25 l0 a1 x5_1 x7_1 (wrap64 (x7_1 + 1)))))) else (none)) else (none)) = some r := by rw [if_pos rfl] at H; exact H
                        clear H
                        have H := H1
                        clear H1
                        by_cases c29 : 0 ≤ x7_1
                        · rw [if_pos c29] at H
                          have c29b0 : decide (0 ≤ x7_1) = true := decide_eq_true c29
                          clear c29
                          by_cases c30 : x7_1 < (l0.length : Int)
                          · rw [if_pos c30] at H
                            have c30b0 : decide (x7_1 < (l0.length : Int)) = true := decide_eq_true c30
                            clear c30
                            replace H := Option.bind_eq_some_iff.mp H
                            obtain ⟨t337, A310, H⟩ := H
                            replace H : (if t337 = 0 then (forebaylaw09_ExprSome.l0 kj25 l0 a1 x5_1 x7_1 (wrap64 (x7_1 + 1))) else (if x5_1 < 0 then (forebaylaw09_ExprSome.l0 kj25 l0 a1 x7_1 x7_1 (wrap64 (x7_1 + 1))) else (forebaylaw09_ExprSome.l0 kj25 l0 a1 x5_1 x7_1 (wrap64 (x7_1 + 1))))) = some r := H
                            have A31 := Aside0.mk A310
                            clear A310
                            by_cases c32 : t337 = 0
                            · rw [if_pos c32] at H
                              have c32b0 : (t337 == 0) = true := beq_iff_eq.mpr c32
                              have c32b1 : (t337 != 0) = false := bne_eq_false_iff_eq.mpr c32
                              clear c32
                              have H' := Aside0.mk H
                              clear H
                              have p336 : 0 ≤ (x7_1 : Int) := of_decide_eq_true (by first | (with_reducible assumption) | assumption)
                              have q336 : x7_1 < (l0.length : Int) := of_decide_eq_true (by first | (with_reducible assumption) | assumption)
                              obtain ⟨ad336, A336_2, c336_2, A336_4, c336_4, e336, hx336_0, hx336_1, hx336_2, hx336_3, hx336_4, hx336_5, hl336_2, hi336_2, hl336_4, hi336_4⟩ := at_T25 HR0.out x7_1 p336 q336
                              obtain rfl : ad326 = ad336 := (by injection e336)
                              replace hx336_0 := (HB.out.cell (World.block_lt_of_cell? w _ hx336_0)).trans hx336_0
                              replace hx336_1 := (HB.out.cell (World.block_lt_of_cell? w _ hx336_1)).trans hx336_1
                              replace hx336_2 := (HB.out.cell (World.block_lt_of_cell? w _ hx336_2)).trans hx336_2
                              replace hx336_3 := (HB.out.cell (World.block_lt_of_cell? w _ hx336_3)).trans hx336_3
                              replace hx336_4 := (HB.out.cell (World.block_lt_of_cell? w _ hx336_4)).trans hx336_4
                              replace hx336_5 := (HB.out.cell (World.block_lt_of_cell? w _ hx336_5)).trans hx336_5
                              have HR336_2 := Aside0.mk hi336_2
                              have HC336_2 := Aside0.mk hl336_2
                              clear hi336_2 hl336_2
                              have HR336_4 := Aside0.mk hi336_4
                              have HC336_4 := Aside0.mk hl336_4
                              clear hi336_4 hl336_4
                              replace p336 := eq_true p336
                              replace q336 := eq_true q336
                              go_wp2_with (first | ((with_reducible refine gate_callee (f := 19) rfl ?_); refine goesL_ (some 90) rfl rfl Try.func19 (by kernel_rfl) rfl #[.agg #[.string ((rd_T25 l0 x7_1).f0), .int .i64 ((rd_T25 l0 x7_1).f1), .slice A336_2 ((rd_T25 l0 x7_1).f2).length c336_2, .int .i64 ((rd_T25 l0 x7_1).f3), .slice A336_4 ((rd_T25 l0 x7_1).f4).length c336_4, .int .i64 ((rd_T25 l0 x7_1).f5)], .int .i64 a1] rfl (by (try simp only [List.map_toArray, List.map_cons, List.map_nil]); first | done | rfl | (simp only [List.length_drop, List.length_take]; rfl)) ?_; (with_reducible refine (expr_Metric.calls ((rd_T25 l0 x7_1).f0) ((rd_T25 l0 x7_1).f1) _ _ ((rd_T25 l0 x7_1).f2) ((rd_T25 l0 x7_1).f3) _ _ ((rd_T25 l0 x7_1).f4) ((rd_T25 l0 x7_1).f5) a1 t337 _ ?side1 ?side2 ?side3 ?side4 A31.out).mono ?_); (case side1 => repeat (first | exact (Kd.C_below HR336_2.out HB.out) | (with_reducible refine Kd.C_alloc ?_ _) | (with_reducible refine Kd.C_drewN ?_ _) | (with_reducible refine Kd.C_drew ?_))); (case side2 => exact HC336_2.out); (case side3 => repeat (first | exact (Kd.C_below HR336_4.out HB.out) | (with_reducible refine Kd.C_alloc ?_ _) | (with_reducible refine Kd.C_drewN ?_ _) | (with_reducible refine Kd.C_drew ?_))); (case side4 => exact HC336_4.out); rintro e w33 ⟨rfl, hb⟩; refine ⟨_, rfl, ?_⟩; have n0_ := Aside0.mk (below_step (by repeat (first | (with_reducible first | exact HB.out | apply below_alloc | apply pw_below_drewN | apply below_drew1) | exact HB.out)) hb); clear HB; have HB := n0_; clear n0_; (try clear hb); (try clear hb2); (try clear hk); (try clear hi)))
                              go_roundg kj25
                              case measure => have := HK1.out; have := HJ12.out; have := HJ25.out; omega
                              case rel => exact ⟨(x5_1), (x7_1), (wrap64 (x7_1 + 1)), (by first | rfl | (simp; done) | (simp [*]; done)), (by first | rfl | (simp; done) | (simp [*]; done)), (by first | rfl | (simp; done) | (simp [*]; done)), H', ⟨by have := HK1.out; have := HJ12.out; have := HJ25.out; omega⟩, ⟨by repeat (first | (with_reducible first | exact HB.out | apply below_alloc | apply pw_below_drewN | apply below_drew1) | exact HB.out)⟩⟩
                            · rw [if_neg c32] at H
                              have c32b0 : (t337 == 0) = false := beq_eq_false_iff_ne.mpr c32
                              have c32b1 : (t337 != 0) = true := bne_iff_ne.mpr c32
                              by_cases c34 : x5_1 < 0
                              · rw [if_pos c34] at H
                                have c34b0 : decide (x5_1 < 0) = true := decide_eq_true c34
                                clear c34
                                have H' := Aside0.mk H
                                clear H
                                have p336 : 0 ≤ (x7_1 : Int) := of_decide_eq_true (by first | (with_reducible assumption) | assumption)
                                have q336 : x7_1 < (l0.length : Int) := of_decide_eq_true (by first | (with_reducible assumption) | assumption)
                                obtain ⟨ad336, A336_2, c336_2, A336_4, c336_4, e336, hx336_0, hx336_1, hx336_2, hx336_3, hx336_4, hx336_5, hl336_2, hi336_2, hl336_4, hi336_4⟩ := at_T25 HR0.out x7_1 p336 q336
                                obtain rfl : ad326 = ad336 := (by injection e336)
                                replace hx336_0 := (HB.out.cell (World.block_lt_of_cell? w _ hx336_0)).trans hx336_0
                                replace hx336_1 := (HB.out.cell (World.block_lt_of_cell? w _ hx336_1)).trans hx336_1
                                replace hx336_2 := (HB.out.cell (World.block_lt_of_cell? w _ hx336_2)).trans hx336_2
                                replace hx336_3 := (HB.out.cell (World.block_lt_of_cell? w _ hx336_3)).trans hx336_3
                                replace hx336_4 := (HB.out.cell (World.block_lt_of_cell? w _ hx336_4)).trans hx336_4
                                replace hx336_5 := (HB.out.cell (World.block_lt_of_cell? w _ hx336_5)).trans hx336_5
                                have HR336_2 := Aside0.mk hi336_2
                                have HC336_2 := Aside0.mk hl336_2
                                clear hi336_2 hl336_2
                                have HR336_4 := Aside0.mk hi336_4
                                have HC336_4 := Aside0.mk hl336_4
                                clear hi336_4 hl336_4
                                replace p336 := eq_true p336
                                replace q336 := eq_true q336
                                go_wp2_with (first | ((with_reducible refine gate_callee (f := 19) rfl ?_); refine goesL_ (some 90) rfl rfl Try.func19 (by kernel_rfl) rfl #[.agg #[.string ((rd_T25 l0 x7_1).f0), .int .i64 ((rd_T25 l0 x7_1).f1), .slice A336_2 ((rd_T25 l0 x7_1).f2).length c336_2, .int .i64 ((rd_T25 l0 x7_1).f3), .slice A336_4 ((rd_T25 l0 x7_1).f4).length c336_4, .int .i64 ((rd_T25 l0 x7_1).f5)], .int .i64 a1] rfl (by (try simp only [List.map_toArray, List.map_cons, List.map_nil]); first | done | rfl | (simp only [List.length_drop, List.length_take]; rfl)) ?_; (with_reducible refine (expr_Metric.calls ((rd_T25 l0 x7_1).f0) ((rd_T25 l0 x7_1).f1) _ _ ((rd_T25 l0 x7_1).f2) ((rd_T25 l0 x7_1).f3) _ _ ((rd_T25 l0 x7_1).f4) ((rd_T25 l0 x7_1).f5) a1 t337 _ ?side1 ?side2 ?side3 ?side4 A31.out).mono ?_); (case side1 => repeat (first | exact (Kd.C_below HR336_2.out HB.out) | (with_reducible refine Kd.C_alloc ?_ _) | (with_reducible refine Kd.C_drewN ?_ _) | (with_reducible refine Kd.C_drew ?_))); (case side2 => exact HC336_2.out); (case side3 => repeat (first | exact (Kd.C_below HR336_4.out HB.out) | (with_reducible refine Kd.C_alloc ?_ _) | (with_reducible refine Kd.C_drewN ?_ _) | (with_reducible refine Kd.C_drew ?_))); (case side4 => exact HC336_4.out); rintro e w35 ⟨rfl, hb⟩; refine ⟨_, rfl, ?_⟩; have n0_ := Aside0.mk (below_step (by repeat (first | (with_reducible first | exact HB.out | apply below_alloc | apply pw_below_drewN | apply below_drew1) | exact HB.out)) hb); clear HB; have HB := n0_; clear n0_; (try clear hb); (try clear hb2); (try clear hk); (try clear hi)))
                                go_roundg kj25
                                case measure => have := HK1.out; have := HJ12.out; have := HJ25.out; omega
                                case rel => exact ⟨(x7_1), (x7_1), (wrap64 (x7_1 + 1)), (by first | rfl | (simp; done) | (simp [*]; done)), (by first | rfl | (simp; done) | (simp [*]; done)), (by first | rfl | (simp; done) | (simp [*]; done)), H', ⟨by have := HK1.out; have := HJ12.out; have := HJ25.out; omega⟩, ⟨by repeat (first | (with_reducible first | exact HB.out | apply below_alloc | apply pw_below_drewN | apply below_drew1) | exact HB.out)⟩⟩
                              · rw [if_neg c34] at H
                                have c34b0 : decide (x5_1 < 0) = false := decide_eq_false c34
                                clear c34
                                have H' := Aside0.mk H
                                clear H
                                have p336 : 0 ≤ (x7_1 : Int) := of_decide_eq_true (by first | (with_reducible assumption) | assumption)
                                have q336 : x7_1 < (l0.length : Int) := of_decide_eq_true (by first | (with_reducible assumption) | assumption)
                                obtain ⟨ad336, A336_2, c336_2, A336_4, c336_4, e336, hx336_0, hx336_1, hx336_2, hx336_3, hx336_4, hx336_5, hl336_2, hi336_2, hl336_4, hi336_4⟩ := at_T25 HR0.out x7_1 p336 q336
                                obtain rfl : ad326 = ad336 := (by injection e336)
                                replace hx336_0 := (HB.out.cell (World.block_lt_of_cell? w _ hx336_0)).trans hx336_0
                                replace hx336_1 := (HB.out.cell (World.block_lt_of_cell? w _ hx336_1)).trans hx336_1
                                replace hx336_2 := (HB.out.cell (World.block_lt_of_cell? w _ hx336_2)).trans hx336_2
                                replace hx336_3 := (HB.out.cell (World.block_lt_of_cell? w _ hx336_3)).trans hx336_3
                                replace hx336_4 := (HB.out.cell (World.block_lt_of_cell? w _ hx336_4)).trans hx336_4
                                replace hx336_5 := (HB.out.cell (World.block_lt_of_cell? w _ hx336_5)).trans hx336_5
                                have HR336_2 := Aside0.mk hi336_2
                                have HC336_2 := Aside0.mk hl336_2
                                clear hi336_2 hl336_2
                                have HR336_4 := Aside0.mk hi336_4
                                have HC336_4 := Aside0.mk hl336_4
                                clear hi336_4 hl336_4
                                replace p336 := eq_true p336
                                replace q336 := eq_true q336
                                go_wp2_with (first | ((with_reducible refine gate_callee (f := 19) rfl ?_); refine goesL_ (some 90) rfl rfl Try.func19 (by kernel_rfl) rfl #[.agg #[.string ((rd_T25 l0 x7_1).f0), .int .i64 ((rd_T25 l0 x7_1).f1), .slice A336_2 ((rd_T25 l0 x7_1).f2).length c336_2, .int .i64 ((rd_T25 l0 x7_1).f3), .slice A336_4 ((rd_T25 l0 x7_1).f4).length c336_4, .int .i64 ((rd_T25 l0 x7_1).f5)], .int .i64 a1] rfl (by (try simp only [List.map_toArray, List.map_cons, List.map_nil]); first | done | rfl | (simp only [List.length_drop, List.length_take]; rfl)) ?_; (with_reducible refine (expr_Metric.calls ((rd_T25 l0 x7_1).f0) ((rd_T25 l0 x7_1).f1) _ _ ((rd_T25 l0 x7_1).f2) ((rd_T25 l0 x7_1).f3) _ _ ((rd_T25 l0 x7_1).f4) ((rd_T25 l0 x7_1).f5) a1 t337 _ ?side1 ?side2 ?side3 ?side4 A31.out).mono ?_); (case side1 => repeat (first | exact (Kd.C_below HR336_2.out HB.out) | (with_reducible refine Kd.C_alloc ?_ _) | (with_reducible refine Kd.C_drewN ?_ _) | (with_reducible refine Kd.C_drew ?_))); (case side2 => exact HC336_2.out); (case side3 => repeat (first | exact (Kd.C_below HR336_4.out HB.out) | (with_reducible refine Kd.C_alloc ?_ _) | (with_reducible refine Kd.C_drewN ?_ _) | (with_reducible refine Kd.C_drew ?_))); (case side4 => exact HC336_4.out); rintro e w36 ⟨rfl, hb⟩; refine ⟨_, rfl, ?_⟩; have n0_ := Aside0.mk (below_step (by repeat (first | (with_reducible first | exact HB.out | apply below_alloc | apply pw_below_drewN | apply below_drew1) | exact HB.out)) hb); clear HB; have HB := n0_; clear n0_; (try clear hb); (try clear hb2); (try clear hk); (try clear hi)))
                                go_roundg kj25
                                case measure => have := HK1.out; have := HJ12.out; have := HJ25.out; omega
                                case rel => exact ⟨(x5_1), (x7_1), (wrap64 (x7_1 + 1)), (by first | rfl | (simp; done) | (simp [*]; done)), (by first | rfl | (simp; done) | (simp [*]; done)), (by first | rfl | (simp; done) | (simp [*]; done)), H', ⟨by have := HK1.out; have := HJ12.out; have := HJ25.out; omega⟩, ⟨by repeat (first | (with_reducible first | exact HB.out | apply below_alloc | apply pw_below_drewN | apply below_drew1) | exact HB.out)⟩⟩
                          · rw [if_neg c30] at H
                            exact absurd H (by simp)
                        · rw [if_neg c29] at H
                          exact absurd H (by simp)
                      · replace c28 := Bool.eq_false_iff.mpr c28
                        subst c28
                        have H1 : (if 0 ≤ x7_1 then (if x7_1 < (l0.length : Int) then ((expr_Metric.f ((rd_T25 l0 x7_1).f0) ((rd_T25 l0 x7_1).f1) ((rd_T25 l0 x7_1).f2) ((rd_T25 l0 x7_1).f3) ((rd_T25 l0 x7_1).f4) ((rd_T25 l0 x7_1).f5) a1).bind fun t339 => (if t339 = 0 then (forebaylaw09_ExprSome.l0 kj25 l0 a1 x5_1 x6_1 (wrap64 (x7_1 + 1))) else (if x5_1 < 0 then (forebaylaw09_ExprSome.l0 kj25 l0 a1 x7_1 x6_1 (wrap64 (x7_1 + 1))) else (forebaylaw09_ExprSome.l0 kj25 l0 a1 x5_1 x6_1 (wrap64 (x7_1 + 1)))))) else (none)) else (none)) = some r := by rw [if_neg (show ¬ (false = true) by decide)] at H; exact H
                        clear H
                        have H := H1
                        clear H1
                        by_cases c37 : 0 ≤ x7_1
                        · rw [if_pos c37] at H
                          have c37b0 : decide (0 ≤ x7_1) = true := decide_eq_true c37
                          clear c37
                          by_cases c38 : x7_1 < (l0.length : Int)
                          · rw [if_pos c38] at H
                            have c38b0 : decide (x7_1 < (l0.length : Int)) = true := decide_eq_true c38
                            clear c38
                            replace H := Option.bind_eq_some_iff.mp H
                            obtain ⟨t339, A390, H⟩ := H
                            replace H : (if t339 = 0 then (forebaylaw09_ExprSome.l0 kj25 l0 a1 x5_1 x6_1 (wrap64 (x7_1 + 1))) else (if x5_1 < 0 then (forebaylaw09_ExprSome.l0 kj25 l0 a1 x7_1 x6_1 (wrap64 (x7_1 + 1))) else (forebaylaw09_ExprSome.l0 kj25 l0 a1 x5_1 x6_1 (wrap64 (x7_1 + 1))))) = some r := H
                            have A39 := Aside0.mk A390
                            clear A390
                            by_cases c40 : t339 = 0
                            · rw [if_pos c40] at H
                              have c40b0 : (t339 == 0) = true := beq_iff_eq.mpr c40
                              have c40b1 : (t339 != 0) = false := bne_eq_false_iff_eq.mpr c40
                              clear c40
                              have H' := Aside0.mk H
                              clear H
                              have p338 : 0 ≤ (x7_1 : Int) := of_decide_eq_true (by first | (with_reducible assumption) | assumption)
                              have q338 : x7_1 < (l0.length : Int) := of_decide_eq_true (by first | (with_reducible assumption) | assumption)
                              obtain ⟨ad338, A338_2, c338_2, A338_4, c338_4, e338, hx338_0, hx338_1, hx338_2, hx338_3, hx338_4, hx338_5, hl338_2, hi338_2, hl338_4, hi338_4⟩ := at_T25 HR0.out x7_1 p338 q338
                              obtain rfl : ad326 = ad338 := (by injection e338)
                              replace hx338_0 := (HB.out.cell (World.block_lt_of_cell? w _ hx338_0)).trans hx338_0
                              replace hx338_1 := (HB.out.cell (World.block_lt_of_cell? w _ hx338_1)).trans hx338_1
                              replace hx338_2 := (HB.out.cell (World.block_lt_of_cell? w _ hx338_2)).trans hx338_2
                              replace hx338_3 := (HB.out.cell (World.block_lt_of_cell? w _ hx338_3)).trans hx338_3
                              replace hx338_4 := (HB.out.cell (World.block_lt_of_cell? w _ hx338_4)).trans hx338_4
                              replace hx338_5 := (HB.out.cell (World.block_lt_of_cell? w _ hx338_5)).trans hx338_5
                              have HR338_2 := Aside0.mk hi338_2
                              have HC338_2 := Aside0.mk hl338_2
                              clear hi338_2 hl338_2
                              have HR338_4 := Aside0.mk hi338_4
                              have HC338_4 := Aside0.mk hl338_4
                              clear hi338_4 hl338_4
                              replace p338 := eq_true p338
                              replace q338 := eq_true q338
                              go_wp2_with (first | ((with_reducible refine gate_callee (f := 19) rfl ?_); refine goesL_ (some 90) rfl rfl Try.func19 (by kernel_rfl) rfl #[.agg #[.string ((rd_T25 l0 x7_1).f0), .int .i64 ((rd_T25 l0 x7_1).f1), .slice A338_2 ((rd_T25 l0 x7_1).f2).length c338_2, .int .i64 ((rd_T25 l0 x7_1).f3), .slice A338_4 ((rd_T25 l0 x7_1).f4).length c338_4, .int .i64 ((rd_T25 l0 x7_1).f5)], .int .i64 a1] rfl (by (try simp only [List.map_toArray, List.map_cons, List.map_nil]); first | done | rfl | (simp only [List.length_drop, List.length_take]; rfl)) ?_; (with_reducible refine (expr_Metric.calls ((rd_T25 l0 x7_1).f0) ((rd_T25 l0 x7_1).f1) _ _ ((rd_T25 l0 x7_1).f2) ((rd_T25 l0 x7_1).f3) _ _ ((rd_T25 l0 x7_1).f4) ((rd_T25 l0 x7_1).f5) a1 t339 _ ?side1 ?side2 ?side3 ?side4 A39.out).mono ?_); (case side1 => repeat (first | exact (Kd.C_below HR338_2.out HB.out) | (with_reducible refine Kd.C_alloc ?_ _) | (with_reducible refine Kd.C_drewN ?_ _) | (with_reducible refine Kd.C_drew ?_))); (case side2 => exact HC338_2.out); (case side3 => repeat (first | exact (Kd.C_below HR338_4.out HB.out) | (with_reducible refine Kd.C_alloc ?_ _) | (with_reducible refine Kd.C_drewN ?_ _) | (with_reducible refine Kd.C_drew ?_))); (case side4 => exact HC338_4.out); rintro e w41 ⟨rfl, hb⟩; refine ⟨_, rfl, ?_⟩; have n0_ := Aside0.mk (below_step (by repeat (first | (with_reducible first | exact HB.out | apply below_alloc | apply pw_below_drewN | apply below_drew1) | exact HB.out)) hb); clear HB; have HB := n0_; clear n0_; (try clear hb); (try clear hb2); (try clear hk); (try clear hi)))
                              go_roundg kj25
                              case measure => have := HK1.out; have := HJ12.out; have := HJ25.out; omega
                              case rel => exact ⟨(x5_1), (x6_1), (wrap64 (x7_1 + 1)), (by first | rfl | (simp; done) | (simp [*]; done)), (by first | rfl | (simp; done) | (simp [*]; done)), (by first | rfl | (simp; done) | (simp [*]; done)), H', ⟨by have := HK1.out; have := HJ12.out; have := HJ25.out; omega⟩, ⟨by repeat (first | (with_reducible first | exact HB.out | apply below_alloc | apply pw_below_drewN | apply below_drew1) | exact HB.out)⟩⟩
                            · rw [if_neg c40] at H
                              have c40b0 : (t339 == 0) = false := beq_eq_false_iff_ne.mpr c40
                              have c40b1 : (t339 != 0) = true := bne_iff_ne.mpr c40
                              by_cases c42 : x5_1 < 0
                              · rw [if_pos c42] at H
                                have c42b0 : decide (x5_1 < 0) = true := decide_eq_true c42
                                clear c42
                                have H' := Aside0.mk H
                                clear H
                                have p338 : 0 ≤ (x7_1 : Int) := of_decide_eq_true (by first | (with_reducible assumption) | assumption)
                                have q338 : x7_1 < (l0.length : Int) := of_decide_eq_true (by first | (with_reducible assumption) | assumption)
                                obtain ⟨ad338, A338_2, c338_2, A338_4, c338_4, e338, hx338_0, hx338_1, hx338_2, hx338_3, hx338_4, hx338_5, hl338_2, hi338_2, hl338_4, hi338_4⟩ := at_T25 HR0.out x7_1 p338 q338
                                obtain rfl : ad326 = ad338 := (by injection e338)
                                replace hx338_0 := (HB.out.cell (World.block_lt_of_cell? w _ hx338_0)).trans hx338_0
                                replace hx338_1 := (HB.out.cell (World.block_lt_of_cell? w _ hx338_1)).trans hx338_1
                                replace hx338_2 := (HB.out.cell (World.block_lt_of_cell? w _ hx338_2)).trans hx338_2
                                replace hx338_3 := (HB.out.cell (World.block_lt_of_cell? w _ hx338_3)).trans hx338_3
                                replace hx338_4 := (HB.out.cell (World.block_lt_of_cell? w _ hx338_4)).trans hx338_4
                                replace hx338_5 := (HB.out.cell (World.block_lt_of_cell? w _ hx338_5)).trans hx338_5
                                have HR338_2 := Aside0.mk hi338_2
                                have HC338_2 := Aside0.mk hl338_2
                                clear hi338_2 hl338_2
                                have HR338_4 := Aside0.mk hi338_4
                                have HC338_4 := Aside0.mk hl338_4
                                clear hi338_4 hl338_4
                                replace p338 := eq_true p338
                                replace q338 := eq_true q338
                                go_wp2_with (first | ((with_reducible refine gate_callee (f := 19) rfl ?_); refine goesL_ (some 90) rfl rfl Try.func19 (by kernel_rfl) rfl #[.agg #[.string ((rd_T25 l0 x7_1).f0), .int .i64 ((rd_T25 l0 x7_1).f1), .slice A338_2 ((rd_T25 l0 x7_1).f2).length c338_2, .int .i64 ((rd_T25 l0 x7_1).f3), .slice A338_4 ((rd_T25 l0 x7_1).f4).length c338_4, .int .i64 ((rd_T25 l0 x7_1).f5)], .int .i64 a1] rfl (by (try simp only [List.map_toArray, List.map_cons, List.map_nil]); first | done | rfl | (simp only [List.length_drop, List.length_take]; rfl)) ?_; (with_reducible refine (expr_Metric.calls ((rd_T25 l0 x7_1).f0) ((rd_T25 l0 x7_1).f1) _ _ ((rd_T25 l0 x7_1).f2) ((rd_T25 l0 x7_1).f3) _ _ ((rd_T25 l0 x7_1).f4) ((rd_T25 l0 x7_1).f5) a1 t339 _ ?side1 ?side2 ?side3 ?side4 A39.out).mono ?_); (case side1 => repeat (first | exact (Kd.C_below HR338_2.out HB.out) | (with_reducible refine Kd.C_alloc ?_ _) | (with_reducible refine Kd.C_drewN ?_ _) | (with_reducible refine Kd.C_drew ?_))); (case side2 => exact HC338_2.out); (case side3 => repeat (first | exact (Kd.C_below HR338_4.out HB.out) | (with_reducible refine Kd.C_alloc ?_ _) | (with_reducible refine Kd.C_drewN ?_ _) | (with_reducible refine Kd.C_drew ?_))); (case side4 => exact HC338_4.out); rintro e w43 ⟨rfl, hb⟩; refine ⟨_, rfl, ?_⟩; have n0_ := Aside0.mk (below_step (by repeat (first | (with_reducible first | exact HB.out | apply below_alloc | apply pw_below_drewN | apply below_drew1) | exact HB.out)) hb); clear HB; have HB := n0_; clear n0_; (try clear hb); (try clear hb2); (try clear hk); (try clear hi)))
                                go_roundg kj25
                                case measure => have := HK1.out; have := HJ12.out; have := HJ25.out; omega
                                case rel => exact ⟨(x7_1), (x6_1), (wrap64 (x7_1 + 1)), (by first | rfl | (simp; done) | (simp [*]; done)), (by first | rfl | (simp; done) | (simp [*]; done)), (by first | rfl | (simp; done) | (simp [*]; done)), H', ⟨by have := HK1.out; have := HJ12.out; have := HJ25.out; omega⟩, ⟨by repeat (first | (with_reducible first | exact HB.out | apply below_alloc | apply pw_below_drewN | apply below_drew1) | exact HB.out)⟩⟩
                              · rw [if_neg c42] at H
                                have c42b0 : decide (x5_1 < 0) = false := decide_eq_false c42
                                clear c42
                                have H' := Aside0.mk H
                                clear H
                                have p338 : 0 ≤ (x7_1 : Int) := of_decide_eq_true (by first | (with_reducible assumption) | assumption)
                                have q338 : x7_1 < (l0.length : Int) := of_decide_eq_true (by first | (with_reducible assumption) | assumption)
                                obtain ⟨ad338, A338_2, c338_2, A338_4, c338_4, e338, hx338_0, hx338_1, hx338_2, hx338_3, hx338_4, hx338_5, hl338_2, hi338_2, hl338_4, hi338_4⟩ := at_T25 HR0.out x7_1 p338 q338
                                obtain rfl : ad326 = ad338 := (by injection e338)
                                replace hx338_0 := (HB.out.cell (World.block_lt_of_cell? w _ hx338_0)).trans hx338_0
                                replace hx338_1 := (HB.out.cell (World.block_lt_of_cell? w _ hx338_1)).trans hx338_1
                                replace hx338_2 := (HB.out.cell (World.block_lt_of_cell? w _ hx338_2)).trans hx338_2
                                replace hx338_3 := (HB.out.cell (World.block_lt_of_cell? w _ hx338_3)).trans hx338_3
                                replace hx338_4 := (HB.out.cell (World.block_lt_of_cell? w _ hx338_4)).trans hx338_4
                                replace hx338_5 := (HB.out.cell (World.block_lt_of_cell? w _ hx338_5)).trans hx338_5
                                have HR338_2 := Aside0.mk hi338_2
                                have HC338_2 := Aside0.mk hl338_2
                                clear hi338_2 hl338_2
                                have HR338_4 := Aside0.mk hi338_4
                                have HC338_4 := Aside0.mk hl338_4
                                clear hi338_4 hl338_4
                                replace p338 := eq_true p338
                                replace q338 := eq_true q338
                                go_wp2_with (first | ((with_reducible refine gate_callee (f := 19) rfl ?_); refine goesL_ (some 90) rfl rfl Try.func19 (by kernel_rfl) rfl #[.agg #[.string ((rd_T25 l0 x7_1).f0), .int .i64 ((rd_T25 l0 x7_1).f1), .slice A338_2 ((rd_T25 l0 x7_1).f2).length c338_2, .int .i64 ((rd_T25 l0 x7_1).f3), .slice A338_4 ((rd_T25 l0 x7_1).f4).length c338_4, .int .i64 ((rd_T25 l0 x7_1).f5)], .int .i64 a1] rfl (by (try simp only [List.map_toArray, List.map_cons, List.map_nil]); first | done | rfl | (simp only [List.length_drop, List.length_take]; rfl)) ?_; (with_reducible refine (expr_Metric.calls ((rd_T25 l0 x7_1).f0) ((rd_T25 l0 x7_1).f1) _ _ ((rd_T25 l0 x7_1).f2) ((rd_T25 l0 x7_1).f3) _ _ ((rd_T25 l0 x7_1).f4) ((rd_T25 l0 x7_1).f5) a1 t339 _ ?side1 ?side2 ?side3 ?side4 A39.out).mono ?_); (case side1 => repeat (first | exact (Kd.C_below HR338_2.out HB.out) | (with_reducible refine Kd.C_alloc ?_ _) | (with_reducible refine Kd.C_drewN ?_ _) | (with_reducible refine Kd.C_drew ?_))); (case side2 => exact HC338_2.out); (case side3 => repeat (first | exact (Kd.C_below HR338_4.out HB.out) | (with_reducible refine Kd.C_alloc ?_ _) | (with_reducible refine Kd.C_drewN ?_ _) | (with_reducible refine Kd.C_drew ?_))); (case side4 => exact HC338_4.out); rintro e w44 ⟨rfl, hb⟩; refine ⟨_, rfl, ?_⟩; have n0_ := Aside0.mk (below_step (by repeat (first | (with_reducible first | exact HB.out | apply below_alloc | apply pw_below_drewN | apply below_drew1) | exact HB.out)) hb); clear HB; have HB := n0_; clear n0_; (try clear hb); (try clear hb2); (try clear hk); (try clear hi)))
                                go_roundg kj25
                                case measure => have := HK1.out; have := HJ12.out; have := HJ25.out; omega
                                case rel => exact ⟨(x5_1), (x6_1), (wrap64 (x7_1 + 1)), (by first | rfl | (simp; done) | (simp [*]; done)), (by first | rfl | (simp; done) | (simp [*]; done)), (by first | rfl | (simp; done) | (simp [*]; done)), H', ⟨by have := HK1.out; have := HJ12.out; have := HJ25.out; omega⟩, ⟨by repeat (first | (with_reducible first | exact HB.out | apply below_alloc | apply pw_below_drewN | apply below_drew1) | exact HB.out)⟩⟩
                          · rw [if_neg c38] at H
                            exact absurd H (by simp)
                        · rw [if_neg c37] at H
                          exact absurd H (by simp)
          · rw [if_neg c7] at H
            exact absurd H (by simp)
        · rw [if_neg c6] at H
          have c6b0 : decide (x7_1 < (l0.length : Int)) = false := decide_eq_false c6
          clear c6
          replace H := Option.bind_eq_some_iff.mp H
          obtain ⟨⟨t340, t341⟩, A450, H⟩ := H
          replace H : (if a1 < 1 then (forebaylaw09_ExprSome.j3 k1 l0 x5_1 x6_1 t340 t341 true) else (forebaylaw09_ExprSome.j3 k1 l0 x5_1 x6_1 t340 t341 (decide (a1 > 4)))) = some r := H
          have A45 := Aside0.mk A450
          clear A450
          have HC46 := Aside0.mk H
          clear H
          go_upto_region 20 with (first | ((with_reducible refine gate_callee (f := 21) rfl ?_); refine goesL_ (some 100) rfl rfl Try.func21 (by kernel_rfl) rfl #[.slice A0 l0.length c0, .int .i64 a1] rfl (by (try simp only [List.map_toArray, List.map_cons, List.map_nil]); first | done | rfl | (simp only [List.length_drop, List.length_take]; rfl)) ?_; (with_reducible refine (expr_Batch.calls _ _ l0 a1 t340 t341 _ ?side1 ?side2 A45.out).mono ?_); (case side1 => repeat (first | exact (Kd.C_below HR0.out HB.out) | (with_reducible refine Kd.C_alloc ?_ _) | (with_reducible refine Kd.C_drewN ?_ _) | (with_reducible refine Kd.C_drew ?_))); (case side2 => exact HC0.out); rintro e w47 ⟨rfl, hb⟩; refine ⟨_, rfl, ?_⟩; have n0_ := Aside0.mk (below_step (by repeat (first | (with_reducible first | exact HB.out | apply below_alloc | apply pw_below_drewN | apply below_drew1) | exact HB.out)) hb); clear HB; have HB := n0_; clear n0_; (try clear hb); (try clear hb2); (try clear hk); (try clear hi)))
          (try simp only [Act.put, List.setIfInBounds_toArray, List.set_cons_zero, List.set_cons_succ])
          go_cut [108] (fun v108 wc => ∃ (kq : Nat) (x108_45 : Bool), v108 = .bool x108_45 ∧ Aside0 (forebaylaw09_ExprSome.j3 kq l0 x5_1 x6_1 t340 t341 x108_45 = some r) ∧ Aside0 (kq ≤ k1) ∧ Aside0 (Below w.heap.size w wc))
          case first =>
            have H := HC46.out
            clear HC46
            by_cases c48 : a1 < 1
            · rw [if_pos c48] at H
              have c48b0 : decide (a1 < 1) = true := decide_eq_true c48
              clear c48
              (first | rw [c48b0] | (simp only [i64_w, i32_w]; rw [c48b0]) | skip)
              have H' := Aside0.mk H
              clear H
              go_wp2
              go_meet
              case rel => exact ⟨_, (true), (by first | rfl | (simp; done) | (simp [*]; done)), H', ⟨by have := HK1.out; first | omega | exact Nat.le_refl _⟩, ⟨by repeat (first | (with_reducible first | exact HB.out | apply below_alloc | apply pw_below_drewN | apply below_drew1) | exact HB.out)⟩⟩
            · rw [if_neg c48] at H
              have c48b0 : decide (a1 < 1) = false := decide_eq_false c48
              clear c48
              (first | rw [c48b0] | (simp only [i64_w, i32_w]; rw [c48b0]) | skip)
              have H' := Aside0.mk H
              clear H
              go_wp2
              go_meet
              case rel => exact ⟨_, (decide (a1 > 4)), (by first | rfl | (simp; done) | (simp [*]; done)), H', ⟨by have := HK1.out; first | omega | exact Nat.le_refl _⟩, ⟨by repeat (first | (with_reducible first | exact HB.out | apply below_alloc | apply pw_below_drewN | apply below_drew1) | exact HB.out)⟩⟩
          case rest =>
            clear HC46
            try clear c1
            try clear c2
            try clear p2
            try clear c3
            try clear p3
            try clear q3
            try clear hx3
            try clear c4
            try clear c6
            try clear c6b0
            try clear p6
            try clear c7
            try clear c7b0
            try clear c19
            try clear c19b0
            try clear c19b1
            try clear c20
            try clear c20b0
            try clear c20b1
            try clear c21
            try clear c21b0
            try clear c21b1
            try clear c22
            try clear c22b0
            try clear c22b1
            try clear c23
            try clear c23b0
            try clear c23b1
            try clear c24
            try clear c24b0
            try clear c24b1
            try clear c25
            try clear c27
            try clear c27b0
            try clear c27b1
            try clear c28
            try clear c29
            try clear c29b0
            try clear c30
            try clear c30b0
            try clear c32
            try clear c32b0
            try clear c32b1
            try clear p32
            try clear q32
            try clear hx32
            try clear c33
            try clear p33
            try clear q33
            try clear hx33
            try clear c34
            try clear c34b0
            try clear c37
            try clear c37b0
            try clear c38
            try clear c38b0
            try clear c40
            try clear c40b0
            try clear c40b1
            try clear c42
            try clear c42b0
            try clear c48
            try clear c48b0
            try clear hx326_0
            try clear hx326_1
            try clear hx326_2
            try clear hx326_3
            try clear hx326_4
            try clear hx326_5
            try clear hx328_0
            try clear hx328_1
            try clear hx328_2
            try clear hx328_3
            try clear hx328_4
            try clear hx328_5
            try clear hx330_0
            try clear hx330_1
            try clear hx330_2
            try clear hx330_3
            try clear hx330_4
            try clear hx330_5
            try clear hx332_0
            try clear hx332_1
            try clear hx332_2
            try clear hx332_3
            try clear hx332_4
            try clear hx332_5
            try clear hx334_0
            try clear hx334_1
            try clear hx334_2
            try clear hx334_3
            try clear hx334_4
            try clear hx334_5
            try clear hx336_0
            try clear hx336_1
            try clear hx336_2
            try clear hx336_3
            try clear hx336_4
            try clear hx336_5
            try clear hx338_0
            try clear hx338_1
            try clear hx338_2
            try clear hx338_3
            try clear hx338_4
            try clear hx338_5
            try clear p2
            try clear p3
            try clear p326
            try clear p328
            try clear p330
            try clear p332
            try clear p334
            try clear p336
            try clear p338
            try clear q3
            try clear q326
            try clear q328
            try clear q330
            try clear q332
            try clear q334
            try clear q336
            try clear q338
            obtain ⟨kq, x108_45, rfl, HA, HJ45, HB⟩ := hcut
            cases kq with
            | zero => exact absurd HA.out (by simp [forebaylaw09_ExprSome.j3])
            | succ kj45 =>
              have H := HA.out
              clear HA
              simp only [forebaylaw09_ExprSome.j3] at H
              by_cases c49 : x108_45 = true
              · subst c49
                have H1 : (if t340 = 0 then (if t341 = 29 then ((forebaylaw09_awake.f kj45).bind fun t342 => (some t342)) else (none)) else (none)) = some r := by rw [if_pos rfl] at H; exact H
                clear H
                have H := H1
                clear H1
                by_cases c50 : t340 = 0
                · rw [if_pos c50] at H
                  have c50b0 : (t340 == 0) = true := beq_iff_eq.mpr c50
                  have c50b1 : (t340 != 0) = false := bne_eq_false_iff_eq.mpr c50
                  clear c50
                  by_cases c51 : t341 = 29
                  · rw [if_pos c51] at H
                    have c51b0 : (t341 == 29) = true := beq_iff_eq.mpr c51
                    have c51b1 : (t341 != 29) = false := bne_eq_false_iff_eq.mpr c51
                    clear c51
                    replace H := Option.bind_eq_some_iff.mp H
                    obtain ⟨t342, A520, H⟩ := H
                    replace H : (some t342) = some r := H
                    have A52 := Aside0.mk A520
                    clear A520
                    obtain rfl := Option.some.inj H
                    go_wp2_with (first | (go_at_call 13; (with_reducible refine (forebaylaw09_awake.calls kj45  t342 _ A52.out).mono ?_); rintro e w53 ⟨rfl, hb⟩; have n0_ := Aside0.mk (below_step (by repeat (first | (with_reducible first | exact HB.out | apply below_alloc | apply pw_below_drewN | apply below_drew1) | exact HB.out)) hb); clear HB; have HB := n0_; clear n0_; (try clear hb); (try clear hb2); (try clear hk); (try clear hi)))
                    go_ret
                    exact ⟨by first | rfl | (simp [errW_none, errW_some] <;> rfl) | (simp [*, errW_none, errW_some] <;> rfl), by repeat (first | (with_reducible first | exact HB.out | apply below_alloc | apply pw_below_drewN | apply below_drew1) | exact HB.out)⟩
                  · rw [if_neg c51] at H
                    exact absurd H (by simp)
                · rw [if_neg c50] at H
                  exact absurd H (by simp)
              · replace c49 := Bool.eq_false_iff.mpr c49
                subst c49
                have H1 : (if x6_1 ≥ 0 then (if t340 = x6_1 then (if 0 ≤ x6_1 then (if x6_1 < (l0.length : Int) then ((metric_Check.f ((rd_T25 l0 x6_1).f0) ((rd_T25 l0 x6_1).f1) ((rd_T25 l0 x6_1).f2) ((rd_T25 l0 x6_1).f3) ((rd_T25 l0 x6_1).f4) ((rd_T25 l0 x6_1).f5)).bind fun t344 => (if t341 = t344 then ((forebaylaw09_awake.f kj45).bind fun t345 => (some t345)) else (none))) else (none)) else (none)) else (none)) else (if x5_1 ≥ 0 then (if t340 = x5_1 then (if t341 = 26 then ((forebaylaw09_awake.f kj45).bind fun t346 => (some t346)) else (none)) else (none)) else (if t340 = 0 then (if t341 = 0 then ((forebaylaw09_awake.f kj45).bind fun t347 => (some t347)) else (none)) else (none)))) = some r := by rw [if_neg (show ¬ (false = true) by decide)] at H; exact H
                clear H
                have H := H1
                clear H1
                by_cases c54 : x6_1 ≥ 0
                · rw [if_pos c54] at H
                  have c54b0 : decide (0 ≤ x6_1) = true := decide_eq_true c54
                  clear c54
                  by_cases c55 : t340 = x6_1
                  · rw [if_pos c55] at H
                    have c55b0 : (t340 == x6_1) = true := beq_iff_eq.mpr c55
                    have c55b1 : (t340 != x6_1) = false := bne_eq_false_iff_eq.mpr c55
                    clear c55
                    by_cases c56 : 0 ≤ x6_1
                    · rw [if_pos c56] at H
                      have c56b0 : decide (0 ≤ x6_1) = true := decide_eq_true c56
                      clear c56
                      by_cases c57 : x6_1 < (l0.length : Int)
                      · rw [if_pos c57] at H
                        have c57b0 : decide (x6_1 < (l0.length : Int)) = true := decide_eq_true c57
                        clear c57
                        replace H := Option.bind_eq_some_iff.mp H
                        obtain ⟨t344, A580, H⟩ := H
                        replace H : (if t341 = t344 then ((forebaylaw09_awake.f kj45).bind fun t345 => (some t345)) else (none)) = some r := H
                        have A58 := Aside0.mk A580
                        clear A580
                        by_cases c59 : t341 = t344
                        · rw [if_pos c59] at H
                          have c59b0 : (t341 == t344) = true := beq_iff_eq.mpr c59
                          have c59b1 : (t341 != t344) = false := bne_eq_false_iff_eq.mpr c59
                          clear c59
                          replace H := Option.bind_eq_some_iff.mp H
                          obtain ⟨t345, A600, H⟩ := H
                          replace H : (some t345) = some r := H
                          have A60 := Aside0.mk A600
                          clear A600
                          obtain rfl := Option.some.inj H
                          have p343 : 0 ≤ (x6_1 : Int) := of_decide_eq_true (by first | (with_reducible assumption) | assumption)
                          have q343 : x6_1 < (l0.length : Int) := of_decide_eq_true (by first | (with_reducible assumption) | assumption)
                          obtain ⟨ad343, A343_2, c343_2, A343_4, c343_4, e343, hx343_0, hx343_1, hx343_2, hx343_3, hx343_4, hx343_5, hl343_2, hi343_2, hl343_4, hi343_4⟩ := at_T25 HR0.out x6_1 p343 q343
                          cases e343
                          replace hx343_0 := (HB.out.cell (World.block_lt_of_cell? w _ hx343_0)).trans hx343_0
                          replace hx343_1 := (HB.out.cell (World.block_lt_of_cell? w _ hx343_1)).trans hx343_1
                          replace hx343_2 := (HB.out.cell (World.block_lt_of_cell? w _ hx343_2)).trans hx343_2
                          replace hx343_3 := (HB.out.cell (World.block_lt_of_cell? w _ hx343_3)).trans hx343_3
                          replace hx343_4 := (HB.out.cell (World.block_lt_of_cell? w _ hx343_4)).trans hx343_4
                          replace hx343_5 := (HB.out.cell (World.block_lt_of_cell? w _ hx343_5)).trans hx343_5
                          have HR343_2 := Aside0.mk hi343_2
                          have HC343_2 := Aside0.mk hl343_2
                          clear hi343_2 hl343_2
                          have HR343_4 := Aside0.mk hi343_4
                          have HC343_4 := Aside0.mk hl343_4
                          clear hi343_4 hl343_4
                          replace p343 := eq_true p343
                          replace q343 := eq_true q343
                          go_wp2_with (first | (go_at_call 23; (with_reducible refine (metric_Check.calls ((rd_T25 l0 x6_1).f0) ((rd_T25 l0 x6_1).f1) _ _ ((rd_T25 l0 x6_1).f2) ((rd_T25 l0 x6_1).f3) _ _ ((rd_T25 l0 x6_1).f4) ((rd_T25 l0 x6_1).f5) t344 _ ?side1 ?side2 ?side3 ?side4 A58.out).mono ?_); (case side1 => repeat (first | exact (Kd.C_below HR343_2.out HB.out) | (with_reducible refine Kd.C_alloc ?_ _) | (with_reducible refine Kd.C_drewN ?_ _) | (with_reducible refine Kd.C_drew ?_))); (case side2 => exact HC343_2.out); (case side3 => repeat (first | exact (Kd.C_below HR343_4.out HB.out) | (with_reducible refine Kd.C_alloc ?_ _) | (with_reducible refine Kd.C_drewN ?_ _) | (with_reducible refine Kd.C_drew ?_))); (case side4 => exact HC343_4.out); rintro e w61 ⟨rfl, hb⟩; have n0_ := Aside0.mk (below_step (by repeat (first | (with_reducible first | exact HB.out | apply below_alloc | apply pw_below_drewN | apply below_drew1) | exact HB.out)) hb); clear HB; have HB := n0_; clear n0_; (try clear hb); (try clear hb2); (try clear hk); (try clear hi)) | (go_at_call 13; (with_reducible refine (forebaylaw09_awake.calls kj45  t345 _ A60.out).mono ?_); rintro e w62 ⟨rfl, hb⟩; have n0_ := Aside0.mk (below_step (by repeat (first | (with_reducible first | exact HB.out | apply below_alloc | apply pw_below_drewN | apply below_drew1) | exact HB.out)) hb); clear HB; have HB := n0_; clear n0_; (try clear hb); (try clear hb2); (try clear hk); (try clear hi)))
                          go_ret
                          exact ⟨by first | rfl | (simp [errW_none, errW_some] <;> rfl) | (simp [*, errW_none, errW_some] <;> rfl), by repeat (first | (with_reducible first | exact HB.out | apply below_alloc | apply pw_below_drewN | apply below_drew1) | exact HB.out)⟩
                        · rw [if_neg c59] at H
                          exact absurd H (by simp)
                      · rw [if_neg c57] at H
                        exact absurd H (by simp)
                    · rw [if_neg c56] at H
                      exact absurd H (by simp)
                  · rw [if_neg c55] at H
                    exact absurd H (by simp)
                · rw [if_neg c54] at H
                  have c54b0 : decide (0 ≤ x6_1) = false := decide_eq_false c54
                  clear c54
                  by_cases c63 : x5_1 ≥ 0
                  · rw [if_pos c63] at H
                    have c63b0 : decide (0 ≤ x5_1) = true := decide_eq_true c63
                    clear c63
                    by_cases c64 : t340 = x5_1
                    · rw [if_pos c64] at H
                      have c64b0 : (t340 == x5_1) = true := beq_iff_eq.mpr c64
                      have c64b1 : (t340 != x5_1) = false := bne_eq_false_iff_eq.mpr c64
                      clear c64
                      by_cases c65 : t341 = 26
                      · rw [if_pos c65] at H
                        have c65b0 : (t341 == 26) = true := beq_iff_eq.mpr c65
                        have c65b1 : (t341 != 26) = false := bne_eq_false_iff_eq.mpr c65
                        clear c65
                        replace H := Option.bind_eq_some_iff.mp H
                        obtain ⟨t346, A660, H⟩ := H
                        replace H : (some t346) = some r := H
                        have A66 := Aside0.mk A660
                        clear A660
                        obtain rfl := Option.some.inj H
                        go_wp2_with (first | (go_at_call 13; (with_reducible refine (forebaylaw09_awake.calls kj45  t346 _ A66.out).mono ?_); rintro e w67 ⟨rfl, hb⟩; have n0_ := Aside0.mk (below_step (by repeat (first | (with_reducible first | exact HB.out | apply below_alloc | apply pw_below_drewN | apply below_drew1) | exact HB.out)) hb); clear HB; have HB := n0_; clear n0_; (try clear hb); (try clear hb2); (try clear hk); (try clear hi)))
                        go_ret
                        exact ⟨by first | rfl | (simp [errW_none, errW_some] <;> rfl) | (simp [*, errW_none, errW_some] <;> rfl), by repeat (first | (with_reducible first | exact HB.out | apply below_alloc | apply pw_below_drewN | apply below_drew1) | exact HB.out)⟩
                      · rw [if_neg c65] at H
                        exact absurd H (by simp)
                    · rw [if_neg c64] at H
                      exact absurd H (by simp)
                  · rw [if_neg c63] at H
                    have c63b0 : decide (0 ≤ x5_1) = false := decide_eq_false c63
                    clear c63
                    by_cases c68 : t340 = 0
                    · rw [if_pos c68] at H
                      have c68b0 : (t340 == 0) = true := beq_iff_eq.mpr c68
                      have c68b1 : (t340 != 0) = false := bne_eq_false_iff_eq.mpr c68
                      clear c68
                      by_cases c69 : t341 = 0
                      · rw [if_pos c69] at H
                        have c69b0 : (t341 == 0) = true := beq_iff_eq.mpr c69
                        have c69b1 : (t341 != 0) = false := bne_eq_false_iff_eq.mpr c69
                        clear c69
                        replace H := Option.bind_eq_some_iff.mp H
                        obtain ⟨t347, A700, H⟩ := H
                        replace H : (some t347) = some r := H
                        have A70 := Aside0.mk A700
                        clear A700
                        obtain rfl := Option.some.inj H
                        go_wp2_with (first | (go_at_call 13; (with_reducible refine (forebaylaw09_awake.calls kj45  t347 _ A70.out).mono ?_); rintro e w71 ⟨rfl, hb⟩; have n0_ := Aside0.mk (below_step (by repeat (first | (with_reducible first | exact HB.out | apply below_alloc | apply pw_below_drewN | apply below_drew1) | exact HB.out)) hb); clear HB; have HB := n0_; clear n0_; (try clear hb); (try clear hb2); (try clear hk); (try clear hi)))
                        go_ret
                        exact ⟨by first | rfl | (simp [errW_none, errW_some] <;> rfl) | (simp [*, errW_none, errW_some] <;> rfl), by repeat (first | (with_reducible first | exact HB.out | apply below_alloc | apply pw_below_drewN | apply below_drew1) | exact HB.out)⟩
                      · rw [if_neg c69] at H
                        exact absurd H (by simp)
                    · rw [if_neg c68] at H
                      exact absurd H (by simp)
  · replace c4 := Bool.eq_false_iff.mpr c4
    subst c4
    have H1 : ((forebaylaw09_awake.f k).bind fun t325 => (some t325)) = some r := by rw [if_neg (show ¬ (false = true) by decide)] at H; exact H
    clear H
    have H := H1
    clear H1
    replace H := Option.bind_eq_some_iff.mp H
    obtain ⟨t325, A720, H⟩ := H
    replace H : (some t325) = some r := H
    have A72 := Aside0.mk A720
    clear A720
    obtain rfl := Option.some.inj H
    go_enter Try.func6, Try.ntmps6
    go_wp2_with (first | ((with_reducible refine gate_callee (f := 20) rfl ?_); refine goesL_ (some 16) rfl rfl Try.func20 (by kernel_rfl) rfl #[.slice A0 l0.length c0] rfl (by (try simp only [List.map_toArray, List.map_cons, List.map_nil]); first | done | rfl | (simp only [List.length_drop, List.length_take]; rfl)) ?_; (with_reducible refine (forebaylaw08_Few.calls k _ _ l0 false _ ?side1 ?side2 A3.out).mono ?_); (case side1 => repeat (first | exact HR0.out | (with_reducible refine Kd.C_alloc ?_ _) | (with_reducible refine Kd.C_drewN ?_ _) | (with_reducible refine Kd.C_drew ?_))); (case side2 => exact HC0.out); rintro e w73 ⟨rfl, hb⟩; refine ⟨_, rfl, ?_⟩; have n0_ := Aside0.mk (below_step (by repeat (first | (with_reducible first | exact HB.out | apply below_alloc | apply pw_below_drewN | apply below_drew1) | exact HB.out)) hb); clear HB; have HB := n0_; clear n0_; (try clear hb); (try clear hb2); (try clear hk); (try clear hi)) | ((with_reducible refine gate_callee (f := 13) rfl ?_); refine goesL_ (some 18) rfl rfl Try.func13 (by kernel_rfl) rfl #[] rfl (by (try simp only [List.map_toArray, List.map_cons, List.map_nil]); first | done | rfl | (simp only [List.length_drop, List.length_take]; rfl)) ?_; (with_reducible refine (forebaylaw09_awake.calls k  t325 _ A72.out).mono ?_); rintro e w74 ⟨rfl, hb⟩; refine ⟨_, rfl, ?_⟩; have n0_ := Aside0.mk (below_step (by repeat (first | (with_reducible first | exact HB.out | apply below_alloc | apply pw_below_drewN | apply below_drew1) | exact HB.out)) hb); clear HB; have HB := n0_; clear n0_; (try clear hb); (try clear hb2); (try clear hk); (try clear hi)))
    go_ret
    exact ⟨by first | rfl | (simp [errW_none, errW_some] <;> rfl) | (simp [*, errW_none, errW_some] <;> rfl), by repeat (first | (with_reducible first | exact HB.out | apply below_alloc | apply pw_below_drewN | apply below_drew1) | exact HB.out)⟩
end Go.Proofs.Ytbdennijmfgdpaa.PE
