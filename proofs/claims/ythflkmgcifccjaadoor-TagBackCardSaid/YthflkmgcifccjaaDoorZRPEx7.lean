-- Printed by the kit's print.py over contracts of this session's own.
import Derived.Test.YthflkmgcifccjaaDoorZRInjP
import Derived.Test.YthflkmgcifccjaaDoorZRInjT
import Derived.Test.YthflkmgcifccjaaDoorZRPEx0
import Derived.Test.YthflkmgcifccjaaDoorZRPEx1
import Derived.Test.YthflkmgcifccjaaDoorZRPEx3
import Derived.Test.YthflkmgcifccjaaDoorZRPEx4
namespace Go.Proofs.YthflkmgcifccjaaDoor.PE
open Go.RowKit Go.Proofs.YthflkmgcifccjaaDoorW.PrintWords Go.Proofs.YthflkmgcifccjaaDoorW.PrintLast Go.Proofs.YthflkmgcifccjaaDoorW.PrintMore
attribute [local go_sem] max2_int min2_int max_two min_two max_three min_three max_four min_four   -- for this text's walks alone
set_option linter.unusedVariables false
set_option linter.unusedSimpArgs false
attribute [local go_sem high] eqA26
/-! ### tag_Text: function 22 -/
def tag_Text.l0 : Nat → List ByteArray → List (S34) → Int → Int → Option (ByteArray × Int × Int)
 | 0, _, _, _, _ => none
 | k + 1, x5, x10, x11, x12 => if x12 < x11 then (if 0 ≤ x12 then (if x12 < (x10.length : Int) then ((tag_Check.f ((rd_T34 x10 x12).f0) ((rd_T34 x10 x12).f1)).bind fun t298 => (if t298 = 0 then (if ((rd_T34 x10 x12).f1).toList = ([] : List UInt8) then (if x5.length < 8796093022208 then (tag_Text.l0 k (x5 ++ [(rd_T34 x10 x12).f0]) x10 x11 (wrap64 (x12 + 1))) else (none)) else (if 1 + ((rd_T34 x10 x12).f1).size ≤ 9223372036854775807 then (if ((rd_T34 x10 x12).f0).size + ((⟨#[58]⟩ : ByteArray) ++ ((rd_T34 x10 x12).f1)).size ≤ 9223372036854775807 then (if x5.length < 8796093022208 then (tag_Text.l0 k (x5 ++ [((rd_T34 x10 x12).f0) ++ ((⟨#[58]⟩ : ByteArray) ++ ((rd_T34 x10 x12).f1))]) x10 x11 (wrap64 (x12 + 1))) else (none)) else (none)) else (none))) else (some ((⟨#[]⟩ : ByteArray), x12, t298)))) else (none)) else (none)) else ((strings_Join.f x5 (⟨#[44]⟩ : ByteArray)).bind fun t295 => (some (t295, 0, 0)))
def tag_Text.f (k : Nat) (l0 : List (S34)) : Option (ByteArray × Int × Int) := tag_Text.l0 k ([] : List ByteArray) l0 (l0.length : Int) 0
set_option maxHeartbeats 8000000 in
set_option maxRecDepth 100000 in
theorem tag_Text.calls (k : Nat) (A0 : Option Addr) (c0 : Nat) (l0 : List (S34)) (r1 : ByteArray) (r2 : Int) (r3 : Int) (w : World) (hr0 : Kd.C k34 w A0 l0.length l0) (hc0 : l0.length ≤ c0) (h : tag_Text.f k l0 = some (r1, r2, r3)) :
  Calls Tryd.prog 22 #[.slice A0 l0.length c0] w fun e w' => e = .returned (.tuple #[.string r1, .int .i64 r2, .int .i64 r3]) ∧ Below w.heap.size w w' := by
 have hu34 := Tryd.underlying34
 have HR0 := Aside0.mk hr0
 have HC0 := Aside0.mk hc0
 clear hr0 hc0
 have HB := Aside0.mk (Below.refl w.heap.size w)
 have H : (tag_Text.l0 k ([] : List ByteArray) l0 (l0.length : Int) 0) = some (r1, r2, r3) := h
 clear h
 have H' := Aside0.mk H
 clear H
 go_enter Tryd.func22, Tryd.ntmps22
 go_wp2
 go_loopg [5, 12] k (fun kq v5 v12 w' => ∃ (x5_1 : List ByteArray) (x12_1 : Int), v12 = .int .i64 x12_1 ∧ Aside0 (tag_Text.l0 kq x5_1 l0 (l0.length : Int) x12_1 = some (r1, r2, r3)) ∧ Aside0 (kq ≤ k) ∧ Aside0 (Kd.R Kd.string 9 w' w.heap.size (fun _ => True) v5 x5_1) ∧ Aside0 (Below w.heap.size w w'))
 case atStart => exact ⟨(([] : List ByteArray)), (0), (by first | rfl | (simp; done) | (simp [*]; done)), H', ⟨Nat.le_refl _⟩, ⟨by first | exact Kd.R_nil _ _ _ _ _ | exact Kd.N_nil _ _ _ _ _ | exact Kd.V_nil _ _ _ _ _ | exact Kd.Q_nil _ _ _ _ _ | exact Kd.S_nil _ _ _ _ _⟩, ⟨by repeat (first | (with_reducible first | exact HB.out | apply below_alloc | apply pw_below_drewN | apply below_drew1) | exact HB.out)⟩⟩
 case round =>
  clear H'
  obtain ⟨x5_1, x12_1, rfl, HA, HK1, HO_5, HB⟩ := hrel
  cases gk with
  | zero => exact absurd HA.out (by simp [tag_Text.l0])
  | succ k1 =>
   have H := HA.out
   clear HA
   simp only [tag_Text.l0] at H
   by_cases c2 : x12_1 < (l0.length : Int)
   ·rw [if_pos c2] at H
    have c2b0 : decide (x12_1 < (l0.length : Int)) = true := decide_eq_true c2
    clear c2
    by_cases c3 : 0 ≤ x12_1
    ·rw [if_pos c3] at H
     have c3b0 : decide (0 ≤ x12_1) = true := decide_eq_true c3
     clear c3
     by_cases c4 : x12_1 < (l0.length : Int)
     ·rw [if_pos c4] at H
      have c4b0 : decide (x12_1 < (l0.length : Int)) = true := decide_eq_true c4
      clear c4
      replace H := Option.bind_eq_some_iff.mp H
      obtain ⟨t298, A50, H⟩ := H
      replace H : (if t298 = 0 then (if ((rd_T34 l0 x12_1).f1).toList = ([] : List UInt8) then (if x5_1.length < 8796093022208 then (tag_Text.l0 k1 (x5_1 ++ [(rd_T34 l0 x12_1).f0]) l0 (l0.length : Int) (wrap64 (x12_1 + 1))) else (none)) else (if 1 + ((rd_T34 l0 x12_1).f1).size ≤ 9223372036854775807 then (if ((rd_T34 l0 x12_1).f0).size + ((⟨#[58]⟩ : ByteArray) ++ ((rd_T34 l0 x12_1).f1)).size ≤ 9223372036854775807 then (if x5_1.length < 8796093022208 then (tag_Text.l0 k1 (x5_1 ++ [((rd_T34 l0 x12_1).f0) ++ ((⟨#[58]⟩ : ByteArray) ++ ((rd_T34 l0 x12_1).f1))]) l0 (l0.length : Int) (wrap64 (x12_1 + 1))) else (none)) else (none)) else (none))) else (some ((⟨#[]⟩ : ByteArray), x12_1, t298))) = some (r1, r2, r3) := H
      have A5 := Aside0.mk A50
      clear A50
      by_cases c6 : t298 = 0
      ·rw [if_pos c6] at H
       have c6b0 : (t298 == 0) = true := beq_iff_eq.mpr c6
       have c6b1 : (t298 != 0) = false := bne_eq_false_iff_eq.mpr c6
       clear c6
       by_cases c7 : ((rd_T34 l0 x12_1).f1).toList = ([] : List UInt8)
       ·rw [if_pos c7] at H
        have c7b0 : (((rd_T34 l0 x12_1).f1).toList == ([] : List UInt8)) = true := beq_iff_eq.mpr c7
        have c7b1 : (((rd_T34 l0 x12_1).f1).toList != ([] : List UInt8)) = false := bne_eq_false_iff_eq.mpr c7
        clear c7
        by_cases c8 : x5_1.length < 8796093022208
        ·rw [if_pos c8] at H
         have LMc8 := Aside0.mk c8
         clear c8
         obtain ⟨y299, hy299⟩ : ∃ y_ : List ByteArray, y_ = (x5_1 ++ [(rd_T34 l0 x12_1).f0]) := ⟨_, rfl⟩
         replace H : (tag_Text.l0 k1 y299 l0 (l0.length : Int) (wrap64 (x12_1 + 1))) = some (r1, r2, r3) := by first | (rw [hy299]; with_reducible exact H) | (have H2_ := (Option.bind_some _ _).symm.trans H; rw [hy299]; with_reducible exact H2_) | (have H2_ := (Option.bind_some _ _).symm.trans H; with_reducible exact H2_) | with_reducible exact H | (rw [hy299]; exact H) | exact H
         have Ny299 := Aside0.mk hy299
         clear hy299
         have H' := Aside0.mk H
         clear H
         have p296 : 0 ≤ (x12_1 : Int) := of_decide_eq_true (by first | (with_reducible assumption) | assumption)
         have q296 : x12_1 < (l0.length : Int) := of_decide_eq_true (by first | (with_reducible assumption) | assumption)
         obtain ⟨ad296, e296, hx296_0, hx296_1⟩ := at_T34 HR0.out x12_1 p296 q296
         cases e296
         replace hx296_0 := (HB.out.cell (World.block_lt_of_cell? w _ hx296_0)).trans hx296_0
         replace hx296_1 := (HB.out.cell (World.block_lt_of_cell? w _ hx296_1)).trans hx296_1
         replace p296 := eq_true p296
         replace q296 := eq_true q296
         go_wp2_with (first | ((with_reducible refine gate_dst (N := 7) rfl ?_); refine box_event ?hg (N := 7) ?hd (cs := #[.string (⟨#[]⟩ : ByteArray), .string (⟨#[]⟩ : ByteArray)]) (t := 34) ?hr ?_; (case hd => rfl); (case hg => rfl); (case hr => first | (go_simp; done) | (go_simp; rfl)); intro gb297 hg w9 hbox hb; have n0_ := Aside0.mk (Kd.R_below (by (with_reducible repeat (first | apply Kd.R_alloc | apply Kd.R_drewN | apply Kd.R_drew)); exact HO_5.out) hb); have n1_ := Aside0.mk (below_step (by repeat (first | (with_reducible first | exact HB.out | apply below_alloc | apply pw_below_drewN | apply below_drew1) | exact HB.out)) hb); have n2_ := Aside0.mk (hbox); have n3_ := Aside0.mk ((by rw [hg]; exact (below_size (by repeat (first | (with_reducible first | exact HB.out | apply below_alloc | apply pw_below_drewN | apply below_drew1) | exact HB.out))) : w.heap.size ≤ gb297)); have n4_ := Aside0.mk ((by rw [hg]; exact (below_size (by repeat (first | (with_reducible first | exact HB.out | apply below_alloc | apply pw_below_drewN | apply below_drew1) | exact HB.out))) : w.heap.size ≤ gb297)); clear HO_5; clear HB; have HO_5 := n0_; have HB := n1_; have BK297 := n2_; have GW297 := n3_; have GE297 := n4_; clear n0_ n1_ n2_ n3_ n4_; clear hb hbox hg; have hcz10_0 : w9.cell? ⟨gb297, 0, none⟩ = some (.string (⟨#[]⟩ : ByteArray)) := (blk_cell BK297.out 0).trans rfl; have hcz10_1 : w9.cell? ⟨gb297, 1, none⟩ = some (.string (⟨#[]⟩ : ByteArray)) := (blk_cell BK297.out 1).trans rfl; have hfz10_0 := blk_frozen BK297.out 0; have hfz10_1 := blk_frozen BK297.out 1) | ((with_reducible refine gate_callee (f := 16) rfl ?_); refine goesL_ (some 18) rfl rfl Tryd.func16 (by kernel_rfl) rfl #[.agg #[.string ((rd_T34 l0 x12_1).f0), .string ((rd_T34 l0 x12_1).f1)]] rfl (by (try simp only [List.map_toArray, List.map_cons, List.map_nil]); first | done | rfl | (simp only [List.length_drop, List.length_take]; rfl)) ?_; (with_reducible refine (tag_Check.calls ((rd_T34 l0 x12_1).f0) ((rd_T34 l0 x12_1).f1) t298 _ A5.out).mono ?_); rintro e w11 ⟨rfl, hb⟩; refine ⟨_, rfl, ?_⟩; have n0_ := Aside0.mk (Kd.R_below (by (with_reducible repeat (first | apply Kd.R_alloc | apply Kd.R_drewN | apply Kd.R_drew)); exact (Kd.R_mono (Kd.R_far (p := ⟨gb297, 1, none⟩) (Kd.R_far (p := ⟨gb297, 0, none⟩) (Kd.R_types HO_5.out BK297.out (by decide)) (fun _ hk => hk.2) (.string ((rd_T34 l0 x12_1).f0))) (fun _ hk => hk.2) (.string ((rd_T34 l0 x12_1).f1))) (fun _ h_ => h_.1))) hb); have n1_ := Aside0.mk (blk_below (g := gb297) (o := .cells #[.string ((rd_T34 l0 x12_1).f0), .string ((rd_T34 l0 x12_1).f1)] 34 (0, 0)) (by (with_reducible repeat (first | refine blk_drewN ?_ _ | refine blk_drew ?_ | refine blk_alloc ?_ _)); refine blk_put (cs := #[.string ((rd_T34 l0 x12_1).f0), .string (⟨#[]⟩ : ByteArray)]) ?_ 1 _ rfl; (with_reducible repeat (first | refine blk_drewN ?_ _ | refine blk_drew ?_ | refine blk_alloc ?_ _)); refine blk_put (cs := #[.string (⟨#[]⟩ : ByteArray), .string (⟨#[]⟩ : ByteArray)]) ?_ 0 _ rfl; (with_reducible repeat (first | refine blk_drewN ?_ _ | refine blk_drew ?_ | refine blk_alloc ?_ _)); exact BK297.out) hb); have n2_ := Aside0.mk (below_step (by repeat (first | (with_reducible first | exact HB.out | apply below_alloc | apply pw_below_drewN | apply below_drew1 | refine below_set ?_ GE297.out) | exact HB.out)) hb); clear HO_5; clear BK297; clear HB; have HO_5 := n0_; have BK297 := n1_; have HB := n2_; clear n0_ n1_ n2_; (try clear hb); (try clear hb2); (try clear hk); (try clear hi); have hcz12_0 : w11.cell? ⟨gb297, 0, none⟩ = some (.string ((rd_T34 l0 x12_1).f0)) := (blk_cell BK297.out 0).trans rfl; have hcz12_1 : w11.cell? ⟨gb297, 1, none⟩ = some (.string ((rd_T34 l0 x12_1).f1)) := (blk_cell BK297.out 1).trans rfl; have hfz12_0 := blk_frozen BK297.out 0; have hfz12_1 := blk_frozen BK297.out 1) | ((with_reducible refine gate_builtin (b := .append) (xs := #[.tmp 33, .tmp 35]) rfl ?_); at_builtin; refine Kd.R_append Kd.string (w0 := w) w.heap.size rfl (.tmp 33) (.tmp 35) 47 9 (.string ⟨#[]⟩) 16 rfl Tryd.underlying47 info9 rfl (by decide) (by omega) u5 x5_1 ((rd_T34 l0 x12_1).f0) [.string ((rd_T34 l0 x12_1).f0)] (fun _ => True) (fun _ => False) rfl rfl ?aP (fun _ hk => hk.elim) ?aF ?aO ?aB ?aS ?aL ?_; (case aP => exact rfl); (case aB => exact (by repeat (first | (with_reducible first | exact HB.out | apply below_alloc | apply pw_below_drewN | apply below_drew1 | refine below_set ?_ GE297.out) | exact HB.out))); (case aF => exact (fun _ _ => trivial)); (case aO => exact (by (with_reducible repeat (first | apply Kd.R_alloc | apply Kd.R_drewN | apply Kd.R_drew)); exact HO_5.out)); (case aS => exact (below_size (by repeat (first | (with_reducible first | exact HB.out | apply below_alloc | apply pw_below_drewN | apply below_drew1 | refine below_set ?_ GE297.out) | exact HB.out)))); (case aL => have := LMc8.out; omega); intro v300 w13 ho hb hg hat; rw [← Ny299.out] at ho; have n0_ := Aside0.mk (blk_grown (g := gb297) (o := .cells #[.string ((rd_T34 l0 x12_1).f0), .string ((rd_T34 l0 x12_1).f1)] 34 (0, 0)) (by (with_reducible repeat (first | refine blk_drewN ?_ _ | refine blk_drew ?_ | refine blk_alloc ?_ _)); exact BK297.out) hg (Kd.R_ne HO_5.out BK297.out (by decide))); have n1_ := Aside0.mk (hb); have n2_ := Aside0.mk (ho); clear BK297; clear HB; clear HO_5; have BK297 := n0_; have HB := n1_; have HO301 := n2_; clear n0_ n1_ n2_; clear ho hb hg hat))
         go_roundg k1
         case measure => have := HK1.out; omega
         case rel => exact ⟨(y299), (wrap64 (x12_1 + 1)), (by first | rfl | (simp; done) | (simp [*]; done)), H', ⟨by have := HK1.out; omega⟩, ⟨by (with_reducible repeat (first | apply Kd.R_alloc | apply Kd.R_drewN | apply Kd.R_drew)); exact HO301.out⟩, ⟨by repeat (first | (with_reducible first | exact HB.out | apply below_alloc | apply pw_below_drewN | apply below_drew1 | refine below_set ?_ GE297.out) | exact HB.out)⟩⟩
        ·rw [if_neg c8] at H
         exact absurd H (by simp)
       ·rw [if_neg c7] at H
        have c7b0 : (((rd_T34 l0 x12_1).f1).toList == ([] : List UInt8)) = false := beq_eq_false_iff_ne.mpr c7
        have c7b1 : (((rd_T34 l0 x12_1).f1).toList != ([] : List UInt8)) = true := bne_iff_ne.mpr c7
        by_cases c14 : 1 + ((rd_T34 l0 x12_1).f1).size ≤ 9223372036854775807
        ·rw [if_pos c14] at H
         have c14b0 := eq_true c14
         have c14b1 : decide (1 + ((rd_T34 l0 x12_1).f1).size ≤ 9223372036854775807) = true := decide_eq_true c14
         try have c14b2 : (9223372036854775807 < 1 + ((rd_T34 l0 x12_1).f1).size) = False := eq_false (Nat.not_lt.2 c14)
         by_cases c15 : ((rd_T34 l0 x12_1).f0).size + ((⟨#[58]⟩ : ByteArray) ++ ((rd_T34 l0 x12_1).f1)).size ≤ 9223372036854775807
         ·rw [if_pos c15] at H
          have c15b0 := eq_true c15
          have c15b1 : decide (((rd_T34 l0 x12_1).f0).size + ((⟨#[58]⟩ : ByteArray) ++ ((rd_T34 l0 x12_1).f1)).size ≤ 9223372036854775807) = true := decide_eq_true c15
          try have c15b2 : (9223372036854775807 < ((rd_T34 l0 x12_1).f0).size + ((⟨#[58]⟩ : ByteArray) ++ ((rd_T34 l0 x12_1).f1)).size) = False := eq_false (Nat.not_lt.2 c15)
          by_cases c16 : x5_1.length < 8796093022208
          ·rw [if_pos c16] at H
           have LMc16 := Aside0.mk c16
           clear c16
           obtain ⟨y302, hy302⟩ : ∃ y_ : List ByteArray, y_ = (x5_1 ++ [((rd_T34 l0 x12_1).f0) ++ ((⟨#[58]⟩ : ByteArray) ++ ((rd_T34 l0 x12_1).f1))]) := ⟨_, rfl⟩
           replace H : (tag_Text.l0 k1 y302 l0 (l0.length : Int) (wrap64 (x12_1 + 1))) = some (r1, r2, r3) := by first | (rw [hy302]; with_reducible exact H) | (have H2_ := (Option.bind_some _ _).symm.trans H; rw [hy302]; with_reducible exact H2_) | (have H2_ := (Option.bind_some _ _).symm.trans H; with_reducible exact H2_) | with_reducible exact H | (rw [hy302]; exact H) | exact H
           have Ny302 := Aside0.mk hy302
           clear hy302
           have H' := Aside0.mk H
           clear H
           have p296 : 0 ≤ (x12_1 : Int) := of_decide_eq_true (by first | (with_reducible assumption) | assumption)
           have q296 : x12_1 < (l0.length : Int) := of_decide_eq_true (by first | (with_reducible assumption) | assumption)
           obtain ⟨ad296, e296, hx296_0, hx296_1⟩ := at_T34 HR0.out x12_1 p296 q296
           cases e296
           replace hx296_0 := (HB.out.cell (World.block_lt_of_cell? w _ hx296_0)).trans hx296_0
           replace hx296_1 := (HB.out.cell (World.block_lt_of_cell? w _ hx296_1)).trans hx296_1
           replace p296 := eq_true p296
           replace q296 := eq_true q296
           go_wp2_with (first | ((with_reducible refine gate_dst (N := 7) rfl ?_); refine box_event ?hg (N := 7) ?hd (cs := #[.string (⟨#[]⟩ : ByteArray), .string (⟨#[]⟩ : ByteArray)]) (t := 34) ?hr ?_; (case hd => rfl); (case hg => rfl); (case hr => first | (go_simp; done) | (go_simp; rfl)); intro gb297 hg w17 hbox hb; have n0_ := Aside0.mk (Kd.R_below (by (with_reducible repeat (first | apply Kd.R_alloc | apply Kd.R_drewN | apply Kd.R_drew)); exact HO_5.out) hb); have n1_ := Aside0.mk (below_step (by repeat (first | (with_reducible first | exact HB.out | apply below_alloc | apply pw_below_drewN | apply below_drew1) | exact HB.out)) hb); have n2_ := Aside0.mk (hbox); have n3_ := Aside0.mk ((by rw [hg]; exact (below_size (by repeat (first | (with_reducible first | exact HB.out | apply below_alloc | apply pw_below_drewN | apply below_drew1) | exact HB.out))) : w.heap.size ≤ gb297)); have n4_ := Aside0.mk ((by rw [hg]; exact (below_size (by repeat (first | (with_reducible first | exact HB.out | apply below_alloc | apply pw_below_drewN | apply below_drew1) | exact HB.out))) : w.heap.size ≤ gb297)); clear HO_5; clear HB; have HO_5 := n0_; have HB := n1_; have BK297 := n2_; have GW297 := n3_; have GE297 := n4_; clear n0_ n1_ n2_ n3_ n4_; clear hb hbox hg; have hcz18_0 : w17.cell? ⟨gb297, 0, none⟩ = some (.string (⟨#[]⟩ : ByteArray)) := (blk_cell BK297.out 0).trans rfl; have hcz18_1 : w17.cell? ⟨gb297, 1, none⟩ = some (.string (⟨#[]⟩ : ByteArray)) := (blk_cell BK297.out 1).trans rfl; have hfz18_0 := blk_frozen BK297.out 0; have hfz18_1 := blk_frozen BK297.out 1) | ((with_reducible refine gate_callee (f := 16) rfl ?_); refine goesL_ (some 18) rfl rfl Tryd.func16 (by kernel_rfl) rfl #[.agg #[.string ((rd_T34 l0 x12_1).f0), .string ((rd_T34 l0 x12_1).f1)]] rfl (by (try simp only [List.map_toArray, List.map_cons, List.map_nil]); first | done | rfl | (simp only [List.length_drop, List.length_take]; rfl)) ?_; (with_reducible refine (tag_Check.calls ((rd_T34 l0 x12_1).f0) ((rd_T34 l0 x12_1).f1) t298 _ A5.out).mono ?_); rintro e w19 ⟨rfl, hb⟩; refine ⟨_, rfl, ?_⟩; have n0_ := Aside0.mk (Kd.R_below (by (with_reducible repeat (first | apply Kd.R_alloc | apply Kd.R_drewN | apply Kd.R_drew)); exact (Kd.R_mono (Kd.R_far (p := ⟨gb297, 1, none⟩) (Kd.R_far (p := ⟨gb297, 0, none⟩) (Kd.R_types HO_5.out BK297.out (by decide)) (fun _ hk => hk.2) (.string ((rd_T34 l0 x12_1).f0))) (fun _ hk => hk.2) (.string ((rd_T34 l0 x12_1).f1))) (fun _ h_ => h_.1))) hb); have n1_ := Aside0.mk (blk_below (g := gb297) (o := .cells #[.string ((rd_T34 l0 x12_1).f0), .string ((rd_T34 l0 x12_1).f1)] 34 (0, 0)) (by (with_reducible repeat (first | refine blk_drewN ?_ _ | refine blk_drew ?_ | refine blk_alloc ?_ _)); refine blk_put (cs := #[.string ((rd_T34 l0 x12_1).f0), .string (⟨#[]⟩ : ByteArray)]) ?_ 1 _ rfl; (with_reducible repeat (first | refine blk_drewN ?_ _ | refine blk_drew ?_ | refine blk_alloc ?_ _)); refine blk_put (cs := #[.string (⟨#[]⟩ : ByteArray), .string (⟨#[]⟩ : ByteArray)]) ?_ 0 _ rfl; (with_reducible repeat (first | refine blk_drewN ?_ _ | refine blk_drew ?_ | refine blk_alloc ?_ _)); exact BK297.out) hb); have n2_ := Aside0.mk (below_step (by repeat (first | (with_reducible first | exact HB.out | apply below_alloc | apply pw_below_drewN | apply below_drew1 | refine below_set ?_ GE297.out) | exact HB.out)) hb); clear HO_5; clear BK297; clear HB; have HO_5 := n0_; have BK297 := n1_; have HB := n2_; clear n0_ n1_ n2_; (try clear hb); (try clear hb2); (try clear hk); (try clear hi); have hcz20_0 : w19.cell? ⟨gb297, 0, none⟩ = some (.string ((rd_T34 l0 x12_1).f0)) := (blk_cell BK297.out 0).trans rfl; have hcz20_1 : w19.cell? ⟨gb297, 1, none⟩ = some (.string ((rd_T34 l0 x12_1).f1)) := (blk_cell BK297.out 1).trans rfl; have hfz20_0 := blk_frozen BK297.out 0; have hfz20_1 := blk_frozen BK297.out 1) | ((with_reducible refine gate_builtin (b := .append) (xs := #[.tmp 33, .tmp 35]) rfl ?_); at_builtin; refine Kd.R_append Kd.string (w0 := w) w.heap.size rfl (.tmp 33) (.tmp 35) 47 9 (.string ⟨#[]⟩) 16 rfl Tryd.underlying47 info9 rfl (by decide) (by omega) u5 x5_1 (((rd_T34 l0 x12_1).f0) ++ ((⟨#[58]⟩ : ByteArray) ++ ((rd_T34 l0 x12_1).f1))) [.string (((rd_T34 l0 x12_1).f0) ++ ((⟨#[58]⟩ : ByteArray) ++ ((rd_T34 l0 x12_1).f1)))] (fun _ => True) (fun _ => False) rfl rfl ?aP (fun _ hk => hk.elim) ?aF ?aO ?aB ?aS ?aL ?_; (case aP => exact rfl); (case aB => exact (by repeat (first | (with_reducible first | exact HB.out | apply below_alloc | apply pw_below_drewN | apply below_drew1 | refine below_set ?_ GE297.out) | exact HB.out))); (case aF => exact (fun _ _ => trivial)); (case aO => exact (by (with_reducible repeat (first | apply Kd.R_alloc | apply Kd.R_drewN | apply Kd.R_drew)); exact HO_5.out)); (case aS => exact (below_size (by repeat (first | (with_reducible first | exact HB.out | apply below_alloc | apply pw_below_drewN | apply below_drew1 | refine below_set ?_ GE297.out) | exact HB.out)))); (case aL => have := LMc16.out; omega); intro v303 w21 ho hb hg hat; rw [← Ny302.out] at ho; have n0_ := Aside0.mk (blk_grown (g := gb297) (o := .cells #[.string ((rd_T34 l0 x12_1).f0), .string ((rd_T34 l0 x12_1).f1)] 34 (0, 0)) (by (with_reducible repeat (first | refine blk_drewN ?_ _ | refine blk_drew ?_ | refine blk_alloc ?_ _)); exact BK297.out) hg (Kd.R_ne HO_5.out BK297.out (by decide))); have n1_ := Aside0.mk (hb); have n2_ := Aside0.mk (ho); clear BK297; clear HB; clear HO_5; have BK297 := n0_; have HB := n1_; have HO304 := n2_; clear n0_ n1_ n2_; clear ho hb hg hat))
           go_roundg k1
           case measure => have := HK1.out; omega
           case rel => exact ⟨(y302), (wrap64 (x12_1 + 1)), (by first | rfl | (simp; done) | (simp [*]; done)), H', ⟨by have := HK1.out; omega⟩, ⟨by (with_reducible repeat (first | apply Kd.R_alloc | apply Kd.R_drewN | apply Kd.R_drew)); exact HO304.out⟩, ⟨by repeat (first | (with_reducible first | exact HB.out | apply below_alloc | apply pw_below_drewN | apply below_drew1 | refine below_set ?_ GE297.out) | exact HB.out)⟩⟩
          ·rw [if_neg c16] at H
           exact absurd H (by simp)
         ·rw [if_neg c15] at H
          exact absurd H (by simp)
        ·rw [if_neg c14] at H
         exact absurd H (by simp)
      ·rw [if_neg c6] at H
       have c6b0 : (t298 == 0) = false := beq_eq_false_iff_ne.mpr c6
       have c6b1 : (t298 != 0) = true := bne_iff_ne.mpr c6
       simp only [Option.some.injEq, Prod.mk.injEq] at H
       obtain ⟨rfl, rfl, rfl⟩ := H
       have p296 : 0 ≤ (x12_1 : Int) := of_decide_eq_true (by first | (with_reducible assumption) | assumption)
       have q296 : x12_1 < (l0.length : Int) := of_decide_eq_true (by first | (with_reducible assumption) | assumption)
       obtain ⟨ad296, e296, hx296_0, hx296_1⟩ := at_T34 HR0.out x12_1 p296 q296
       cases e296
       replace hx296_0 := (HB.out.cell (World.block_lt_of_cell? w _ hx296_0)).trans hx296_0
       replace hx296_1 := (HB.out.cell (World.block_lt_of_cell? w _ hx296_1)).trans hx296_1
       replace p296 := eq_true p296
       replace q296 := eq_true q296
       go_wp2_with (first | ((with_reducible refine gate_dst (N := 7) rfl ?_); refine box_event ?hg (N := 7) ?hd (cs := #[.string (⟨#[]⟩ : ByteArray), .string (⟨#[]⟩ : ByteArray)]) (t := 34) ?hr ?_; (case hd => rfl); (case hg => rfl); (case hr => first | (go_simp; done) | (go_simp; rfl)); intro gb297 hg w22 hbox hb; have n0_ := Aside0.mk (Kd.R_below (by (with_reducible repeat (first | apply Kd.R_alloc | apply Kd.R_drewN | apply Kd.R_drew)); exact HO_5.out) hb); have n1_ := Aside0.mk (below_step (by repeat (first | (with_reducible first | exact HB.out | apply below_alloc | apply pw_below_drewN | apply below_drew1) | exact HB.out)) hb); have n2_ := Aside0.mk (hbox); have n3_ := Aside0.mk ((by rw [hg]; exact (below_size (by repeat (first | (with_reducible first | exact HB.out | apply below_alloc | apply pw_below_drewN | apply below_drew1) | exact HB.out))) : w.heap.size ≤ gb297)); have n4_ := Aside0.mk ((by rw [hg]; exact (below_size (by repeat (first | (with_reducible first | exact HB.out | apply below_alloc | apply pw_below_drewN | apply below_drew1) | exact HB.out))) : w.heap.size ≤ gb297)); clear HO_5; clear HB; have HO_5 := n0_; have HB := n1_; have BK297 := n2_; have GW297 := n3_; have GE297 := n4_; clear n0_ n1_ n2_ n3_ n4_; clear hb hbox hg; have hcz23_0 : w22.cell? ⟨gb297, 0, none⟩ = some (.string (⟨#[]⟩ : ByteArray)) := (blk_cell BK297.out 0).trans rfl; have hcz23_1 : w22.cell? ⟨gb297, 1, none⟩ = some (.string (⟨#[]⟩ : ByteArray)) := (blk_cell BK297.out 1).trans rfl; have hfz23_0 := blk_frozen BK297.out 0; have hfz23_1 := blk_frozen BK297.out 1) | ((with_reducible refine gate_callee (f := 16) rfl ?_); refine goesL_ (some 18) rfl rfl Tryd.func16 (by kernel_rfl) rfl #[.agg #[.string ((rd_T34 l0 x12_1).f0), .string ((rd_T34 l0 x12_1).f1)]] rfl (by (try simp only [List.map_toArray, List.map_cons, List.map_nil]); first | done | rfl | (simp only [List.length_drop, List.length_take]; rfl)) ?_; (with_reducible refine (tag_Check.calls ((rd_T34 l0 x12_1).f0) ((rd_T34 l0 x12_1).f1) t298 _ A5.out).mono ?_); rintro e w24 ⟨rfl, hb⟩; refine ⟨_, rfl, ?_⟩; have n0_ := Aside0.mk (Kd.R_below (by (with_reducible repeat (first | apply Kd.R_alloc | apply Kd.R_drewN | apply Kd.R_drew)); exact (Kd.R_mono (Kd.R_far (p := ⟨gb297, 1, none⟩) (Kd.R_far (p := ⟨gb297, 0, none⟩) (Kd.R_types HO_5.out BK297.out (by decide)) (fun _ hk => hk.2) (.string ((rd_T34 l0 x12_1).f0))) (fun _ hk => hk.2) (.string ((rd_T34 l0 x12_1).f1))) (fun _ h_ => h_.1))) hb); have n1_ := Aside0.mk (blk_below (g := gb297) (o := .cells #[.string ((rd_T34 l0 x12_1).f0), .string ((rd_T34 l0 x12_1).f1)] 34 (0, 0)) (by (with_reducible repeat (first | refine blk_drewN ?_ _ | refine blk_drew ?_ | refine blk_alloc ?_ _)); refine blk_put (cs := #[.string ((rd_T34 l0 x12_1).f0), .string (⟨#[]⟩ : ByteArray)]) ?_ 1 _ rfl; (with_reducible repeat (first | refine blk_drewN ?_ _ | refine blk_drew ?_ | refine blk_alloc ?_ _)); refine blk_put (cs := #[.string (⟨#[]⟩ : ByteArray), .string (⟨#[]⟩ : ByteArray)]) ?_ 0 _ rfl; (with_reducible repeat (first | refine blk_drewN ?_ _ | refine blk_drew ?_ | refine blk_alloc ?_ _)); exact BK297.out) hb); have n2_ := Aside0.mk (below_step (by repeat (first | (with_reducible first | exact HB.out | apply below_alloc | apply pw_below_drewN | apply below_drew1 | refine below_set ?_ GE297.out) | exact HB.out)) hb); clear HO_5; clear BK297; clear HB; have HO_5 := n0_; have BK297 := n1_; have HB := n2_; clear n0_ n1_ n2_; (try clear hb); (try clear hb2); (try clear hk); (try clear hi)))
       go_ret3
       exact ⟨by first | rfl | (simp [errW_none, errW_some] <;> rfl) | (simp [*, errW_none, errW_some] <;> rfl), by repeat (first | (with_reducible first | exact HB.out | apply below_alloc | apply pw_below_drewN | apply below_drew1 | refine below_set ?_ GE297.out) | exact HB.out)⟩
     ·rw [if_neg c4] at H
      exact absurd H (by simp)
    ·rw [if_neg c3] at H
     exact absurd H (by simp)
   ·rw [if_neg c2] at H
    have c2b0 : decide (x12_1 < (l0.length : Int)) = false := decide_eq_false c2
    clear c2
    replace H := Option.bind_eq_some_iff.mp H
    obtain ⟨t295, A250, H⟩ := H
    replace H : (some (t295, 0, 0)) = some (r1, r2, r3) := H
    have A25 := Aside0.mk A250
    clear A250
    simp only [Option.some.injEq, Prod.mk.injEq] at H
    obtain ⟨rfl, rfl, rfl⟩ := H
    obtain ⟨Ao26, co26, eo26⟩ := Kd.R_slice HO_5.out
    subst eo26
    go_wp2_with (first | ((with_reducible refine gate_callee (f := 35) rfl ?_); refine goesL_ (some 39) rfl rfl Tryd.func35 (by kernel_rfl) rfl #[.slice Ao26 x5_1.length co26, .string (⟨#[44]⟩ : ByteArray)] rfl (by (try simp only [List.map_toArray, List.map_cons, List.map_nil]); first | done | rfl | (simp only [List.length_drop, List.length_take]; rfl)) ?_; (with_reducible refine (strings_Join.calls _ _ x5_1 (⟨#[44]⟩ : ByteArray) t295 _ ?side1 ?side2 A25.out).mono ?_); (case side1 => repeat (first | exact (Kd.R_reads' HO_5.out).2.2 | (with_reducible refine Kd.C_alloc ?_ _) | (with_reducible refine Kd.C_drewN ?_ _) | (with_reducible refine Kd.C_drew ?_))); (case side2 => exact (Kd.R_reads' HO_5.out).2.1); rintro e w27 ⟨rfl, hb⟩; refine ⟨_, rfl, ?_⟩; have n0_ := Aside0.mk (Kd.R_below (by (with_reducible repeat (first | apply Kd.R_alloc | apply Kd.R_drewN | apply Kd.R_drew)); exact HO_5.out) hb); have n1_ := Aside0.mk (below_step (by repeat (first | (with_reducible first | exact HB.out | apply below_alloc | apply pw_below_drewN | apply below_drew1) | exact HB.out)) hb); clear HO_5; clear HB; have HO_5 := n0_; have HB := n1_; clear n0_ n1_; (try clear hb); (try clear hb2); (try clear hk); (try clear hi)))
    go_ret3
    exact ⟨by first | rfl | (simp [errW_none, errW_some] <;> rfl) | (simp [*, errW_none, errW_some] <;> rfl), by repeat (first | (with_reducible first | exact HB.out | apply below_alloc | apply pw_below_drewN | apply below_drew1) | exact HB.out)⟩
/-! ### forebaylaw06_TagBack: function 9 -/
mutual
def forebaylaw06_TagBack.j0 : Nat → List (S34) → ByteArray → Bool → Option (Bool)
 | 0, _, _, _ => none
 | k + 1, x0, x1, x24 => if x24 = true then ((forebaylaw06_awake.f k).bind fun t306 => (some t306)) else (forebaylaw06_TagBack.l0 k x0 x1 (-1) 0)
def forebaylaw06_TagBack.l0 : Nat → List (S34) → ByteArray → Int → Int → Option (Bool)
 | 0, _, _, _, _ => none
 | k + 1, x0, x1, x5, x6 => if x6 < (x0.length : Int) then (forebaylaw06_TagBack.j2 k x0 x1 x5 x6 (decide (x5 < 0))) else (forebaylaw06_TagBack.j2 k x0 x1 x5 x6 false)
def forebaylaw06_TagBack.j2 : Nat → List (S34) → ByteArray → Int → Int → Bool → Option (Bool)
 | 0, _, _, _, _, _ => none
 | k + 1, x0, x1, x5, x6, x33 => if x33 = true then (if 0 ≤ x6 then (if x6 < (x0.length : Int) then ((tag_Check.f ((rd_T34 x0 x6).f0) ((rd_T34 x0 x6).f1)).bind fun t308 => (if t308 = 0 then (forebaylaw06_TagBack.l0 k x0 x1 x5 (wrap64 (x6 + 1))) else (forebaylaw06_TagBack.l0 k x0 x1 x6 (wrap64 (x6 + 1))))) else (none)) else (none)) else ((tag_Text.f k x0).bind fun bt309 => (if x5 ≥ 0 then (if bt309.1.toList = ([] : List UInt8) then (if bt309.2.1 = x5 then (if bt309.2.2 = 19 then (forebaylaw06_TagBack.j3 k x1) else (none)) else (none)) else (none)) else ((tag_Parse.f k bt309.1).bind fun bt312 => (if bt309.2.1 = 0 then (if bt309.2.2 = 0 then (if (x0.length : Int) = 0 then (if bt309.1.toList = ([] : List UInt8) then (if (x0.length : Int) > 0 then (if (!(bt312.2.1 == 0) || (!(bt312.2.2 == 0))) = true then (none) else ((forebaylaw06_same.f k bt312.1 x0).bind fun t318 => (if t318 = true then (forebaylaw06_TagBack.j3 k x1) else (none)))) else (forebaylaw06_TagBack.j3 k x1)) else (none)) else (if (x0.length : Int) > 0 then (if (!(bt312.2.1 == 0) || (!(bt312.2.2 == 0))) = true then (none) else ((forebaylaw06_same.f k bt312.1 x0).bind fun t319 => (if t319 = true then (forebaylaw06_TagBack.j3 k x1) else (none)))) else (forebaylaw06_TagBack.j3 k x1))) else (none)) else (none)))))
def forebaylaw06_TagBack.j3 : Nat → ByteArray → Option (Bool)
 | 0, _ => none
 | k + 1, x1 => (tag_Parse.f k x1).bind fun bt320 => (if (!(bt320.2.1 == 0) || (!(bt320.2.2 == 0))) = true then (if (bt320.1.length : Int) = 0 then (if bt320.2.1 = 19 then (if bt320.2.2 ≥ 0 then (if bt320.2.2 ≤ (x1.size : Int) then ((forebaylaw06_awake.f k).bind fun t326 => (some t326)) else (none)) else (none)) else (none)) else (none)) else ((tag_Text.f k bt320.1).bind fun bt327 => (if bt327.2.2 = 0 then (if bt327.2.1 = 0 then (if bt327.1.toList = x1.toList then (if (bt320.1.length : Int) > 0 then ((forebaylaw06_awake.f k).bind fun t330 => (some t330)) else (none)) else (none)) else (none)) else (none))))
end
def forebaylaw06_TagBack.f (k : Nat) (l0 : List (S34)) (a1 : ByteArray) : Option (Bool) := (forebaylaw06_Few.f k l0).bind fun t305 => (if t305 = true then (forebaylaw06_TagBack.j0 k l0 a1 (decide ((a1.size : Int) > 500))) else (forebaylaw06_TagBack.j0 k l0 a1 true))
set_option maxHeartbeats 8000000 in
set_option maxRecDepth 100000 in
theorem forebaylaw06_TagBack.calls (k : Nat) (A0 : Option Addr) (c0 : Nat) (l0 : List (S34)) (a1 : ByteArray) (r : Bool) (w : World) (hr0 : Kd.C k34 w A0 l0.length l0) (hc0 : l0.length ≤ c0) (h : forebaylaw06_TagBack.f k l0 a1 = some r) (hMx : MaxAt w) :
  Calls Tryd.prog 9 #[.slice A0 l0.length c0, .string a1] w fun e w' => e = .returned (.bool r) ∧ Below w.heap.size w w' := by
 have hu34 := Tryd.underlying34
 have hu26 := Tryd.underlying26
 have HR0 := Aside0.mk hr0
 have HC0 := Aside0.mk hc0
 clear hr0 hc0
 have HB := Aside0.mk (Below.refl w.heap.size w)
 have HMX := Aside0.mk hMx
 clear hMx
 have H : ((forebaylaw06_Few.f k l0).bind fun t305 => (if t305 = true then (forebaylaw06_TagBack.j0 k l0 a1 (decide ((a1.size : Int) > 500))) else (forebaylaw06_TagBack.j0 k l0 a1 true))) = some r := h
 clear h
 have HC3 := Aside0.mk H
 clear H
 go_enter Tryd.func9, Tryd.ntmps9
 go_upto_region 1 with (fail)
 go_cut [24] (fun v24 wc => ∃ (kq : Nat) (x24_2 : Bool), v24 = .bool x24_2 ∧ Aside0 (forebaylaw06_TagBack.j0 kq l0 a1 x24_2 = some r) ∧ Aside0 (kq ≤ k) ∧ Aside0 (Below w.heap.size w wc))
 case first =>
  have H := HC3.out
  clear HC3
  replace H := Option.bind_eq_some_iff.mp H
  obtain ⟨t305, A40, H⟩ := H
  replace H : (if t305 = true then (forebaylaw06_TagBack.j0 k l0 a1 (decide ((a1.size : Int) > 500))) else (forebaylaw06_TagBack.j0 k l0 a1 true)) = some r := H
  have A4 := Aside0.mk A40
  clear A40
  by_cases c5 : t305 = true
  ·subst c5
   have H1 : (forebaylaw06_TagBack.j0 k l0 a1 (decide ((a1.size : Int) > 500))) = some r := by rw [if_pos rfl] at H; exact H
   clear H
   have H := H1
   clear H1
   have H' := Aside0.mk H
   clear H
   go_wp2_with (first | ((with_reducible refine gate_callee (f := 14) rfl ?_); refine goesL_ (some 18) rfl rfl Tryd.func14 (by kernel_rfl) rfl #[.slice A0 l0.length c0] rfl (by (try simp only [List.map_toArray, List.map_cons, List.map_nil]); first | done | rfl | (simp only [List.length_drop, List.length_take]; rfl)) ?_; (with_reducible refine (forebaylaw06_Few.calls k _ _ l0 true _ ?side1 ?side2 A4.out).mono ?_); (case side1 => repeat (first | exact (Kd.C_below HR0.out HB.out) | (with_reducible refine Kd.C_alloc ?_ _) | (with_reducible refine Kd.C_drewN ?_ _) | (with_reducible refine Kd.C_drew ?_))); (case side2 => exact HC0.out); rintro e w' ⟨rfl, ⟨nd, rfl⟩⟩; refine ⟨_, rfl, ?_⟩))
   go_meet
   case rel => exact ⟨_, (decide ((a1.size : Int) > 500)), (by first | rfl | (simp; done) | (simp [*]; done)), H', ⟨by first | omega | exact Nat.le_refl _⟩, ⟨by repeat (first | (with_reducible first | exact HB.out | apply below_alloc | apply pw_below_drewN | apply below_drew1) | exact HB.out)⟩⟩
  ·replace c5 := Bool.eq_false_iff.mpr c5
   subst c5
   have H1 : (forebaylaw06_TagBack.j0 k l0 a1 true) = some r := by rw [if_neg (show ¬ (false = true) by decide)] at H; exact H
   clear H
   have H := H1
   clear H1
   have H' := Aside0.mk H
   clear H
   go_wp2_with (first | ((with_reducible refine gate_callee (f := 14) rfl ?_); refine goesL_ (some 18) rfl rfl Tryd.func14 (by kernel_rfl) rfl #[.slice A0 l0.length c0] rfl (by (try simp only [List.map_toArray, List.map_cons, List.map_nil]); first | done | rfl | (simp only [List.length_drop, List.length_take]; rfl)) ?_; (with_reducible refine (forebaylaw06_Few.calls k _ _ l0 false _ ?side1 ?side2 A4.out).mono ?_); (case side1 => repeat (first | exact (Kd.C_below HR0.out HB.out) | (with_reducible refine Kd.C_alloc ?_ _) | (with_reducible refine Kd.C_drewN ?_ _) | (with_reducible refine Kd.C_drew ?_))); (case side2 => exact HC0.out); rintro e w' ⟨rfl, ⟨nd, rfl⟩⟩; refine ⟨_, rfl, ?_⟩))
   go_meet
   case rel => exact ⟨_, (true), (by first | rfl | (simp; done) | (simp [*]; done)), H', ⟨by first | omega | exact Nat.le_refl _⟩, ⟨by repeat (first | (with_reducible first | exact HB.out | apply below_alloc | apply pw_below_drewN | apply below_drew1) | exact HB.out)⟩⟩
 case rest =>
  clear HC3
  try clear c1
  try clear p2
  try clear c5
  obtain ⟨kq, x24_2, rfl, HA, HJ2, HB⟩ := hcut
  cases kq with
  | zero => exact absurd HA.out (by simp [forebaylaw06_TagBack.j0])
  | succ kj2 =>
   have H := HA.out
   clear HA
   simp only [forebaylaw06_TagBack.j0] at H
   by_cases c6 : x24_2 = true
   ·subst c6
    have H1 : ((forebaylaw06_awake.f kj2).bind fun t306 => (some t306)) = some r := by rw [if_pos rfl] at H; exact H
    clear H
    have H := H1
    clear H1
    replace H := Option.bind_eq_some_iff.mp H
    obtain ⟨t306, A70, H⟩ := H
    replace H : (some t306) = some r := H
    have A7 := Aside0.mk A70
    clear A70
    obtain rfl := Option.some.inj H
    go_wp2_with (first | ((with_reducible refine gate_callee (f := 10) rfl ?_); refine goesL_ (some 25) rfl rfl Tryd.func10 (by kernel_rfl) rfl #[] rfl (by (try simp only [List.map_toArray, List.map_cons, List.map_nil]); first | done | rfl | (simp only [List.length_drop, List.length_take]; rfl)) ?_; (with_reducible refine (forebaylaw06_awake.calls kj2  t306 _ A7.out (MaxAt.below HMX.out (by repeat (first | (with_reducible first | exact HB.out | apply below_alloc | apply pw_below_drewN | apply below_drew1) | exact HB.out)))).mono ?_); rintro e w8 ⟨rfl, hb⟩; refine ⟨_, rfl, ?_⟩; have n0_ := Aside0.mk (below_step (by repeat (first | (with_reducible first | exact HB.out | apply below_alloc | apply pw_below_drewN | apply below_drew1) | exact HB.out)) hb); clear HB; have HB := n0_; clear n0_; (try clear hb); (try clear hb2); (try clear hk); (try clear hi)))
    go_ret
    exact ⟨by first | rfl | (simp [errW_none, errW_some] <;> rfl) | (simp [*, errW_none, errW_some] <;> rfl), by repeat (first | (with_reducible first | exact HB.out | apply below_alloc | apply pw_below_drewN | apply below_drew1) | exact HB.out)⟩
   ·replace c6 := Bool.eq_false_iff.mpr c6
    subst c6
    have H1 : (forebaylaw06_TagBack.l0 kj2 l0 a1 (-1) 0) = some r := by rw [if_neg (show ¬ (false = true) by decide)] at H; exact H
    clear H
    have H := H1
    clear H1
    have H' := Aside0.mk H
    clear H
    go_wp2
    go_loopg [5, 6] kj2 (fun kq v5 v6 w' => ∃ (x5_2 : Int) (x6_2 : Int), v5 = .int .i64 x5_2 ∧ v6 = .int .i64 x6_2 ∧ Aside0 (forebaylaw06_TagBack.l0 kq l0 a1 x5_2 x6_2 = some r) ∧ Aside0 (kq ≤ kj2) ∧ Aside0 (Below w.heap.size w w'))
    case atStart => exact ⟨((-1)), (0), (by first | rfl | (simp; done) | (simp [*]; done)), (by first | rfl | (simp; done) | (simp [*]; done)), H', ⟨Nat.le_refl _⟩, ⟨by repeat (first | (with_reducible first | exact HB.out | apply below_alloc | apply pw_below_drewN | apply below_drew1) | exact HB.out)⟩⟩
    case round =>
     clear H'
     try clear c1
     try clear p2
     try clear c5
     try clear c6
     try clear p2
     obtain ⟨x5_2, x6_2, rfl, rfl, HA, HK2, HB⟩ := hrel
     cases gk with
     | zero => exact absurd HA.out (by simp [forebaylaw06_TagBack.l0])
     | succ k2 =>
      have H := HA.out
      clear HA
      simp only [forebaylaw06_TagBack.l0] at H
      have HC9 := Aside0.mk H
      clear H
      go_upto_region 5 with (fail)
      go_cut [33] (fun v33 wc => ∃ (kq : Nat) (x33_8 : Bool), v33 = .bool x33_8 ∧ Aside0 (forebaylaw06_TagBack.j2 kq l0 a1 x5_2 x6_2 x33_8 = some r) ∧ Aside0 (kq ≤ k2) ∧ Aside0 (Below w.heap.size w wc))
      case first =>
       have H := HC9.out
       clear HC9
       by_cases c10 : x6_2 < (l0.length : Int)
       ·rw [if_pos c10] at H
        have c10b0 : decide (x6_2 < (l0.length : Int)) = true := decide_eq_true c10
        clear c10
        (first | rw [c10b0] | (simp only [i64_w, i32_w]; rw [c10b0]) | skip)
        have H' := Aside0.mk H
        clear H
        go_wp2
        go_meet
        case rel => exact ⟨_, (decide (x5_2 < 0)), (by first | rfl | (simp; done) | (simp [*]; done)), H', ⟨by have := HJ2.out; have := HK2.out; first | omega | exact Nat.le_refl _⟩, ⟨by repeat (first | (with_reducible first | exact HB.out | apply below_alloc | apply pw_below_drewN | apply below_drew1) | exact HB.out)⟩⟩
       ·rw [if_neg c10] at H
        have c10b0 : decide (x6_2 < (l0.length : Int)) = false := decide_eq_false c10
        clear c10
        (first | rw [c10b0] | (simp only [i64_w, i32_w]; rw [c10b0]) | skip)
        have H' := Aside0.mk H
        clear H
        go_wp2
        go_meet
        case rel => exact ⟨_, (false), (by first | rfl | (simp; done) | (simp [*]; done)), H', ⟨by have := HJ2.out; have := HK2.out; first | omega | exact Nat.le_refl _⟩, ⟨by repeat (first | (with_reducible first | exact HB.out | apply below_alloc | apply pw_below_drewN | apply below_drew1) | exact HB.out)⟩⟩
      case rest =>
       clear HC9
       try clear c1
       try clear p2
       try clear c5
       try clear c6
       try clear c9
       try clear c10
       try clear c10b0
       try clear p2
       obtain ⟨kq, x33_8, rfl, HA, HJ8, HB⟩ := hcut
       cases kq with
       | zero => exact absurd HA.out (by simp [forebaylaw06_TagBack.j2])
       | succ kj8 =>
        have H := HA.out
        clear HA
        simp only [forebaylaw06_TagBack.j2] at H
        by_cases c11 : x33_8 = true
        ·subst c11
         have H1 : (if 0 ≤ x6_2 then (if x6_2 < (l0.length : Int) then ((tag_Check.f ((rd_T34 l0 x6_2).f0) ((rd_T34 l0 x6_2).f1)).bind fun t308 => (if t308 = 0 then (forebaylaw06_TagBack.l0 kj8 l0 a1 x5_2 (wrap64 (x6_2 + 1))) else (forebaylaw06_TagBack.l0 kj8 l0 a1 x6_2 (wrap64 (x6_2 + 1))))) else (none)) else (none)) = some r := by rw [if_pos rfl] at H; exact H
         clear H
         have H := H1
         clear H1
         by_cases c12 : 0 ≤ x6_2
         ·rw [if_pos c12] at H
          have c12b0 : decide (0 ≤ x6_2) = true := decide_eq_true c12
          clear c12
          by_cases c13 : x6_2 < (l0.length : Int)
          ·rw [if_pos c13] at H
           have c13b0 : decide (x6_2 < (l0.length : Int)) = true := decide_eq_true c13
           clear c13
           replace H := Option.bind_eq_some_iff.mp H
           obtain ⟨t308, A140, H⟩ := H
           replace H : (if t308 = 0 then (forebaylaw06_TagBack.l0 kj8 l0 a1 x5_2 (wrap64 (x6_2 + 1))) else (forebaylaw06_TagBack.l0 kj8 l0 a1 x6_2 (wrap64 (x6_2 + 1)))) = some r := H
           have A14 := Aside0.mk A140
           clear A140
           by_cases c15 : t308 = 0
           ·rw [if_pos c15] at H
            have c15b0 : (t308 == 0) = true := beq_iff_eq.mpr c15
            have c15b1 : (t308 != 0) = false := bne_eq_false_iff_eq.mpr c15
            clear c15
            have H' := Aside0.mk H
            clear H
            have p307 : 0 ≤ (x6_2 : Int) := of_decide_eq_true (by first | (with_reducible assumption) | assumption)
            have q307 : x6_2 < (l0.length : Int) := of_decide_eq_true (by first | (with_reducible assumption) | assumption)
            obtain ⟨ad307, e307, hx307_0, hx307_1⟩ := at_T34 HR0.out x6_2 p307 q307
            cases e307
            replace hx307_0 := (HB.out.cell (World.block_lt_of_cell? w _ hx307_0)).trans hx307_0
            replace hx307_1 := (HB.out.cell (World.block_lt_of_cell? w _ hx307_1)).trans hx307_1
            replace p307 := eq_true p307
            replace q307 := eq_true q307
            go_wp2_with (first | ((with_reducible refine gate_callee (f := 16) rfl ?_); refine goesL_ (some 40) rfl rfl Tryd.func16 (by kernel_rfl) rfl #[.agg #[.string ((rd_T34 l0 x6_2).f0), .string ((rd_T34 l0 x6_2).f1)]] rfl (by (try simp only [List.map_toArray, List.map_cons, List.map_nil]); first | done | rfl | (simp only [List.length_drop, List.length_take]; rfl)) ?_; (with_reducible refine (tag_Check.calls ((rd_T34 l0 x6_2).f0) ((rd_T34 l0 x6_2).f1) t308 _ A14.out).mono ?_); rintro e w16 ⟨rfl, hb⟩; refine ⟨_, rfl, ?_⟩; have n0_ := Aside0.mk (below_step (by repeat (first | (with_reducible first | exact HB.out | apply below_alloc | apply pw_below_drewN | apply below_drew1) | exact HB.out)) hb); clear HB; have HB := n0_; clear n0_; (try clear hb); (try clear hb2); (try clear hk); (try clear hi)))
            go_roundg kj8
            case measure => have := HJ2.out; have := HK2.out; have := HJ8.out; omega
            case rel => exact ⟨(x5_2), (wrap64 (x6_2 + 1)), (by first | rfl | (simp; done) | (simp [*]; done)), (by first | rfl | (simp; done) | (simp [*]; done)), H', ⟨by have := HJ2.out; have := HK2.out; have := HJ8.out; omega⟩, ⟨by repeat (first | (with_reducible first | exact HB.out | apply below_alloc | apply pw_below_drewN | apply below_drew1) | exact HB.out)⟩⟩
           ·rw [if_neg c15] at H
            have c15b0 : (t308 == 0) = false := beq_eq_false_iff_ne.mpr c15
            have c15b1 : (t308 != 0) = true := bne_iff_ne.mpr c15
            have H' := Aside0.mk H
            clear H
            have p307 : 0 ≤ (x6_2 : Int) := of_decide_eq_true (by first | (with_reducible assumption) | assumption)
            have q307 : x6_2 < (l0.length : Int) := of_decide_eq_true (by first | (with_reducible assumption) | assumption)
            obtain ⟨ad307, e307, hx307_0, hx307_1⟩ := at_T34 HR0.out x6_2 p307 q307
            cases e307
            replace hx307_0 := (HB.out.cell (World.block_lt_of_cell? w _ hx307_0)).trans hx307_0
            replace hx307_1 := (HB.out.cell (World.block_lt_of_cell? w _ hx307_1)).trans hx307_1
            replace p307 := eq_true p307
            replace q307 := eq_true q307
            go_wp2_with (first | ((with_reducible refine gate_callee (f := 16) rfl ?_); refine goesL_ (some 40) rfl rfl Tryd.func16 (by kernel_rfl) rfl #[.agg #[.string ((rd_T34 l0 x6_2).f0), .string ((rd_T34 l0 x6_2).f1)]] rfl (by (try simp only [List.map_toArray, List.map_cons, List.map_nil]); first | done | rfl | (simp only [List.length_drop, List.length_take]; rfl)) ?_; (with_reducible refine (tag_Check.calls ((rd_T34 l0 x6_2).f0) ((rd_T34 l0 x6_2).f1) t308 _ A14.out).mono ?_); rintro e w17 ⟨rfl, hb⟩; refine ⟨_, rfl, ?_⟩; have n0_ := Aside0.mk (below_step (by repeat (first | (with_reducible first | exact HB.out | apply below_alloc | apply pw_below_drewN | apply below_drew1) | exact HB.out)) hb); clear HB; have HB := n0_; clear n0_; (try clear hb); (try clear hb2); (try clear hk); (try clear hi)))
            go_roundg kj8
            case measure => have := HJ2.out; have := HK2.out; have := HJ8.out; omega
            case rel => exact ⟨(x6_2), (wrap64 (x6_2 + 1)), (by first | rfl | (simp; done) | (simp [*]; done)), (by first | rfl | (simp; done) | (simp [*]; done)), H', ⟨by have := HJ2.out; have := HK2.out; have := HJ8.out; omega⟩, ⟨by repeat (first | (with_reducible first | exact HB.out | apply below_alloc | apply pw_below_drewN | apply below_drew1) | exact HB.out)⟩⟩
          ·rw [if_neg c13] at H
           exact absurd H (by simp)
         ·rw [if_neg c12] at H
          exact absurd H (by simp)
        ·replace c11 := Bool.eq_false_iff.mpr c11
         subst c11
         have H1 : ((tag_Text.f kj8 l0).bind fun bt309 => (if x5_2 ≥ 0 then (if bt309.1.toList = ([] : List UInt8) then (if bt309.2.1 = x5_2 then (if bt309.2.2 = 19 then (forebaylaw06_TagBack.j3 kj8 a1) else (none)) else (none)) else (none)) else ((tag_Parse.f kj8 bt309.1).bind fun bt312 => (if bt309.2.1 = 0 then (if bt309.2.2 = 0 then (if (l0.length : Int) = 0 then (if bt309.1.toList = ([] : List UInt8) then (if (l0.length : Int) > 0 then (if (!(bt312.2.1 == 0) || (!(bt312.2.2 == 0))) = true then (none) else ((forebaylaw06_same.f kj8 bt312.1 l0).bind fun t318 => (if t318 = true then (forebaylaw06_TagBack.j3 kj8 a1) else (none)))) else (forebaylaw06_TagBack.j3 kj8 a1)) else (none)) else (if (l0.length : Int) > 0 then (if (!(bt312.2.1 == 0) || (!(bt312.2.2 == 0))) = true then (none) else ((forebaylaw06_same.f kj8 bt312.1 l0).bind fun t319 => (if t319 = true then (forebaylaw06_TagBack.j3 kj8 a1) else (none)))) else (forebaylaw06_TagBack.j3 kj8 a1))) else (none)) else (none))))) = some r := by rw [if_neg (show ¬ (false = true) by decide)] at H; exact H
         clear H
         have H := H1
         clear H1
         replace H := Option.bind_eq_some_iff.mp H
         obtain ⟨⟨t309, t310, t311⟩, A180, H⟩ := H
         replace H : (if x5_2 ≥ 0 then (if t309.toList = ([] : List UInt8) then (if t310 = x5_2 then (if t311 = 19 then (forebaylaw06_TagBack.j3 kj8 a1) else (none)) else (none)) else (none)) else ((tag_Parse.f kj8 t309).bind fun bt312 => (if t310 = 0 then (if t311 = 0 then (if (l0.length : Int) = 0 then (if t309.toList = ([] : List UInt8) then (if (l0.length : Int) > 0 then (if (!(bt312.2.1 == 0) || (!(bt312.2.2 == 0))) = true then (none) else ((forebaylaw06_same.f kj8 bt312.1 l0).bind fun t318 => (if t318 = true then (forebaylaw06_TagBack.j3 kj8 a1) else (none)))) else (forebaylaw06_TagBack.j3 kj8 a1)) else (none)) else (if (l0.length : Int) > 0 then (if (!(bt312.2.1 == 0) || (!(bt312.2.2 == 0))) = true then (none) else ((forebaylaw06_same.f kj8 bt312.1 l0).bind fun t319 => (if t319 = true then (forebaylaw06_TagBack.j3 kj8 a1) else (none)))) else (forebaylaw06_TagBack.j3 kj8 a1))) else (none)) else (none)))) = some r := H
         have A18 := Aside0.mk A180
         clear A180
         have HC19 := Aside0.mk H
         clear H
         go_upto_if 50 with (first | ((with_reducible refine gate_callee (f := 22) rfl ?_); refine goesL_ (some 45) rfl rfl Tryd.func22 (by kernel_rfl) rfl #[.slice A0 l0.length c0] rfl (by (try simp only [List.map_toArray, List.map_cons, List.map_nil]); first | done | rfl | (simp only [List.length_drop, List.length_take]; rfl)) ?_; (with_reducible refine (tag_Text.calls kj8 _ _ l0 t309 t310 t311 _ ?side1 ?side2 A18.out).mono ?_); (case side1 => repeat (first | exact (Kd.C_below HR0.out HB.out) | (with_reducible refine Kd.C_alloc ?_ _) | (with_reducible refine Kd.C_drewN ?_ _) | (with_reducible refine Kd.C_drew ?_))); (case side2 => exact HC0.out); rintro e w20 ⟨rfl, hb⟩; refine ⟨_, rfl, ?_⟩; have n0_ := Aside0.mk (below_step (by repeat (first | (with_reducible first | exact HB.out | apply below_alloc | apply pw_below_drewN | apply below_drew1) | exact HB.out)) hb); clear HB; have HB := n0_; clear n0_; (try clear hb); (try clear hb2); (try clear hk); (try clear hi)))
         (try simp only [Act.put, List.setIfInBounds_toArray, List.set_cons_zero, List.set_cons_succ])
         go_cut [] (fun wc => ∃ (kq : Nat), Aside0 (forebaylaw06_TagBack.j3 kq a1 = some r) ∧ Aside0 (kq ≤ kj8) ∧ Aside0 (Below w.heap.size w wc))
         case first =>
          have H := HC19.out
          clear HC19
          by_cases c21 : x5_2 ≥ 0
          ·rw [if_pos c21] at H
           have c21b0 : decide (0 ≤ x5_2) = true := decide_eq_true c21
           clear c21
           (first | rw [c21b0] | (simp only [i64_w, i32_w]; rw [c21b0]) | skip)
           by_cases c22 : t309.toList = ([] : List UInt8)
           ·rw [if_pos c22] at H
            have c22b0 : (t309.toList == ([] : List UInt8)) = true := beq_iff_eq.mpr c22
            have c22b1 : (t309.toList != ([] : List UInt8)) = false := bne_eq_false_iff_eq.mpr c22
            clear c22
            by_cases c23 : t310 = x5_2
            ·rw [if_pos c23] at H
             have c23b0 : (t310 == x5_2) = true := beq_iff_eq.mpr c23
             have c23b1 : (t310 != x5_2) = false := bne_eq_false_iff_eq.mpr c23
             clear c23
             by_cases c24 : t311 = 19
             ·rw [if_pos c24] at H
              have c24b0 : (t311 == 19) = true := beq_iff_eq.mpr c24
              have c24b1 : (t311 != 19) = false := bne_eq_false_iff_eq.mpr c24
              clear c24
              have H' := Aside0.mk H
              clear H
              go_wp2
              go_meet
              case rel => exact ⟨_, H', ⟨by have := HJ2.out; have := HK2.out; have := HJ8.out; first | omega | exact Nat.le_refl _⟩, ⟨by repeat (first | (with_reducible first | exact HB.out | apply below_alloc | apply pw_below_drewN | apply below_drew1) | exact HB.out)⟩⟩
             ·rw [if_neg c24] at H
              exact absurd H (by simp)
            ·rw [if_neg c23] at H
             exact absurd H (by simp)
           ·rw [if_neg c22] at H
            exact absurd H (by simp)
          ·rw [if_neg c21] at H
           have c21b0 : decide (0 ≤ x5_2) = false := decide_eq_false c21
           clear c21
           (first | rw [c21b0] | (simp only [i64_w, i32_w]; rw [c21b0]) | skip)
           replace H := Option.bind_eq_some_iff.mp H
           obtain ⟨⟨t312, t315, t316⟩, A250, H⟩ := H
           replace H : (if t310 = 0 then (if t311 = 0 then (if (l0.length : Int) = 0 then (if t309.toList = ([] : List UInt8) then (if (l0.length : Int) > 0 then (if (!(t315 == 0) || (!(t316 == 0))) = true then (none) else ((forebaylaw06_same.f kj8 t312 l0).bind fun t318 => (if t318 = true then (forebaylaw06_TagBack.j3 kj8 a1) else (none)))) else (forebaylaw06_TagBack.j3 kj8 a1)) else (none)) else (if (l0.length : Int) > 0 then (if (!(t315 == 0) || (!(t316 == 0))) = true then (none) else ((forebaylaw06_same.f kj8 t312 l0).bind fun t319 => (if t319 = true then (forebaylaw06_TagBack.j3 kj8 a1) else (none)))) else (forebaylaw06_TagBack.j3 kj8 a1))) else (none)) else (none)) = some r := H
           have A25 := Aside0.mk A250
           clear A250
           by_cases c26 : t310 = 0
           ·rw [if_pos c26] at H
            have c26b0 : (t310 == 0) = true := beq_iff_eq.mpr c26
            have c26b1 : (t310 != 0) = false := bne_eq_false_iff_eq.mpr c26
            clear c26
            by_cases c27 : t311 = 0
            ·rw [if_pos c27] at H
             have c27b0 : (t311 == 0) = true := beq_iff_eq.mpr c27
             have c27b1 : (t311 != 0) = false := bne_eq_false_iff_eq.mpr c27
             clear c27
             by_cases c28 : (l0.length : Int) = 0
             ·rw [if_pos c28] at H
              have c28b0 : ((l0.length : Int) == 0) = true := beq_iff_eq.mpr c28
              have c28b1 : ((l0.length : Int) != 0) = false := bne_eq_false_iff_eq.mpr c28
              clear c28
              by_cases c29 : t309.toList = ([] : List UInt8)
              ·rw [if_pos c29] at H
               have c29b0 : (t309.toList == ([] : List UInt8)) = true := beq_iff_eq.mpr c29
               have c29b1 : (t309.toList != ([] : List UInt8)) = false := bne_eq_false_iff_eq.mpr c29
               clear c29
               by_cases c30 : (l0.length : Int) > 0
               ·rw [if_pos c30] at H
                have c30b0 : decide (0 < (l0.length : Int)) = true := decide_eq_true c30
                have c30b1 : decide (0 < l0.length) = true := decide_eq_true (by omega)
                clear c30
                by_cases c31 : (!(t315 == 0) || (!(t316 == 0))) = true
                ·rw [if_pos c31] at H
                 exact absurd H (by simp)
                ·rw [if_neg c31] at H
                 have c31b0 : (!(t315 == 0) || (!(t316 == 0))) = false := by simpa using c31
                 clear c31
                 replace H := Option.bind_eq_some_iff.mp H
                 obtain ⟨t318, A320, H⟩ := H
                 replace H : (if t318 = true then (forebaylaw06_TagBack.j3 kj8 a1) else (none)) = some r := H
                 have A32 := Aside0.mk A320
                 clear A320
                 by_cases c33 : t318 = true
                 ·subst c33
                  have H1 : (forebaylaw06_TagBack.j3 kj8 a1) = some r := by rw [if_pos rfl] at H; exact H
                  clear H
                  have H := H1
                  clear H1
                  have H' := Aside0.mk H
                  clear H
                  go_wp2_with (first | ((with_reducible refine gate_callee (f := 11) rfl ?_); refine goesL_ (some 64) rfl rfl Tryd.func11 (by kernel_rfl) rfl #[.string t309] rfl (by (try simp only [List.map_toArray, List.map_cons, List.map_nil]); first | done | rfl | (simp only [List.length_drop, List.length_take]; rfl)) ?_; (with_reducible refine (tag_Parse.calls kj8 t309 t312 t315 t316 _ A25.out (MaxAt.below HMX.out (by repeat (first | (with_reducible first | exact HB.out | apply below_alloc | apply pw_below_drewN | apply below_drew1) | exact HB.out)))).mono ?_); rintro e w34 ⟨v313, rfl, ho0, hb⟩; refine ⟨_, rfl, ?_⟩; have n0_ := Aside0.mk (Kd.R_lower ho0 (below_size (by repeat (first | (with_reducible first | exact HB.out | apply below_alloc | apply pw_below_drewN | apply below_drew1) | exact HB.out)))); have n1_ := Aside0.mk (below_step (by repeat (first | (with_reducible first | exact HB.out | apply below_alloc | apply pw_below_drewN | apply below_drew1) | exact HB.out)) hb); clear HB; have HO314 := n0_; have HB := n1_; clear n0_ n1_; (try clear hb); (try clear hb2); (try clear hk); (try clear hi); (try clear ho0)) | ((with_reducible refine gate_dst (N := 11) rfl ?_); (try (refine gate_guard (by rfl) ?_; dsimp only)); refine box_event ?hg (N := 11) ?hd (cs := #[.int .i64 0, .int .i64 0]) (t := 26) ?hr ?_; (case hd => rfl); (case hg => rfl); (case hr => first | (go_simp; done) | (go_simp; rfl)); intro gb317 hg w35 hbox hb; have n0_ := Aside0.mk (Kd.R_below (by (with_reducible repeat (first | apply Kd.R_alloc | apply Kd.R_drewN | apply Kd.R_drew)); exact HO314.out) hb); have n1_ := Aside0.mk (below_step (by repeat (first | (with_reducible first | exact HB.out | apply below_alloc | apply pw_below_drewN | apply below_drew1) | exact HB.out)) hb); have n2_ := Aside0.mk (hbox); have n3_ := Aside0.mk ((by rw [hg]; exact (below_size (by repeat (first | (with_reducible first | exact HB.out | apply below_alloc | apply pw_below_drewN | apply below_drew1) | exact HB.out))) : w.heap.size ≤ gb317)); have n4_ := Aside0.mk ((by rw [hg]; exact (below_size (by repeat (first | (with_reducible first | exact HB.out | apply below_alloc | apply pw_below_drewN | apply below_drew1) | exact HB.out))) : w.heap.size ≤ gb317)); clear HO314; clear HB; have HO314 := n0_; have HB := n1_; have BK317 := n2_; have GW317 := n3_; have GE317 := n4_; clear n0_ n1_ n2_ n3_ n4_; clear hb hbox hg; have hcz36_0 : w35.cell? ⟨gb317, 0, none⟩ = some (.int .i64 0) := (blk_cell BK317.out 0).trans rfl; have hcz36_1 : w35.cell? ⟨gb317, 1, none⟩ = some (.int .i64 0) := (blk_cell BK317.out 1).trans rfl; have hfz36_0 := blk_frozen BK317.out 0; have hfz36_1 := blk_frozen BK317.out 1; obtain ⟨Ao37, co37, eo37⟩ := Kd.R_slice HO314.out; subst eo37) | (go_at_call 13; (with_reducible refine (forebaylaw06_same.calls kj8 _ _ t312 _ _ l0 true _ ?side1 ?side2 ?side3 ?side4 A32.out).mono ?_); (case side1 => refine (Kd.R_reads' (e := 34) (base := w.heap.size) (ok := fun k_ => True) (n := t312.length) (c := co37) ?_).2.2; exact (by (with_reducible repeat (first | apply Kd.R_alloc | apply Kd.R_drewN | apply Kd.R_drew)); exact (Kd.R_mono (Kd.R_far (p := ⟨gb317, 1, none⟩) (Kd.R_far (p := ⟨gb317, 0, none⟩) (Kd.R_types HO314.out BK317.out (by decide)) (fun _ hk => hk.2) (.int .i64 t315)) (fun _ hk => hk.2) (.int .i64 t316)) (fun _ h_ => h_.1)))); (case side2 => exact (Kd.R_reads' HO314.out).2.1); (case side3 => exact Kd.C_below HR0.out (by repeat (first | (with_reducible first | exact HB.out | apply below_alloc | apply pw_below_drewN | apply below_drew1 | refine below_set ?_ GE317.out) | exact HB.out))); (case side4 => exact HC0.out); rintro e w' ⟨rfl, ⟨nd, rfl⟩⟩))
                  go_meet
                  case rel => exact ⟨_, H', ⟨by have := HJ2.out; have := HK2.out; have := HJ8.out; first | omega | exact Nat.le_refl _⟩, ⟨by repeat (first | (with_reducible first | exact HB.out | apply below_alloc | apply pw_below_drewN | apply below_drew1 | refine below_set ?_ GE317.out) | exact HB.out)⟩⟩
                 ·replace c33 := Bool.eq_false_iff.mpr c33
                  subst c33
                  have H1 : (none) = some r := by rw [if_neg (show ¬ (false = true) by decide)] at H; exact H
                  clear H
                  have H := H1
                  clear H1
                  exact absurd H (by simp)
               ·rw [if_neg c30] at H
                have c30b0 : decide (0 < (l0.length : Int)) = false := decide_eq_false c30
                have c30b1 : decide (0 < l0.length) = false := decide_eq_false (by omega)
                clear c30
                have H' := Aside0.mk H
                clear H
                go_wp2_with (first | ((with_reducible refine gate_callee (f := 11) rfl ?_); refine goesL_ (some 64) rfl rfl Tryd.func11 (by kernel_rfl) rfl #[.string t309] rfl (by (try simp only [List.map_toArray, List.map_cons, List.map_nil]); first | done | rfl | (simp only [List.length_drop, List.length_take]; rfl)) ?_; (with_reducible refine (tag_Parse.calls kj8 t309 t312 t315 t316 _ A25.out (MaxAt.below HMX.out (by repeat (first | (with_reducible first | exact HB.out | apply below_alloc | apply pw_below_drewN | apply below_drew1) | exact HB.out)))).mono ?_); rintro e w38 ⟨v313, rfl, ho0, hb⟩; refine ⟨_, rfl, ?_⟩; have n0_ := Aside0.mk (Kd.R_lower ho0 (below_size (by repeat (first | (with_reducible first | exact HB.out | apply below_alloc | apply pw_below_drewN | apply below_drew1) | exact HB.out)))); have n1_ := Aside0.mk (below_step (by repeat (first | (with_reducible first | exact HB.out | apply below_alloc | apply pw_below_drewN | apply below_drew1) | exact HB.out)) hb); clear HB; have HO314 := n0_; have HB := n1_; clear n0_ n1_; (try clear hb); (try clear hb2); (try clear hk); (try clear hi); (try clear ho0)) | ((with_reducible refine gate_dst (N := 11) rfl ?_); (try (refine gate_guard (by rfl) ?_; dsimp only)); refine box_event ?hg (N := 11) ?hd (cs := #[.int .i64 0, .int .i64 0]) (t := 26) ?hr ?_; (case hd => rfl); (case hg => rfl); (case hr => first | (go_simp; done) | (go_simp; rfl)); intro gb317 hg w39 hbox hb; have n0_ := Aside0.mk (Kd.R_below (by (with_reducible repeat (first | apply Kd.R_alloc | apply Kd.R_drewN | apply Kd.R_drew)); exact HO314.out) hb); have n1_ := Aside0.mk (below_step (by repeat (first | (with_reducible first | exact HB.out | apply below_alloc | apply pw_below_drewN | apply below_drew1) | exact HB.out)) hb); have n2_ := Aside0.mk (hbox); have n3_ := Aside0.mk ((by rw [hg]; exact (below_size (by repeat (first | (with_reducible first | exact HB.out | apply below_alloc | apply pw_below_drewN | apply below_drew1) | exact HB.out))) : w.heap.size ≤ gb317)); have n4_ := Aside0.mk ((by rw [hg]; exact (below_size (by repeat (first | (with_reducible first | exact HB.out | apply below_alloc | apply pw_below_drewN | apply below_drew1) | exact HB.out))) : w.heap.size ≤ gb317)); clear HO314; clear HB; have HO314 := n0_; have HB := n1_; have BK317 := n2_; have GW317 := n3_; have GE317 := n4_; clear n0_ n1_ n2_ n3_ n4_; clear hb hbox hg; have hcz40_0 : w39.cell? ⟨gb317, 0, none⟩ = some (.int .i64 0) := (blk_cell BK317.out 0).trans rfl; have hcz40_1 : w39.cell? ⟨gb317, 1, none⟩ = some (.int .i64 0) := (blk_cell BK317.out 1).trans rfl; have hfz40_0 := blk_frozen BK317.out 0; have hfz40_1 := blk_frozen BK317.out 1))
                go_meet
                case rel => exact ⟨_, H', ⟨by have := HJ2.out; have := HK2.out; have := HJ8.out; first | omega | exact Nat.le_refl _⟩, ⟨by repeat (first | (with_reducible first | exact HB.out | apply below_alloc | apply pw_below_drewN | apply below_drew1 | refine below_set ?_ GE317.out) | exact HB.out)⟩⟩
              ·rw [if_neg c29] at H
               exact absurd H (by simp)
             ·rw [if_neg c28] at H
              have c28b0 : ((l0.length : Int) == 0) = false := beq_eq_false_iff_ne.mpr c28
              have c28b1 : ((l0.length : Int) != 0) = true := bne_iff_ne.mpr c28
              have c28b2 : ¬ (l0 = []) := fun h_ => c28 (by rw [h_]; rfl)
              by_cases c41 : (l0.length : Int) > 0
              ·rw [if_pos c41] at H
               have c41b0 : decide (0 < (l0.length : Int)) = true := decide_eq_true c41
               have c41b1 : decide (0 < l0.length) = true := decide_eq_true (by omega)
               clear c41
               by_cases c42 : (!(t315 == 0) || (!(t316 == 0))) = true
               ·rw [if_pos c42] at H
                exact absurd H (by simp)
               ·rw [if_neg c42] at H
                have c42b0 : (!(t315 == 0) || (!(t316 == 0))) = false := by simpa using c42
                clear c42
                replace H := Option.bind_eq_some_iff.mp H
                obtain ⟨t319, A430, H⟩ := H
                replace H : (if t319 = true then (forebaylaw06_TagBack.j3 kj8 a1) else (none)) = some r := H
                have A43 := Aside0.mk A430
                clear A430
                by_cases c44 : t319 = true
                ·subst c44
                 have H1 : (forebaylaw06_TagBack.j3 kj8 a1) = some r := by rw [if_pos rfl] at H; exact H
                 clear H
                 have H := H1
                 clear H1
                 have H' := Aside0.mk H
                 clear H
                 go_wp2_with (first | ((with_reducible refine gate_callee (f := 11) rfl ?_); refine goesL_ (some 64) rfl rfl Tryd.func11 (by kernel_rfl) rfl #[.string t309] rfl (by (try simp only [List.map_toArray, List.map_cons, List.map_nil]); first | done | rfl | (simp only [List.length_drop, List.length_take]; rfl)) ?_; (with_reducible refine (tag_Parse.calls kj8 t309 t312 t315 t316 _ A25.out (MaxAt.below HMX.out (by repeat (first | (with_reducible first | exact HB.out | apply below_alloc | apply pw_below_drewN | apply below_drew1) | exact HB.out)))).mono ?_); rintro e w45 ⟨v313, rfl, ho0, hb⟩; refine ⟨_, rfl, ?_⟩; have n0_ := Aside0.mk (Kd.R_lower ho0 (below_size (by repeat (first | (with_reducible first | exact HB.out | apply below_alloc | apply pw_below_drewN | apply below_drew1) | exact HB.out)))); have n1_ := Aside0.mk (below_step (by repeat (first | (with_reducible first | exact HB.out | apply below_alloc | apply pw_below_drewN | apply below_drew1) | exact HB.out)) hb); clear HB; have HO314 := n0_; have HB := n1_; clear n0_ n1_; (try clear hb); (try clear hb2); (try clear hk); (try clear hi); (try clear ho0)) | ((with_reducible refine gate_dst (N := 11) rfl ?_); (try (refine gate_guard (by rfl) ?_; dsimp only)); refine box_event ?hg (N := 11) ?hd (cs := #[.int .i64 0, .int .i64 0]) (t := 26) ?hr ?_; (case hd => rfl); (case hg => rfl); (case hr => first | (go_simp; done) | (go_simp; rfl)); intro gb317 hg w46 hbox hb; have n0_ := Aside0.mk (Kd.R_below (by (with_reducible repeat (first | apply Kd.R_alloc | apply Kd.R_drewN | apply Kd.R_drew)); exact HO314.out) hb); have n1_ := Aside0.mk (below_step (by repeat (first | (with_reducible first | exact HB.out | apply below_alloc | apply pw_below_drewN | apply below_drew1) | exact HB.out)) hb); have n2_ := Aside0.mk (hbox); have n3_ := Aside0.mk ((by rw [hg]; exact (below_size (by repeat (first | (with_reducible first | exact HB.out | apply below_alloc | apply pw_below_drewN | apply below_drew1) | exact HB.out))) : w.heap.size ≤ gb317)); have n4_ := Aside0.mk ((by rw [hg]; exact (below_size (by repeat (first | (with_reducible first | exact HB.out | apply below_alloc | apply pw_below_drewN | apply below_drew1) | exact HB.out))) : w.heap.size ≤ gb317)); clear HO314; clear HB; have HO314 := n0_; have HB := n1_; have BK317 := n2_; have GW317 := n3_; have GE317 := n4_; clear n0_ n1_ n2_ n3_ n4_; clear hb hbox hg; have hcz47_0 : w46.cell? ⟨gb317, 0, none⟩ = some (.int .i64 0) := (blk_cell BK317.out 0).trans rfl; have hcz47_1 : w46.cell? ⟨gb317, 1, none⟩ = some (.int .i64 0) := (blk_cell BK317.out 1).trans rfl; have hfz47_0 := blk_frozen BK317.out 0; have hfz47_1 := blk_frozen BK317.out 1; obtain ⟨Ao48, co48, eo48⟩ := Kd.R_slice HO314.out; subst eo48) | (go_at_call 13; (with_reducible refine (forebaylaw06_same.calls kj8 _ _ t312 _ _ l0 true _ ?side1 ?side2 ?side3 ?side4 A43.out).mono ?_); (case side1 => refine (Kd.R_reads' (e := 34) (base := w.heap.size) (ok := fun k_ => True) (n := t312.length) (c := co48) ?_).2.2; exact (by (with_reducible repeat (first | apply Kd.R_alloc | apply Kd.R_drewN | apply Kd.R_drew)); exact (Kd.R_mono (Kd.R_far (p := ⟨gb317, 1, none⟩) (Kd.R_far (p := ⟨gb317, 0, none⟩) (Kd.R_types HO314.out BK317.out (by decide)) (fun _ hk => hk.2) (.int .i64 t315)) (fun _ hk => hk.2) (.int .i64 t316)) (fun _ h_ => h_.1)))); (case side2 => exact (Kd.R_reads' HO314.out).2.1); (case side3 => exact Kd.C_below HR0.out (by repeat (first | (with_reducible first | exact HB.out | apply below_alloc | apply pw_below_drewN | apply below_drew1 | refine below_set ?_ GE317.out) | exact HB.out))); (case side4 => exact HC0.out); rintro e w' ⟨rfl, ⟨nd, rfl⟩⟩))
                 go_meet
                 case rel => exact ⟨_, H', ⟨by have := HJ2.out; have := HK2.out; have := HJ8.out; first | omega | exact Nat.le_refl _⟩, ⟨by repeat (first | (with_reducible first | exact HB.out | apply below_alloc | apply pw_below_drewN | apply below_drew1 | refine below_set ?_ GE317.out) | exact HB.out)⟩⟩
                ·replace c44 := Bool.eq_false_iff.mpr c44
                 subst c44
                 have H1 : (none) = some r := by rw [if_neg (show ¬ (false = true) by decide)] at H; exact H
                 clear H
                 have H := H1
                 clear H1
                 exact absurd H (by simp)
              ·rw [if_neg c41] at H
               have c41b0 : decide (0 < (l0.length : Int)) = false := decide_eq_false c41
               have c41b1 : decide (0 < l0.length) = false := decide_eq_false (by omega)
               clear c41
               have H' := Aside0.mk H
               clear H
               go_wp2_with (first | ((with_reducible refine gate_callee (f := 11) rfl ?_); refine goesL_ (some 64) rfl rfl Tryd.func11 (by kernel_rfl) rfl #[.string t309] rfl (by (try simp only [List.map_toArray, List.map_cons, List.map_nil]); first | done | rfl | (simp only [List.length_drop, List.length_take]; rfl)) ?_; (with_reducible refine (tag_Parse.calls kj8 t309 t312 t315 t316 _ A25.out (MaxAt.below HMX.out (by repeat (first | (with_reducible first | exact HB.out | apply below_alloc | apply pw_below_drewN | apply below_drew1) | exact HB.out)))).mono ?_); rintro e w49 ⟨v313, rfl, ho0, hb⟩; refine ⟨_, rfl, ?_⟩; have n0_ := Aside0.mk (Kd.R_lower ho0 (below_size (by repeat (first | (with_reducible first | exact HB.out | apply below_alloc | apply pw_below_drewN | apply below_drew1) | exact HB.out)))); have n1_ := Aside0.mk (below_step (by repeat (first | (with_reducible first | exact HB.out | apply below_alloc | apply pw_below_drewN | apply below_drew1) | exact HB.out)) hb); clear HB; have HO314 := n0_; have HB := n1_; clear n0_ n1_; (try clear hb); (try clear hb2); (try clear hk); (try clear hi); (try clear ho0)) | ((with_reducible refine gate_dst (N := 11) rfl ?_); (try (refine gate_guard (by rfl) ?_; dsimp only)); refine box_event ?hg (N := 11) ?hd (cs := #[.int .i64 0, .int .i64 0]) (t := 26) ?hr ?_; (case hd => rfl); (case hg => rfl); (case hr => first | (go_simp; done) | (go_simp; rfl)); intro gb317 hg w50 hbox hb; have n0_ := Aside0.mk (Kd.R_below (by (with_reducible repeat (first | apply Kd.R_alloc | apply Kd.R_drewN | apply Kd.R_drew)); exact HO314.out) hb); have n1_ := Aside0.mk (below_step (by repeat (first | (with_reducible first | exact HB.out | apply below_alloc | apply pw_below_drewN | apply below_drew1) | exact HB.out)) hb); have n2_ := Aside0.mk (hbox); have n3_ := Aside0.mk ((by rw [hg]; exact (below_size (by repeat (first | (with_reducible first | exact HB.out | apply below_alloc | apply pw_below_drewN | apply below_drew1) | exact HB.out))) : w.heap.size ≤ gb317)); have n4_ := Aside0.mk ((by rw [hg]; exact (below_size (by repeat (first | (with_reducible first | exact HB.out | apply below_alloc | apply pw_below_drewN | apply below_drew1) | exact HB.out))) : w.heap.size ≤ gb317)); clear HO314; clear HB; have HO314 := n0_; have HB := n1_; have BK317 := n2_; have GW317 := n3_; have GE317 := n4_; clear n0_ n1_ n2_ n3_ n4_; clear hb hbox hg; have hcz51_0 : w50.cell? ⟨gb317, 0, none⟩ = some (.int .i64 0) := (blk_cell BK317.out 0).trans rfl; have hcz51_1 : w50.cell? ⟨gb317, 1, none⟩ = some (.int .i64 0) := (blk_cell BK317.out 1).trans rfl; have hfz51_0 := blk_frozen BK317.out 0; have hfz51_1 := blk_frozen BK317.out 1))
               go_meet
               case rel => exact ⟨_, H', ⟨by have := HJ2.out; have := HK2.out; have := HJ8.out; first | omega | exact Nat.le_refl _⟩, ⟨by repeat (first | (with_reducible first | exact HB.out | apply below_alloc | apply pw_below_drewN | apply below_drew1 | refine below_set ?_ GE317.out) | exact HB.out)⟩⟩
            ·rw [if_neg c27] at H
             exact absurd H (by simp)
           ·rw [if_neg c26] at H
            exact absurd H (by simp)
         case rest =>
          clear HC19
          try clear c1
          try clear c2
          try clear p2
          try clear c3
          try clear p3
          try clear q3
          try clear hx3
          try clear c4
          try clear c5
          try clear c6
          try clear p6
          try clear c9
          try clear c10
          try clear c10b0
          try clear c11
          try clear c12
          try clear c12b0
          try clear c13
          try clear c13b0
          try clear c14
          try clear c15
          try clear c15b0
          try clear c15b1
          try clear c16
          try clear c21
          try clear c21b0
          try clear c22
          try clear c22b0
          try clear c22b1
          try clear c23
          try clear c23b0
          try clear c23b1
          try clear c24
          try clear c24b0
          try clear c24b1
          try clear c26
          try clear c26b0
          try clear c26b1
          try clear c27
          try clear c27b0
          try clear c27b1
          try clear c28
          try clear c28b0
          try clear c28b1
          try clear c28b2
          try clear c29
          try clear c29b0
          try clear c29b1
          try clear c30
          try clear c30b0
          try clear c30b1
          try clear p30
          try clear q30
          try clear hx30
          try clear c31
          try clear c31b0
          try clear c33
          try clear c41
          try clear c41b0
          try clear c41b1
          try clear c42
          try clear c42b0
          try clear c44
          try clear hcz36_0
          try clear hcz36_1
          try clear hcz40_0
          try clear hcz40_1
          try clear hcz47_0
          try clear hcz47_1
          try clear hcz51_0
          try clear hcz51_1
          try clear hfz36_0
          try clear hfz36_1
          try clear hfz40_0
          try clear hfz40_1
          try clear hfz47_0
          try clear hfz47_1
          try clear hfz51_0
          try clear hfz51_1
          try clear hx307_0
          try clear hx307_1
          try clear p2
          try clear p307
          try clear q307
          obtain ⟨kq, HA, HJ18, HB⟩ := hcut
          cases kq with
          | zero => exact absurd HA.out (by simp [forebaylaw06_TagBack.j3])
          | succ kj18 =>
           have H := HA.out
           clear HA
           simp only [forebaylaw06_TagBack.j3] at H
           replace H := Option.bind_eq_some_iff.mp H
           obtain ⟨⟨t320, t323, t324⟩, A520, H⟩ := H
           replace H : (if (!(t323 == 0) || (!(t324 == 0))) = true then (if (t320.length : Int) = 0 then (if t323 = 19 then (if t324 ≥ 0 then (if t324 ≤ (a1.size : Int) then ((forebaylaw06_awake.f kj18).bind fun t326 => (some t326)) else (none)) else (none)) else (none)) else (none)) else ((tag_Text.f kj18 t320).bind fun bt327 => (if bt327.2.2 = 0 then (if bt327.2.1 = 0 then (if bt327.1.toList = a1.toList then (if (t320.length : Int) > 0 then ((forebaylaw06_awake.f kj18).bind fun t330 => (some t330)) else (none)) else (none)) else (none)) else (none)))) = some r := H
           have A52 := Aside0.mk A520
           clear A520
           by_cases c53 : (!(t323 == 0) || (!(t324 == 0))) = true
           ·rw [if_pos c53] at H
            have c53b0 : (!(t323 == 0) || (!(t324 == 0))) = true := c53
            clear c53
            by_cases c54 : (t320.length : Int) = 0
            ·rw [if_pos c54] at H
             have c54b0 : ((t320.length : Int) == 0) = true := beq_iff_eq.mpr c54
             have c54b1 : ((t320.length : Int) != 0) = false := bne_eq_false_iff_eq.mpr c54
             clear c54
             by_cases c55 : t323 = 19
             ·rw [if_pos c55] at H
              have c55b0 : (t323 == 19) = true := beq_iff_eq.mpr c55
              have c55b1 : (t323 != 19) = false := bne_eq_false_iff_eq.mpr c55
              clear c55
              by_cases c56 : t324 ≥ 0
              ·rw [if_pos c56] at H
               have c56b0 : decide (0 ≤ t324) = true := decide_eq_true c56
               clear c56
               by_cases c57 : t324 ≤ (a1.size : Int)
               ·rw [if_pos c57] at H
                have c57b0 : decide (t324 ≤ (a1.size : Int)) = true := decide_eq_true c57
                clear c57
                replace H := Option.bind_eq_some_iff.mp H
                obtain ⟨t326, A580, H⟩ := H
                replace H : (some t326) = some r := H
                have A58 := Aside0.mk A580
                clear A580
                obtain rfl := Option.some.inj H
                go_wp2_with (first | ((with_reducible refine gate_callee (f := 11) rfl ?_); refine goesL_ (some 100) rfl rfl Tryd.func11 (by kernel_rfl) rfl #[.string a1] rfl (by (try simp only [List.map_toArray, List.map_cons, List.map_nil]); first | done | rfl | (simp only [List.length_drop, List.length_take]; rfl)) ?_; (with_reducible refine (tag_Parse.calls kj18 a1 t320 t323 t324 _ A52.out (MaxAt.below HMX.out (by repeat (first | (with_reducible first | exact HB.out | apply below_alloc | apply pw_below_drewN | apply below_drew1) | exact HB.out)))).mono ?_); rintro e w59 ⟨v321, rfl, ho0, hb⟩; refine ⟨_, rfl, ?_⟩; have n0_ := Aside0.mk (Kd.R_lower ho0 (below_size (by repeat (first | (with_reducible first | exact HB.out | apply below_alloc | apply pw_below_drewN | apply below_drew1) | exact HB.out)))); have n1_ := Aside0.mk (below_step (by repeat (first | (with_reducible first | exact HB.out | apply below_alloc | apply pw_below_drewN | apply below_drew1) | exact HB.out)) hb); clear HB; have HO322 := n0_; have HB := n1_; clear n0_ n1_; (try clear hb); (try clear hb2); (try clear hk); (try clear hi); (try clear ho0)) | ((with_reducible refine gate_dst (N := 13) rfl ?_); (try (refine gate_guard (by rfl) ?_; dsimp only)); refine box_event ?hg (N := 13) ?hd (cs := #[.int .i64 0, .int .i64 0]) (t := 26) ?hr ?_; (case hd => rfl); (case hg => rfl); (case hr => first | (go_simp; done) | (go_simp; rfl)); intro gb325 hg w60 hbox hb; have n0_ := Aside0.mk (Kd.R_below (by (with_reducible repeat (first | apply Kd.R_alloc | apply Kd.R_drewN | apply Kd.R_drew)); exact HO322.out) hb); have n1_ := Aside0.mk (below_step (by repeat (first | (with_reducible first | exact HB.out | apply below_alloc | apply pw_below_drewN | apply below_drew1) | exact HB.out)) hb); have n2_ := Aside0.mk (hbox); have n3_ := Aside0.mk ((by rw [hg]; exact (below_size (by repeat (first | (with_reducible first | exact HB.out | apply below_alloc | apply pw_below_drewN | apply below_drew1) | exact HB.out))) : w.heap.size ≤ gb325)); have n4_ := Aside0.mk ((by rw [hg]; exact (below_size (by repeat (first | (with_reducible first | exact HB.out | apply below_alloc | apply pw_below_drewN | apply below_drew1) | exact HB.out))) : w.heap.size ≤ gb325)); clear HO322; clear HB; have HO322 := n0_; have HB := n1_; have BK325 := n2_; have GW325 := n3_; have GE325 := n4_; clear n0_ n1_ n2_ n3_ n4_; clear hb hbox hg; have hcz61_0 : w60.cell? ⟨gb325, 0, none⟩ = some (.int .i64 0) := (blk_cell BK325.out 0).trans rfl; have hcz61_1 : w60.cell? ⟨gb325, 1, none⟩ = some (.int .i64 0) := (blk_cell BK325.out 1).trans rfl; have hfz61_0 := blk_frozen BK325.out 0; have hfz61_1 := blk_frozen BK325.out 1; obtain ⟨Ao62, co62, eo62⟩ := Kd.R_slice HO322.out; subst eo62) | (go_at_call 10; (with_reducible refine (forebaylaw06_awake.calls kj18  t326 _ A58.out (MaxAt.below HMX.out (by repeat (first | (with_reducible first | exact HB.out | apply below_alloc | apply pw_below_drewN | apply below_drew1 | refine below_set ?_ GE325.out) | exact HB.out)))).mono ?_); rintro e w63 ⟨rfl, hb⟩; have n0_ := Aside0.mk (Kd.R_below (by (with_reducible repeat (first | apply Kd.R_alloc | apply Kd.R_drewN | apply Kd.R_drew)); exact (Kd.R_mono (Kd.R_far (p := ⟨gb325, 1, none⟩) (Kd.R_far (p := ⟨gb325, 0, none⟩) (Kd.R_types HO322.out BK325.out (by decide)) (fun _ hk => hk.2) (.int .i64 t323)) (fun _ hk => hk.2) (.int .i64 t324)) (fun _ h_ => h_.1))) hb); have n1_ := Aside0.mk (blk_below (g := gb325) (o := .cells #[.int .i64 t323, .int .i64 t324] 26 (0, 0)) (by (with_reducible repeat (first | refine blk_drewN ?_ _ | refine blk_drew ?_ | refine blk_alloc ?_ _)); refine blk_put (cs := #[.int .i64 t323, .int .i64 0]) ?_ 1 _ rfl; (with_reducible repeat (first | refine blk_drewN ?_ _ | refine blk_drew ?_ | refine blk_alloc ?_ _)); refine blk_put (cs := #[.int .i64 0, .int .i64 0]) ?_ 0 _ rfl; (with_reducible repeat (first | refine blk_drewN ?_ _ | refine blk_drew ?_ | refine blk_alloc ?_ _)); exact BK325.out) hb); have n2_ := Aside0.mk (below_step (by repeat (first | (with_reducible first | exact HB.out | apply below_alloc | apply pw_below_drewN | apply below_drew1 | refine below_set ?_ GE325.out) | exact HB.out)) hb); clear HO322; clear BK325; clear HB; have HO322 := n0_; have BK325 := n1_; have HB := n2_; clear n0_ n1_ n2_; (try clear hb); (try clear hb2); (try clear hk); (try clear hi)))
                go_ret
                exact ⟨by first | rfl | (simp [errW_none, errW_some] <;> rfl) | (simp [*, errW_none, errW_some] <;> rfl), by repeat (first | (with_reducible first | exact HB.out | apply below_alloc | apply pw_below_drewN | apply below_drew1 | refine below_set ?_ GE325.out) | exact HB.out)⟩
               ·rw [if_neg c57] at H
                exact absurd H (by simp)
              ·rw [if_neg c56] at H
               exact absurd H (by simp)
             ·rw [if_neg c55] at H
              exact absurd H (by simp)
            ·rw [if_neg c54] at H
             exact absurd H (by simp)
           ·rw [if_neg c53] at H
            have c53b0 : (!(t323 == 0) || (!(t324 == 0))) = false := by simpa using c53
            clear c53
            replace H := Option.bind_eq_some_iff.mp H
            obtain ⟨⟨t327, t328, t329⟩, A640, H⟩ := H
            replace H : (if t329 = 0 then (if t328 = 0 then (if t327.toList = a1.toList then (if (t320.length : Int) > 0 then ((forebaylaw06_awake.f kj18).bind fun t330 => (some t330)) else (none)) else (none)) else (none)) else (none)) = some r := H
            have A64 := Aside0.mk A640
            clear A640
            by_cases c65 : t329 = 0
            ·rw [if_pos c65] at H
             have c65b0 : (t329 == 0) = true := beq_iff_eq.mpr c65
             have c65b1 : (t329 != 0) = false := bne_eq_false_iff_eq.mpr c65
             clear c65
             by_cases c66 : t328 = 0
             ·rw [if_pos c66] at H
              have c66b0 : (t328 == 0) = true := beq_iff_eq.mpr c66
              have c66b1 : (t328 != 0) = false := bne_eq_false_iff_eq.mpr c66
              clear c66
              by_cases c67 : t327.toList = a1.toList
              ·rw [if_pos c67] at H
               have c67b0 : (t327.toList == a1.toList) = true := beq_iff_eq.mpr c67
               have c67b1 : (t327.toList != a1.toList) = false := bne_eq_false_iff_eq.mpr c67
               clear c67
               by_cases c68 : (t320.length : Int) > 0
               ·rw [if_pos c68] at H
                have c68b0 : decide (0 < (t320.length : Int)) = true := decide_eq_true c68
                have c68b1 : decide (0 < t320.length) = true := decide_eq_true (by omega)
                clear c68
                replace H := Option.bind_eq_some_iff.mp H
                obtain ⟨t330, A690, H⟩ := H
                replace H : (some t330) = some r := H
                have A69 := Aside0.mk A690
                clear A690
                obtain rfl := Option.some.inj H
                go_wp2_with (first | ((with_reducible refine gate_callee (f := 11) rfl ?_); refine goesL_ (some 100) rfl rfl Tryd.func11 (by kernel_rfl) rfl #[.string a1] rfl (by (try simp only [List.map_toArray, List.map_cons, List.map_nil]); first | done | rfl | (simp only [List.length_drop, List.length_take]; rfl)) ?_; (with_reducible refine (tag_Parse.calls kj18 a1 t320 t323 t324 _ A52.out (MaxAt.below HMX.out (by repeat (first | (with_reducible first | exact HB.out | apply below_alloc | apply pw_below_drewN | apply below_drew1) | exact HB.out)))).mono ?_); rintro e w70 ⟨v321, rfl, ho0, hb⟩; refine ⟨_, rfl, ?_⟩; have n0_ := Aside0.mk (Kd.R_lower ho0 (below_size (by repeat (first | (with_reducible first | exact HB.out | apply below_alloc | apply pw_below_drewN | apply below_drew1) | exact HB.out)))); have n1_ := Aside0.mk (below_step (by repeat (first | (with_reducible first | exact HB.out | apply below_alloc | apply pw_below_drewN | apply below_drew1) | exact HB.out)) hb); clear HB; have HO322 := n0_; have HB := n1_; clear n0_ n1_; (try clear hb); (try clear hb2); (try clear hk); (try clear hi); (try clear ho0)) | ((with_reducible refine gate_dst (N := 13) rfl ?_); (try (refine gate_guard (by rfl) ?_; dsimp only)); refine box_event ?hg (N := 13) ?hd (cs := #[.int .i64 0, .int .i64 0]) (t := 26) ?hr ?_; (case hd => rfl); (case hg => rfl); (case hr => first | (go_simp; done) | (go_simp; rfl)); intro gb325 hg w71 hbox hb; have n0_ := Aside0.mk (Kd.R_below (by (with_reducible repeat (first | apply Kd.R_alloc | apply Kd.R_drewN | apply Kd.R_drew)); exact HO322.out) hb); have n1_ := Aside0.mk (below_step (by repeat (first | (with_reducible first | exact HB.out | apply below_alloc | apply pw_below_drewN | apply below_drew1) | exact HB.out)) hb); have n2_ := Aside0.mk (hbox); have n3_ := Aside0.mk ((by rw [hg]; exact (below_size (by repeat (first | (with_reducible first | exact HB.out | apply below_alloc | apply pw_below_drewN | apply below_drew1) | exact HB.out))) : w.heap.size ≤ gb325)); have n4_ := Aside0.mk ((by rw [hg]; exact (below_size (by repeat (first | (with_reducible first | exact HB.out | apply below_alloc | apply pw_below_drewN | apply below_drew1) | exact HB.out))) : w.heap.size ≤ gb325)); clear HO322; clear HB; have HO322 := n0_; have HB := n1_; have BK325 := n2_; have GW325 := n3_; have GE325 := n4_; clear n0_ n1_ n2_ n3_ n4_; clear hb hbox hg; have hcz72_0 : w71.cell? ⟨gb325, 0, none⟩ = some (.int .i64 0) := (blk_cell BK325.out 0).trans rfl; have hcz72_1 : w71.cell? ⟨gb325, 1, none⟩ = some (.int .i64 0) := (blk_cell BK325.out 1).trans rfl; have hfz72_0 := blk_frozen BK325.out 0; have hfz72_1 := blk_frozen BK325.out 1; obtain ⟨Ao73, co73, eo73⟩ := Kd.R_slice HO322.out; subst eo73) | ((with_reducible refine gate_callee (f := 22) rfl ?_); refine goesL_ (some 131) rfl rfl Tryd.func22 (by kernel_rfl) rfl #[.slice Ao73 t320.length co73] rfl (by (try simp only [List.map_toArray, List.map_cons, List.map_nil]); first | done | rfl | (simp only [List.length_drop, List.length_take]; rfl)) ?_; (with_reducible refine (tag_Text.calls kj18 _ _ t320 t327 t328 t329 _ ?side1 ?side2 A64.out).mono ?_); (case side1 => refine (Kd.R_reads' (e := 34) (base := w.heap.size) (ok := fun k_ => True) (n := t320.length) (c := co73) ?_).2.2; exact (by (with_reducible repeat (first | apply Kd.R_alloc | apply Kd.R_drewN | apply Kd.R_drew)); exact (Kd.R_mono (Kd.R_far (p := ⟨gb325, 1, none⟩) (Kd.R_far (p := ⟨gb325, 0, none⟩) (Kd.R_types HO322.out BK325.out (by decide)) (fun _ hk => hk.2) (.int .i64 t323)) (fun _ hk => hk.2) (.int .i64 t324)) (fun _ h_ => h_.1)))); (case side2 => exact (Kd.R_reads' HO322.out).2.1); rintro e w74 ⟨rfl, hb⟩; refine ⟨_, rfl, ?_⟩; have n0_ := Aside0.mk (Kd.R_below (by (with_reducible repeat (first | apply Kd.R_alloc | apply Kd.R_drewN | apply Kd.R_drew)); exact (Kd.R_mono (Kd.R_far (p := ⟨gb325, 1, none⟩) (Kd.R_far (p := ⟨gb325, 0, none⟩) (Kd.R_types HO322.out BK325.out (by decide)) (fun _ hk => hk.2) (.int .i64 t323)) (fun _ hk => hk.2) (.int .i64 t324)) (fun _ h_ => h_.1))) hb); have n1_ := Aside0.mk (blk_below (g := gb325) (o := .cells #[.int .i64 t323, .int .i64 t324] 26 (0, 0)) (by (with_reducible repeat (first | refine blk_drewN ?_ _ | refine blk_drew ?_ | refine blk_alloc ?_ _)); refine blk_put (cs := #[.int .i64 t323, .int .i64 0]) ?_ 1 _ rfl; (with_reducible repeat (first | refine blk_drewN ?_ _ | refine blk_drew ?_ | refine blk_alloc ?_ _)); refine blk_put (cs := #[.int .i64 0, .int .i64 0]) ?_ 0 _ rfl; (with_reducible repeat (first | refine blk_drewN ?_ _ | refine blk_drew ?_ | refine blk_alloc ?_ _)); exact BK325.out) hb); have n2_ := Aside0.mk (below_step (by repeat (first | (with_reducible first | exact HB.out | apply below_alloc | apply pw_below_drewN | apply below_drew1 | refine below_set ?_ GE325.out) | exact HB.out)) hb); clear HO322; clear BK325; clear HB; have HO322 := n0_; have BK325 := n1_; have HB := n2_; clear n0_ n1_ n2_; (try clear hb); (try clear hb2); (try clear hk); (try clear hi)) | (go_at_call 10; (with_reducible refine (forebaylaw06_awake.calls kj18  t330 _ A69.out (MaxAt.below HMX.out (by repeat (first | (with_reducible first | exact HB.out | apply below_alloc | apply pw_below_drewN | apply below_drew1 | refine below_set ?_ GE325.out) | exact HB.out)))).mono ?_); rintro e w75 ⟨rfl, hb⟩; have n0_ := Aside0.mk (Kd.R_below (by (with_reducible repeat (first | apply Kd.R_alloc | apply Kd.R_drewN | apply Kd.R_drew)); exact HO322.out) hb); have n1_ := Aside0.mk (blk_below (g := gb325) (o := .cells #[.int .i64 t323, .int .i64 t324] 26 (0, 0)) (by (with_reducible repeat (first | refine blk_drewN ?_ _ | refine blk_drew ?_ | refine blk_alloc ?_ _)); exact BK325.out) hb); have n2_ := Aside0.mk (below_step (by repeat (first | (with_reducible first | exact HB.out | apply below_alloc | apply pw_below_drewN | apply below_drew1 | refine below_set ?_ GE325.out) | exact HB.out)) hb); clear HO322; clear BK325; clear HB; have HO322 := n0_; have BK325 := n1_; have HB := n2_; clear n0_ n1_ n2_; (try clear hb); (try clear hb2); (try clear hk); (try clear hi)))
                go_ret
                exact ⟨by first | rfl | (simp [errW_none, errW_some] <;> rfl) | (simp [*, errW_none, errW_some] <;> rfl), by repeat (first | (with_reducible first | exact HB.out | apply below_alloc | apply pw_below_drewN | apply below_drew1 | refine below_set ?_ GE325.out) | exact HB.out)⟩
               ·rw [if_neg c68] at H
                exact absurd H (by simp)
              ·rw [if_neg c67] at H
               exact absurd H (by simp)
             ·rw [if_neg c66] at H
              exact absurd H (by simp)
            ·rw [if_neg c65] at H
             exact absurd H (by simp)
end Go.Proofs.YthflkmgcifccjaaDoor.PE
