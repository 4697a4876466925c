/- TagOrder: of two tags that are not one just one is ahead, and what is ahead of one that is ahead is so, too; for any three tags. The card: the listed tables are tied to the program's text; no other condition. -/
import Derived.Test.YthflkmgcifccjaaDoorZSBase
import Derived.ProofKit
import Derived.ShutString
import Derived.ChangeOld
import Derived.SizedLaws
import Derived.ChangeSlices
import Derived.SliceStrings
import Derived.Test.YthflkmgcifccjaaDoorZSLawTag
import Derived.Test.YthflkmgcifccjaaDoorZSLawCard
import Derived.Test.YthflkmgcifccjaaDoorZSRTagL
import Derived.Test.YthflkmgcifccjaaDoorZSPEx3
import Derived.Test.YthflkmgcifccjaaDoorZSPEx4
import Derived.Test.YthflkmgcifccjaaDoorZSPEx5
namespace Go.Proofs.YthflkmgcifccjaaDoor
open Go.RowKit Go.Proofs.YthflkmgcifccjaaDoorW.PrintWords Go.Proofs.YthflkmgcifccjaaDoorW.PrintLast Go.Proofs.YthflkmgcifccjaaDoorW.PrintMore Go.Proofs.YthflkmgcifccjaaDoor.PE
set_option linter.unusedVariables false
set_option linter.unusedSimpArgs false
theorem c3_of {W : World} {g t : Nat} {x y z : S34} (h : W.heap[g]? = some (.cells #[.string x.f0, .string x.f1, .string y.f0, .string y.f1, .string z.f0, .string z.f1] t (0, 0))) : k34.C W (some ⟨g, 0, none⟩) 3 [x, y, z] := by
 refine ⟨rfl, by decide, fun _ => ⟨_, rfl, fun j p hj => ?_⟩⟩
 have hc := fun i => blk_cell h i
 refine ⟨[.string p.f0, .string p.f1], rfl, k34_mk W p, fun i u hi => ?_⟩
 rw [addr_add]
 show W.cell? ⟨g, j * 2 + i, none⟩ = some u
 match j, hj with
 | 0, hj =>
  injection hj with hj
  subst hj
  match i, hi with
  | 0, hi => injection hi with hi; subst hi; exact (hc 0).trans rfl
  | 1, hi => injection hi with hi; subst hi; exact (hc 1).trans rfl
 | 1, hj =>
  injection hj with hj
  subst hj
  match i, hi with
  | 0, hi => injection hi with hi; subst hi; exact (hc 2).trans rfl
  | 1, hi => injection hi with hi; subst hi; exact (hc 3).trans rfl
 | 2, hj =>
  injection hj with hj
  subst hj
  match i, hi with
  | 0, hi => injection hi with hi; subst hi; exact (hc 4).trans rfl
  | 1, hi => injection hi with hi; subst hi; exact (hc 5).trans rfl
attribute [local go_sem] eqA34
set_option maxHeartbeats 400000 in
set_option maxRecDepth 100000 in
theorem tagOrder_walk (x y z : S34) (w : World) (hM : MaxAt w) (hin : tagIn x = true ∧ tagIn y = true ∧ tagIn z = true) :
  Calls Tryd.prog 7 #[.agg #[.string x.f0, .string x.f1, .string y.f0, .string y.f1, .string z.f0, .string z.f1]] w fun e w' => e = .returned (.bool true) ∧ Below w.heap.size w w' := by
 obtain ⟨p, hp, _⟩ := few6_ev [x, y, z]
 obtain ⟨kf, hkf⟩ := Ev.rounds hp
 obtain ⟨ka, hka⟩ := Ev.rounds awake06_ev
 have HKF := Aside0.mk hkf
 have HKA := Aside0.mk hka
 have HMX := Aside0.mk hM
 have HB := Aside0.mk (Below.refl w.heap.size w)
 have hu := tNorm_up [x, y, z]
 have hlen : 1 ≤ (tNorm [x, y, z]).length ∧ (tNorm [x, y, z]).length ≤ 3 := ⟨List.length_pos_of_mem ((tNorm_mem _ x).2 (by simp)), tNorm_len6 [x, y, z]⟩
 have hki := tagis_ev (tNorm [x, y, z]) (by omega)
 rw [(tIs_iff _).2 hu] at hki
 obtain ⟨ki, hki⟩ := Ev.rounds hki
 have HKI := Aside0.mk hki
 have HLN := Aside0.mk hlen
 clear hkf hka hM hp hu hlen hki
 go_enter Tryd.func7, Tryd.ntmps7
 go_wp2_with (first | ((with_reducible refine gate_dst (N := 1) rfl ?_); refine box_event ?hg (N := 1) ?hd (cs := #[.string x.f0, .string x.f1, .string y.f0, .string y.f1, .string z.f0, .string z.f1]) (t := 40) ?hr ?_; (case hd => rfl); (case hg => rfl); (case hr => first | (go_simp; done) | (go_simp; rfl)); intro g1 hgg1 w1 hbox hb; have GEg1 := Aside0.mk hgg1; clear hgg1; have n0 := Aside0.mk (below_step HB.out hb); clear HB; have HB := n0; clear n0; have BK1 := Aside0.mk hbox; clear hbox; (try clear zBK1_0 fBK1_0); have zBK1_0 : w1.cell? ⟨g1, 0, none⟩ = some (.string x.f0) := (blk_cell BK1.out 0).trans rfl; have fBK1_0 := blk_frozen BK1.out 0; (try clear zBK1_1 fBK1_1); have zBK1_1 : w1.cell? ⟨g1, 1, none⟩ = some (.string x.f1) := (blk_cell BK1.out 1).trans rfl; have fBK1_1 := blk_frozen BK1.out 1; (try clear zBK1_2 fBK1_2); have zBK1_2 : w1.cell? ⟨g1, 2, none⟩ = some (.string y.f0) := (blk_cell BK1.out 2).trans rfl; have fBK1_2 := blk_frozen BK1.out 2; (try clear zBK1_3 fBK1_3); have zBK1_3 : w1.cell? ⟨g1, 3, none⟩ = some (.string y.f1) := (blk_cell BK1.out 3).trans rfl; have fBK1_3 := blk_frozen BK1.out 3; (try clear zBK1_4 fBK1_4); have zBK1_4 : w1.cell? ⟨g1, 4, none⟩ = some (.string z.f0) := (blk_cell BK1.out 4).trans rfl; have fBK1_4 := blk_frozen BK1.out 4; (try clear zBK1_5 fBK1_5); have zBK1_5 : w1.cell? ⟨g1, 5, none⟩ = some (.string z.f1) := (blk_cell BK1.out 5).trans rfl; have fBK1_5 := blk_frozen BK1.out 5; clear hb))
 refine (forebaylaw06_Few.calls kf (some ⟨g1, 0, none⟩) 3 [x, y, z] p w1 (c3_of BK1.out) (Nat.le_refl 3) HKF.out).mono ?_
 rintro e w2 ⟨rfl, hdr⟩
 have hb : Below w1.heap.size w1 w2 := by
  obtain ⟨n, rfl⟩ := hdr
  apply pw_below_drewN
  exact Below.refl _ _
 clear hdr
 have n0 := Aside0.mk (below_step HB.out hb)
 clear HB
 have HB := n0
 clear n0
 have n0 := Aside0.mk (blk_below BK1.out hb)
 clear BK1
 have BK1 := n0
 clear n0
 (try clear zBK1_0 fBK1_0)
 have zBK1_0 : w2.cell? ⟨g1, 0, none⟩ = some (.string x.f0) := (blk_cell BK1.out 0).trans rfl
 have fBK1_0 := blk_frozen BK1.out 0
 (try clear zBK1_1 fBK1_1)
 have zBK1_1 : w2.cell? ⟨g1, 1, none⟩ = some (.string x.f1) := (blk_cell BK1.out 1).trans rfl
 have fBK1_1 := blk_frozen BK1.out 1
 (try clear zBK1_2 fBK1_2)
 have zBK1_2 : w2.cell? ⟨g1, 2, none⟩ = some (.string y.f0) := (blk_cell BK1.out 2).trans rfl
 have fBK1_2 := blk_frozen BK1.out 2
 (try clear zBK1_3 fBK1_3)
 have zBK1_3 : w2.cell? ⟨g1, 3, none⟩ = some (.string y.f1) := (blk_cell BK1.out 3).trans rfl
 have fBK1_3 := blk_frozen BK1.out 3
 (try clear zBK1_4 fBK1_4)
 have zBK1_4 : w2.cell? ⟨g1, 4, none⟩ = some (.string z.f0) := (blk_cell BK1.out 4).trans rfl
 have fBK1_4 := blk_frozen BK1.out 4
 (try clear zBK1_5 fBK1_5)
 have zBK1_5 : w2.cell? ⟨g1, 5, none⟩ = some (.string z.f1) := (blk_cell BK1.out 5).trans rfl
 have fBK1_5 := blk_frozen BK1.out 5
 clear hb
 cases p with
 | false =>
  go_wp2_with fail
  refine (forebaylaw06_awake.calls ka true w2 HKA.out (MaxAt.below HMX.out HB.out)).mono ?_
  rintro e wd ⟨rfl, hb⟩
  have HB3 := Aside0.mk (below_step HB.out hb)
  clear hb
  go_wp2
  go_ret
  exact ⟨rfl, HB3.out⟩
 | true =>
  go_wp2_with fail
  refine (tag_Less.calls x.f0 x.f1 y.f0 y.f1 (tLt x y) w2 (tagless_f x y)).mono ?_
  rintro e w4 ⟨rfl, hb⟩
  have n0 := Aside0.mk (below_step HB.out hb)
  clear HB
  have HB := n0
  clear n0
  have n0 := Aside0.mk (blk_below BK1.out hb)
  clear BK1
  have BK1 := n0
  clear n0
  (try clear zBK1_0 fBK1_0)
  have zBK1_0 : w4.cell? ⟨g1, 0, none⟩ = some (.string x.f0) := (blk_cell BK1.out 0).trans rfl
  have fBK1_0 := blk_frozen BK1.out 0
  (try clear zBK1_1 fBK1_1)
  have zBK1_1 : w4.cell? ⟨g1, 1, none⟩ = some (.string x.f1) := (blk_cell BK1.out 1).trans rfl
  have fBK1_1 := blk_frozen BK1.out 1
  (try clear zBK1_2 fBK1_2)
  have zBK1_2 : w4.cell? ⟨g1, 2, none⟩ = some (.string y.f0) := (blk_cell BK1.out 2).trans rfl
  have fBK1_2 := blk_frozen BK1.out 2
  (try clear zBK1_3 fBK1_3)
  have zBK1_3 : w4.cell? ⟨g1, 3, none⟩ = some (.string y.f1) := (blk_cell BK1.out 3).trans rfl
  have fBK1_3 := blk_frozen BK1.out 3
  (try clear zBK1_4 fBK1_4)
  have zBK1_4 : w4.cell? ⟨g1, 4, none⟩ = some (.string z.f0) := (blk_cell BK1.out 4).trans rfl
  have fBK1_4 := blk_frozen BK1.out 4
  (try clear zBK1_5 fBK1_5)
  have zBK1_5 : w4.cell? ⟨g1, 5, none⟩ = some (.string z.f1) := (blk_cell BK1.out 5).trans rfl
  have fBK1_5 := blk_frozen BK1.out 5
  clear hb
  go_wp2_with fail
  refine (tag_Less.calls y.f0 y.f1 x.f0 x.f1 (tLt y x) w4 (tagless_f y x)).mono ?_
  rintro e w5 ⟨rfl, hb⟩
  have n0 := Aside0.mk (below_step HB.out hb)
  clear HB
  have HB := n0
  clear n0
  have n0 := Aside0.mk (blk_below BK1.out hb)
  clear BK1
  have BK1 := n0
  clear n0
  (try clear zBK1_0 fBK1_0)
  have zBK1_0 : w5.cell? ⟨g1, 0, none⟩ = some (.string x.f0) := (blk_cell BK1.out 0).trans rfl
  have fBK1_0 := blk_frozen BK1.out 0
  (try clear zBK1_1 fBK1_1)
  have zBK1_1 : w5.cell? ⟨g1, 1, none⟩ = some (.string x.f1) := (blk_cell BK1.out 1).trans rfl
  have fBK1_1 := blk_frozen BK1.out 1
  (try clear zBK1_2 fBK1_2)
  have zBK1_2 : w5.cell? ⟨g1, 2, none⟩ = some (.string y.f0) := (blk_cell BK1.out 2).trans rfl
  have fBK1_2 := blk_frozen BK1.out 2
  (try clear zBK1_3 fBK1_3)
  have zBK1_3 : w5.cell? ⟨g1, 3, none⟩ = some (.string y.f1) := (blk_cell BK1.out 3).trans rfl
  have fBK1_3 := blk_frozen BK1.out 3
  (try clear zBK1_4 fBK1_4)
  have zBK1_4 : w5.cell? ⟨g1, 4, none⟩ = some (.string z.f0) := (blk_cell BK1.out 4).trans rfl
  have fBK1_4 := blk_frozen BK1.out 4
  (try clear zBK1_5 fBK1_5)
  have zBK1_5 : w5.cell? ⟨g1, 5, none⟩ = some (.string z.f1) := (blk_cell BK1.out 5).trans rfl
  have fBK1_5 := blk_frozen BK1.out 5
  clear hb
  have HAS : Aside0 (tLt x y = true → tLt y x = false) := ⟨tLt_asym⟩
  have HTR : Aside0 (tLt x y = false → tLt y x = false → x = y) := ⟨tLt_tri⟩
  have HNE : Aside0 (tLt x y = true ∨ tLt y x = true → ((x.f0.toList == y.f0.toList) && (x.f1.toList == y.f1.toList)) = false) := ⟨fun h => by
   refine Bool.eq_false_iff.mpr fun h2 => ?_
   have e : x = y := tEq_iff.1 h2
   subst e
   rw [tLt_irr] at h
   exact h.elim (fun h => by cases h) (fun h => by cases h)⟩
  have HTT : Aside0 (tLt x y = true → tLt y z = true → tLt x z = true) := ⟨tLt_trans⟩
  have HXX : Aside0 (tag_Less.f x.f0 x.f1 x.f0 x.f1 = some false) := ⟨by rw [tagless_f, tLt_irr]⟩
  have HYZ := Aside0.mk (tagless_f y z)
  have HXZ := Aside0.mk (tagless_f x z)
  generalize tLt x y = a at HAS HTR HNE HTT ⊢
  generalize tLt y x = b at HAS HTR HNE ⊢
  cases a with
  | true =>
   obtain rfl := HAS.out rfl
   have hne := HNE.out (.inl rfl)
   cases h0 : (x.f0.toList == y.f0.toList) with
   | false =>
    clear hne
    go_wp2_with fail
    refine (tag_Less.calls x.f0 x.f1 x.f0 x.f1 false w5 HXX.out).mono ?_
    rintro e w6 ⟨rfl, hb⟩
    have n0 := Aside0.mk (below_step HB.out hb)
    clear HB
    have HB := n0
    clear n0
    have n0 := Aside0.mk (blk_below BK1.out hb)
    clear BK1
    have BK1 := n0
    clear n0
    (try clear zBK1_0 fBK1_0)
    have zBK1_0 : w6.cell? ⟨g1, 0, none⟩ = some (.string x.f0) := (blk_cell BK1.out 0).trans rfl
    have fBK1_0 := blk_frozen BK1.out 0
    (try clear zBK1_1 fBK1_1)
    have zBK1_1 : w6.cell? ⟨g1, 1, none⟩ = some (.string x.f1) := (blk_cell BK1.out 1).trans rfl
    have fBK1_1 := blk_frozen BK1.out 1
    (try clear zBK1_2 fBK1_2)
    have zBK1_2 : w6.cell? ⟨g1, 2, none⟩ = some (.string y.f0) := (blk_cell BK1.out 2).trans rfl
    have fBK1_2 := blk_frozen BK1.out 2
    (try clear zBK1_3 fBK1_3)
    have zBK1_3 : w6.cell? ⟨g1, 3, none⟩ = some (.string y.f1) := (blk_cell BK1.out 3).trans rfl
    have fBK1_3 := blk_frozen BK1.out 3
    (try clear zBK1_4 fBK1_4)
    have zBK1_4 : w6.cell? ⟨g1, 4, none⟩ = some (.string z.f0) := (blk_cell BK1.out 4).trans rfl
    have fBK1_4 := blk_frozen BK1.out 4
    (try clear zBK1_5 fBK1_5)
    have zBK1_5 : w6.cell? ⟨g1, 5, none⟩ = some (.string z.f1) := (blk_cell BK1.out 5).trans rfl
    have fBK1_5 := blk_frozen BK1.out 5
    clear hb
    go_wp2_with fail
    refine (tag_Less.calls y.f0 y.f1 z.f0 z.f1 (tLt y z) w6 HYZ.out).mono ?_
    rintro e w7 ⟨rfl, hb⟩
    have n0 := Aside0.mk (below_step HB.out hb)
    clear HB
    have HB := n0
    clear n0
    have n0 := Aside0.mk (blk_below BK1.out hb)
    clear BK1
    have BK1 := n0
    clear n0
    (try clear zBK1_0 fBK1_0)
    have zBK1_0 : w7.cell? ⟨g1, 0, none⟩ = some (.string x.f0) := (blk_cell BK1.out 0).trans rfl
    have fBK1_0 := blk_frozen BK1.out 0
    (try clear zBK1_1 fBK1_1)
    have zBK1_1 : w7.cell? ⟨g1, 1, none⟩ = some (.string x.f1) := (blk_cell BK1.out 1).trans rfl
    have fBK1_1 := blk_frozen BK1.out 1
    (try clear zBK1_2 fBK1_2)
    have zBK1_2 : w7.cell? ⟨g1, 2, none⟩ = some (.string y.f0) := (blk_cell BK1.out 2).trans rfl
    have fBK1_2 := blk_frozen BK1.out 2
    (try clear zBK1_3 fBK1_3)
    have zBK1_3 : w7.cell? ⟨g1, 3, none⟩ = some (.string y.f1) := (blk_cell BK1.out 3).trans rfl
    have fBK1_3 := blk_frozen BK1.out 3
    (try clear zBK1_4 fBK1_4)
    have zBK1_4 : w7.cell? ⟨g1, 4, none⟩ = some (.string z.f0) := (blk_cell BK1.out 4).trans rfl
    have fBK1_4 := blk_frozen BK1.out 4
    (try clear zBK1_5 fBK1_5)
    have zBK1_5 : w7.cell? ⟨g1, 5, none⟩ = some (.string z.f1) := (blk_cell BK1.out 5).trans rfl
    have fBK1_5 := blk_frozen BK1.out 5
    clear hb
    cases hyz : tLt y z with
    | true =>
     have hxz := HTT.out (by trivial) hyz
     go_wp2_with fail
     refine (tag_Less.calls x.f0 x.f1 z.f0 z.f1 true w7 (HXZ.out.trans (congrArg some hxz))).mono ?_
     rintro e w8 ⟨rfl, hb⟩
     have n0 := Aside0.mk (below_step HB.out hb)
     clear HB
     have HB := n0
     clear n0
     have n0 := Aside0.mk (blk_below BK1.out hb)
     clear BK1
     have BK1 := n0
     clear n0
     (try clear zBK1_0 fBK1_0)
     have zBK1_0 : w8.cell? ⟨g1, 0, none⟩ = some (.string x.f0) := (blk_cell BK1.out 0).trans rfl
     have fBK1_0 := blk_frozen BK1.out 0
     (try clear zBK1_1 fBK1_1)
     have zBK1_1 : w8.cell? ⟨g1, 1, none⟩ = some (.string x.f1) := (blk_cell BK1.out 1).trans rfl
     have fBK1_1 := blk_frozen BK1.out 1
     (try clear zBK1_2 fBK1_2)
     have zBK1_2 : w8.cell? ⟨g1, 2, none⟩ = some (.string y.f0) := (blk_cell BK1.out 2).trans rfl
     have fBK1_2 := blk_frozen BK1.out 2
     (try clear zBK1_3 fBK1_3)
     have zBK1_3 : w8.cell? ⟨g1, 3, none⟩ = some (.string y.f1) := (blk_cell BK1.out 3).trans rfl
     have fBK1_3 := blk_frozen BK1.out 3
     (try clear zBK1_4 fBK1_4)
     have zBK1_4 : w8.cell? ⟨g1, 4, none⟩ = some (.string z.f0) := (blk_cell BK1.out 4).trans rfl
     have fBK1_4 := blk_frozen BK1.out 4
     (try clear zBK1_5 fBK1_5)
     have zBK1_5 : w8.cell? ⟨g1, 5, none⟩ = some (.string z.f1) := (blk_cell BK1.out 5).trans rfl
     have fBK1_5 := blk_frozen BK1.out 5
     clear hb
     go_wp2_with fail
     refine (tag_Normal.calls (some ⟨g1, 0, none⟩) 3 [x, y, z] (tNorm [x, y, z]) w8 (c3_of BK1.out) (Nat.le_refl 3) (if_pos (show 3 < 4398046511104 by decide))).mono ?_
     rintro e wn ⟨vn, rfl, hv, hb⟩
     obtain ⟨An, cn, rfl⟩ := Kd.V_slice hv
     obtain ⟨_, ln, qn⟩ := Kd.V_reads' hv
     have n0 := Aside0.mk (below_step HB.out hb)
     clear HB hb hv BK1
     have HB := n0
     clear n0
     have hl1 : decide (1 ≤ ((tNorm [x, y, z]).length : Int)) = true := decide_eq_true (by have := HLN.out; omega)
     have hl3 : decide (((tNorm [x, y, z]).length : Int) ≤ 3) = true := decide_eq_true (by have := HLN.out; omega)
     have HLC := Aside0.mk ln
     have HQN := Aside0.mk qn
     clear ln qn
     go_wp2_with fail
     refine (tag_Is.calls ki An cn (tNorm [x, y, z]) true wn HQN.out HLC.out HKI.out).mono ?_
     rintro e wo ⟨rfl, hb⟩
     have n0 := Aside0.mk (below_step HB.out hb)
     clear HB hb
     have HB := n0
     clear n0
     go_wp2_with fail
     refine (forebaylaw06_awake.calls ka true wo HKA.out (MaxAt.below HMX.out HB.out)).mono ?_
     rintro e wp ⟨rfl, hb⟩
     have HB3 := Aside0.mk (below_step HB.out hb)
     clear hb
     go_wp2
     go_ret
     exact ⟨rfl, HB3.out⟩
    | false =>
     go_wp2_with fail
     refine (tag_Normal.calls (some ⟨g1, 0, none⟩) 3 [x, y, z] (tNorm [x, y, z]) w7 (c3_of BK1.out) (Nat.le_refl 3) (if_pos (show 3 < 4398046511104 by decide))).mono ?_
     rintro e wn ⟨vn, rfl, hv, hb⟩
     obtain ⟨An, cn, rfl⟩ := Kd.V_slice hv
     obtain ⟨_, ln, qn⟩ := Kd.V_reads' hv
     have n0 := Aside0.mk (below_step HB.out hb)
     clear HB hb hv BK1
     have HB := n0
     clear n0
     have hl1 : decide (1 ≤ ((tNorm [x, y, z]).length : Int)) = true := decide_eq_true (by have := HLN.out; omega)
     have hl3 : decide (((tNorm [x, y, z]).length : Int) ≤ 3) = true := decide_eq_true (by have := HLN.out; omega)
     have HLC := Aside0.mk ln
     have HQN := Aside0.mk qn
     clear ln qn
     go_wp2_with fail
     refine (tag_Is.calls ki An cn (tNorm [x, y, z]) true wn HQN.out HLC.out HKI.out).mono ?_
     rintro e wo ⟨rfl, hb⟩
     have n0 := Aside0.mk (below_step HB.out hb)
     clear HB hb
     have HB := n0
     clear n0
     go_wp2_with fail
     refine (forebaylaw06_awake.calls ka true wo HKA.out (MaxAt.below HMX.out HB.out)).mono ?_
     rintro e wp ⟨rfl, hb⟩
     have HB3 := Aside0.mk (below_step HB.out hb)
     clear hb
     go_wp2
     go_ret
     exact ⟨rfl, HB3.out⟩
   | true =>
    rw [h0, Bool.true_and] at hne
    go_wp2_with fail
    refine (tag_Less.calls x.f0 x.f1 x.f0 x.f1 false w5 HXX.out).mono ?_
    rintro e w6 ⟨rfl, hb⟩
    have n0 := Aside0.mk (below_step HB.out hb)
    clear HB
    have HB := n0
    clear n0
    have n0 := Aside0.mk (blk_below BK1.out hb)
    clear BK1
    have BK1 := n0
    clear n0
    (try clear zBK1_0 fBK1_0)
    have zBK1_0 : w6.cell? ⟨g1, 0, none⟩ = some (.string x.f0) := (blk_cell BK1.out 0).trans rfl
    have fBK1_0 := blk_frozen BK1.out 0
    (try clear zBK1_1 fBK1_1)
    have zBK1_1 : w6.cell? ⟨g1, 1, none⟩ = some (.string x.f1) := (blk_cell BK1.out 1).trans rfl
    have fBK1_1 := blk_frozen BK1.out 1
    (try clear zBK1_2 fBK1_2)
    have zBK1_2 : w6.cell? ⟨g1, 2, none⟩ = some (.string y.f0) := (blk_cell BK1.out 2).trans rfl
    have fBK1_2 := blk_frozen BK1.out 2
    (try clear zBK1_3 fBK1_3)
    have zBK1_3 : w6.cell? ⟨g1, 3, none⟩ = some (.string y.f1) := (blk_cell BK1.out 3).trans rfl
    have fBK1_3 := blk_frozen BK1.out 3
    (try clear zBK1_4 fBK1_4)
    have zBK1_4 : w6.cell? ⟨g1, 4, none⟩ = some (.string z.f0) := (blk_cell BK1.out 4).trans rfl
    have fBK1_4 := blk_frozen BK1.out 4
    (try clear zBK1_5 fBK1_5)
    have zBK1_5 : w6.cell? ⟨g1, 5, none⟩ = some (.string z.f1) := (blk_cell BK1.out 5).trans rfl
    have fBK1_5 := blk_frozen BK1.out 5
    clear hb
    go_wp2_with fail
    refine (tag_Less.calls y.f0 y.f1 z.f0 z.f1 (tLt y z) w6 HYZ.out).mono ?_
    rintro e w7 ⟨rfl, hb⟩
    have n0 := Aside0.mk (below_step HB.out hb)
    clear HB
    have HB := n0
    clear n0
    have n0 := Aside0.mk (blk_below BK1.out hb)
    clear BK1
    have BK1 := n0
    clear n0
    (try clear zBK1_0 fBK1_0)
    have zBK1_0 : w7.cell? ⟨g1, 0, none⟩ = some (.string x.f0) := (blk_cell BK1.out 0).trans rfl
    have fBK1_0 := blk_frozen BK1.out 0
    (try clear zBK1_1 fBK1_1)
    have zBK1_1 : w7.cell? ⟨g1, 1, none⟩ = some (.string x.f1) := (blk_cell BK1.out 1).trans rfl
    have fBK1_1 := blk_frozen BK1.out 1
    (try clear zBK1_2 fBK1_2)
    have zBK1_2 : w7.cell? ⟨g1, 2, none⟩ = some (.string y.f0) := (blk_cell BK1.out 2).trans rfl
    have fBK1_2 := blk_frozen BK1.out 2
    (try clear zBK1_3 fBK1_3)
    have zBK1_3 : w7.cell? ⟨g1, 3, none⟩ = some (.string y.f1) := (blk_cell BK1.out 3).trans rfl
    have fBK1_3 := blk_frozen BK1.out 3
    (try clear zBK1_4 fBK1_4)
    have zBK1_4 : w7.cell? ⟨g1, 4, none⟩ = some (.string z.f0) := (blk_cell BK1.out 4).trans rfl
    have fBK1_4 := blk_frozen BK1.out 4
    (try clear zBK1_5 fBK1_5)
    have zBK1_5 : w7.cell? ⟨g1, 5, none⟩ = some (.string z.f1) := (blk_cell BK1.out 5).trans rfl
    have fBK1_5 := blk_frozen BK1.out 5
    clear hb
    cases hyz : tLt y z with
    | true =>
     have hxz := HTT.out (by trivial) hyz
     go_wp2_with fail
     refine (tag_Less.calls x.f0 x.f1 z.f0 z.f1 true w7 (HXZ.out.trans (congrArg some hxz))).mono ?_
     rintro e w8 ⟨rfl, hb⟩
     have n0 := Aside0.mk (below_step HB.out hb)
     clear HB
     have HB := n0
     clear n0
     have n0 := Aside0.mk (blk_below BK1.out hb)
     clear BK1
     have BK1 := n0
     clear n0
     (try clear zBK1_0 fBK1_0)
     have zBK1_0 : w8.cell? ⟨g1, 0, none⟩ = some (.string x.f0) := (blk_cell BK1.out 0).trans rfl
     have fBK1_0 := blk_frozen BK1.out 0
     (try clear zBK1_1 fBK1_1)
     have zBK1_1 : w8.cell? ⟨g1, 1, none⟩ = some (.string x.f1) := (blk_cell BK1.out 1).trans rfl
     have fBK1_1 := blk_frozen BK1.out 1
     (try clear zBK1_2 fBK1_2)
     have zBK1_2 : w8.cell? ⟨g1, 2, none⟩ = some (.string y.f0) := (blk_cell BK1.out 2).trans rfl
     have fBK1_2 := blk_frozen BK1.out 2
     (try clear zBK1_3 fBK1_3)
     have zBK1_3 : w8.cell? ⟨g1, 3, none⟩ = some (.string y.f1) := (blk_cell BK1.out 3).trans rfl
     have fBK1_3 := blk_frozen BK1.out 3
     (try clear zBK1_4 fBK1_4)
     have zBK1_4 : w8.cell? ⟨g1, 4, none⟩ = some (.string z.f0) := (blk_cell BK1.out 4).trans rfl
     have fBK1_4 := blk_frozen BK1.out 4
     (try clear zBK1_5 fBK1_5)
     have zBK1_5 : w8.cell? ⟨g1, 5, none⟩ = some (.string z.f1) := (blk_cell BK1.out 5).trans rfl
     have fBK1_5 := blk_frozen BK1.out 5
     clear hb
     go_wp2_with fail
     refine (tag_Normal.calls (some ⟨g1, 0, none⟩) 3 [x, y, z] (tNorm [x, y, z]) w8 (c3_of BK1.out) (Nat.le_refl 3) (if_pos (show 3 < 4398046511104 by decide))).mono ?_
     rintro e wn ⟨vn, rfl, hv, hb⟩
     obtain ⟨An, cn, rfl⟩ := Kd.V_slice hv
     obtain ⟨_, ln, qn⟩ := Kd.V_reads' hv
     have n0 := Aside0.mk (below_step HB.out hb)
     clear HB hb hv BK1
     have HB := n0
     clear n0
     have hl1 : decide (1 ≤ ((tNorm [x, y, z]).length : Int)) = true := decide_eq_true (by have := HLN.out; omega)
     have hl3 : decide (((tNorm [x, y, z]).length : Int) ≤ 3) = true := decide_eq_true (by have := HLN.out; omega)
     have HLC := Aside0.mk ln
     have HQN := Aside0.mk qn
     clear ln qn
     go_wp2_with fail
     refine (tag_Is.calls ki An cn (tNorm [x, y, z]) true wn HQN.out HLC.out HKI.out).mono ?_
     rintro e wo ⟨rfl, hb⟩
     have n0 := Aside0.mk (below_step HB.out hb)
     clear HB hb
     have HB := n0
     clear n0
     go_wp2_with fail
     refine (forebaylaw06_awake.calls ka true wo HKA.out (MaxAt.below HMX.out HB.out)).mono ?_
     rintro e wp ⟨rfl, hb⟩
     have HB3 := Aside0.mk (below_step HB.out hb)
     clear hb
     go_wp2
     go_ret
     exact ⟨rfl, HB3.out⟩
    | false =>
     go_wp2_with fail
     refine (tag_Normal.calls (some ⟨g1, 0, none⟩) 3 [x, y, z] (tNorm [x, y, z]) w7 (c3_of BK1.out) (Nat.le_refl 3) (if_pos (show 3 < 4398046511104 by decide))).mono ?_
     rintro e wn ⟨vn, rfl, hv, hb⟩
     obtain ⟨An, cn, rfl⟩ := Kd.V_slice hv
     obtain ⟨_, ln, qn⟩ := Kd.V_reads' hv
     have n0 := Aside0.mk (below_step HB.out hb)
     clear HB hb hv BK1
     have HB := n0
     clear n0
     have hl1 : decide (1 ≤ ((tNorm [x, y, z]).length : Int)) = true := decide_eq_true (by have := HLN.out; omega)
     have hl3 : decide (((tNorm [x, y, z]).length : Int) ≤ 3) = true := decide_eq_true (by have := HLN.out; omega)
     have HLC := Aside0.mk ln
     have HQN := Aside0.mk qn
     clear ln qn
     go_wp2_with fail
     refine (tag_Is.calls ki An cn (tNorm [x, y, z]) true wn HQN.out HLC.out HKI.out).mono ?_
     rintro e wo ⟨rfl, hb⟩
     have n0 := Aside0.mk (below_step HB.out hb)
     clear HB hb
     have HB := n0
     clear n0
     go_wp2_with fail
     refine (forebaylaw06_awake.calls ka true wo HKA.out (MaxAt.below HMX.out HB.out)).mono ?_
     rintro e wp ⟨rfl, hb⟩
     have HB3 := Aside0.mk (below_step HB.out hb)
     clear hb
     go_wp2
     go_ret
     exact ⟨rfl, HB3.out⟩
  | false =>
   cases b with
   | true =>
    have hne := HNE.out (.inr rfl)
    cases h0 : (x.f0.toList == y.f0.toList) with
    | false =>
     clear hne
     go_wp2_with fail
     refine (tag_Less.calls x.f0 x.f1 x.f0 x.f1 false w5 HXX.out).mono ?_
     rintro e w6 ⟨rfl, hb⟩
     have n0 := Aside0.mk (below_step HB.out hb)
     clear HB
     have HB := n0
     clear n0
     have n0 := Aside0.mk (blk_below BK1.out hb)
     clear BK1
     have BK1 := n0
     clear n0
     (try clear zBK1_0 fBK1_0)
     have zBK1_0 : w6.cell? ⟨g1, 0, none⟩ = some (.string x.f0) := (blk_cell BK1.out 0).trans rfl
     have fBK1_0 := blk_frozen BK1.out 0
     (try clear zBK1_1 fBK1_1)
     have zBK1_1 : w6.cell? ⟨g1, 1, none⟩ = some (.string x.f1) := (blk_cell BK1.out 1).trans rfl
     have fBK1_1 := blk_frozen BK1.out 1
     (try clear zBK1_2 fBK1_2)
     have zBK1_2 : w6.cell? ⟨g1, 2, none⟩ = some (.string y.f0) := (blk_cell BK1.out 2).trans rfl
     have fBK1_2 := blk_frozen BK1.out 2
     (try clear zBK1_3 fBK1_3)
     have zBK1_3 : w6.cell? ⟨g1, 3, none⟩ = some (.string y.f1) := (blk_cell BK1.out 3).trans rfl
     have fBK1_3 := blk_frozen BK1.out 3
     (try clear zBK1_4 fBK1_4)
     have zBK1_4 : w6.cell? ⟨g1, 4, none⟩ = some (.string z.f0) := (blk_cell BK1.out 4).trans rfl
     have fBK1_4 := blk_frozen BK1.out 4
     (try clear zBK1_5 fBK1_5)
     have zBK1_5 : w6.cell? ⟨g1, 5, none⟩ = some (.string z.f1) := (blk_cell BK1.out 5).trans rfl
     have fBK1_5 := blk_frozen BK1.out 5
     clear hb
     go_wp2_with fail
     refine (tag_Normal.calls (some ⟨g1, 0, none⟩) 3 [x, y, z] (tNorm [x, y, z]) w6 (c3_of BK1.out) (Nat.le_refl 3) (if_pos (show 3 < 4398046511104 by decide))).mono ?_
     rintro e wn ⟨vn, rfl, hv, hb⟩
     obtain ⟨An, cn, rfl⟩ := Kd.V_slice hv
     obtain ⟨_, ln, qn⟩ := Kd.V_reads' hv
     have n0 := Aside0.mk (below_step HB.out hb)
     clear HB hb hv BK1
     have HB := n0
     clear n0
     have hl1 : decide (1 ≤ ((tNorm [x, y, z]).length : Int)) = true := decide_eq_true (by have := HLN.out; omega)
     have hl3 : decide (((tNorm [x, y, z]).length : Int) ≤ 3) = true := decide_eq_true (by have := HLN.out; omega)
     have HLC := Aside0.mk ln
     have HQN := Aside0.mk qn
     clear ln qn
     go_wp2_with fail
     refine (tag_Is.calls ki An cn (tNorm [x, y, z]) true wn HQN.out HLC.out HKI.out).mono ?_
     rintro e wo ⟨rfl, hb⟩
     have n0 := Aside0.mk (below_step HB.out hb)
     clear HB hb
     have HB := n0
     clear n0
     go_wp2_with fail
     refine (forebaylaw06_awake.calls ka true wo HKA.out (MaxAt.below HMX.out HB.out)).mono ?_
     rintro e wp ⟨rfl, hb⟩
     have HB3 := Aside0.mk (below_step HB.out hb)
     clear hb
     go_wp2
     go_ret
     exact ⟨rfl, HB3.out⟩
    | true =>
     rw [h0, Bool.true_and] at hne
     go_wp2_with fail
     refine (tag_Less.calls x.f0 x.f1 x.f0 x.f1 false w5 HXX.out).mono ?_
     rintro e w6 ⟨rfl, hb⟩
     have n0 := Aside0.mk (below_step HB.out hb)
     clear HB
     have HB := n0
     clear n0
     have n0 := Aside0.mk (blk_below BK1.out hb)
     clear BK1
     have BK1 := n0
     clear n0
     (try clear zBK1_0 fBK1_0)
     have zBK1_0 : w6.cell? ⟨g1, 0, none⟩ = some (.string x.f0) := (blk_cell BK1.out 0).trans rfl
     have fBK1_0 := blk_frozen BK1.out 0
     (try clear zBK1_1 fBK1_1)
     have zBK1_1 : w6.cell? ⟨g1, 1, none⟩ = some (.string x.f1) := (blk_cell BK1.out 1).trans rfl
     have fBK1_1 := blk_frozen BK1.out 1
     (try clear zBK1_2 fBK1_2)
     have zBK1_2 : w6.cell? ⟨g1, 2, none⟩ = some (.string y.f0) := (blk_cell BK1.out 2).trans rfl
     have fBK1_2 := blk_frozen BK1.out 2
     (try clear zBK1_3 fBK1_3)
     have zBK1_3 : w6.cell? ⟨g1, 3, none⟩ = some (.string y.f1) := (blk_cell BK1.out 3).trans rfl
     have fBK1_3 := blk_frozen BK1.out 3
     (try clear zBK1_4 fBK1_4)
     have zBK1_4 : w6.cell? ⟨g1, 4, none⟩ = some (.string z.f0) := (blk_cell BK1.out 4).trans rfl
     have fBK1_4 := blk_frozen BK1.out 4
     (try clear zBK1_5 fBK1_5)
     have zBK1_5 : w6.cell? ⟨g1, 5, none⟩ = some (.string z.f1) := (blk_cell BK1.out 5).trans rfl
     have fBK1_5 := blk_frozen BK1.out 5
     clear hb
     go_wp2_with fail
     refine (tag_Normal.calls (some ⟨g1, 0, none⟩) 3 [x, y, z] (tNorm [x, y, z]) w6 (c3_of BK1.out) (Nat.le_refl 3) (if_pos (show 3 < 4398046511104 by decide))).mono ?_
     rintro e wn ⟨vn, rfl, hv, hb⟩
     obtain ⟨An, cn, rfl⟩ := Kd.V_slice hv
     obtain ⟨_, ln, qn⟩ := Kd.V_reads' hv
     have n0 := Aside0.mk (below_step HB.out hb)
     clear HB hb hv BK1
     have HB := n0
     clear n0
     have hl1 : decide (1 ≤ ((tNorm [x, y, z]).length : Int)) = true := decide_eq_true (by have := HLN.out; omega)
     have hl3 : decide (((tNorm [x, y, z]).length : Int) ≤ 3) = true := decide_eq_true (by have := HLN.out; omega)
     have HLC := Aside0.mk ln
     have HQN := Aside0.mk qn
     clear ln qn
     go_wp2_with fail
     refine (tag_Is.calls ki An cn (tNorm [x, y, z]) true wn HQN.out HLC.out HKI.out).mono ?_
     rintro e wo ⟨rfl, hb⟩
     have n0 := Aside0.mk (below_step HB.out hb)
     clear HB hb
     have HB := n0
     clear n0
     go_wp2_with fail
     refine (forebaylaw06_awake.calls ka true wo HKA.out (MaxAt.below HMX.out HB.out)).mono ?_
     rintro e wp ⟨rfl, hb⟩
     have HB3 := Aside0.mk (below_step HB.out hb)
     clear hb
     go_wp2
     go_ret
     exact ⟨rfl, HB3.out⟩
   | false =>
    obtain rfl := HTR.out rfl rfl
    go_wp2_with fail
    refine (tag_Less.calls x.f0 x.f1 x.f0 x.f1 false w5 HXX.out).mono ?_
    rintro e w6 ⟨rfl, hb⟩
    have n0 := Aside0.mk (below_step HB.out hb)
    clear HB
    have HB := n0
    clear n0
    have n0 := Aside0.mk (blk_below BK1.out hb)
    clear BK1
    have BK1 := n0
    clear n0
    (try clear zBK1_0 fBK1_0)
    have zBK1_0 : w6.cell? ⟨g1, 0, none⟩ = some (.string x.f0) := (blk_cell BK1.out 0).trans rfl
    have fBK1_0 := blk_frozen BK1.out 0
    (try clear zBK1_1 fBK1_1)
    have zBK1_1 : w6.cell? ⟨g1, 1, none⟩ = some (.string x.f1) := (blk_cell BK1.out 1).trans rfl
    have fBK1_1 := blk_frozen BK1.out 1
    (try clear zBK1_2 fBK1_2)
    have zBK1_2 : w6.cell? ⟨g1, 2, none⟩ = some (.string x.f0) := (blk_cell BK1.out 2).trans rfl
    have fBK1_2 := blk_frozen BK1.out 2
    (try clear zBK1_3 fBK1_3)
    have zBK1_3 : w6.cell? ⟨g1, 3, none⟩ = some (.string x.f1) := (blk_cell BK1.out 3).trans rfl
    have fBK1_3 := blk_frozen BK1.out 3
    (try clear zBK1_4 fBK1_4)
    have zBK1_4 : w6.cell? ⟨g1, 4, none⟩ = some (.string z.f0) := (blk_cell BK1.out 4).trans rfl
    have fBK1_4 := blk_frozen BK1.out 4
    (try clear zBK1_5 fBK1_5)
    have zBK1_5 : w6.cell? ⟨g1, 5, none⟩ = some (.string z.f1) := (blk_cell BK1.out 5).trans rfl
    have fBK1_5 := blk_frozen BK1.out 5
    clear hb
    go_wp2_with fail
    refine (tag_Normal.calls (some ⟨g1, 0, none⟩) 3 [x, x, z] (tNorm [x, x, z]) w6 (c3_of BK1.out) (Nat.le_refl 3) (if_pos (show 3 < 4398046511104 by decide))).mono ?_
    rintro e wn ⟨vn, rfl, hv, hb⟩
    obtain ⟨An, cn, rfl⟩ := Kd.V_slice hv
    obtain ⟨_, ln, qn⟩ := Kd.V_reads' hv
    have n0 := Aside0.mk (below_step HB.out hb)
    clear HB hb hv BK1
    have HB := n0
    clear n0
    have hl1 : decide (1 ≤ ((tNorm [x, x, z]).length : Int)) = true := decide_eq_true (by have := HLN.out; omega)
    have hl3 : decide (((tNorm [x, x, z]).length : Int) ≤ 3) = true := decide_eq_true (by have := HLN.out; omega)
    have HLC := Aside0.mk ln
    have HQN := Aside0.mk qn
    clear ln qn
    go_wp2_with fail
    refine (tag_Is.calls ki An cn (tNorm [x, x, z]) true wn HQN.out HLC.out HKI.out).mono ?_
    rintro e wo ⟨rfl, hb⟩
    have n0 := Aside0.mk (below_step HB.out hb)
    clear HB hb
    have HB := n0
    clear n0
    go_wp2_with fail
    refine (forebaylaw06_awake.calls ka true wo HKA.out (MaxAt.below HMX.out HB.out)).mono ?_
    rintro e wp ⟨rfl, hb⟩
    have HB3 := Aside0.mk (below_step HB.out hb)
    clear hb
    go_wp2
    go_ret
    exact ⟨rfl, HB3.out⟩
namespace tagOrder
open Go.ChangeShapes Go.WideShapes Go.ChangeAt Go.RowKit
open Go.ChangeMaps (open_string shut_string)
theorem own : ownKnob Tryd.prog.godebug = none := by kernel_rfl
theorem laidOut : laidOutB Tryd.prog = true := by kernel_rfl
theorem witness_row (os : Os) {H : Type} (enc : TypeId × Value → H) :
  (OpenSpec.ofChange Rows.tagOrderSpec).preRow enc Tryd.prog Tryd.f7 Rows.tagOrderRow.domain false Rows.tagOrderRow.laid ((laidWorld os).forCall (fun _ _ => 0) ⟨#[], #[.agg #[.string ByteArray.empty, .string ByteArray.empty, .string ByteArray.empty, .string ByteArray.empty, .string ByteArray.empty, .string ByteArray.empty]], []⟩).memory #[.agg #[.string ByteArray.empty, .string ByteArray.empty, .string ByteArray.empty, .string ByteArray.empty, .string ByteArray.empty, .string ByteArray.empty]] := by
 have hw : (DataW.whole enc Tryd.prog ((laidWorld os).forCall (fun _ _ => 0) ⟨#[], #[.agg #[.string ByteArray.empty, .string ByteArray.empty, .string ByteArray.empty, .string ByteArray.empty, .string ByteArray.empty, .string ByteArray.empty]], []⟩).memory Tryd.f7.params.toList (OpenSpec.ofChange Rows.tagOrderSpec).vars false (#[.agg #[.string ByteArray.empty, .string ByteArray.empty, .string ByteArray.empty, .string ByteArray.empty, .string ByteArray.empty, .string ByteArray.empty]] : Array Value).toList 8).map (fun x => (x.1, x.2.1)) =
   some ([.agg [.agg [.lit (.string []), .lit (.string [])], .agg [.lit (.string []), .lit (.string [])], .agg [.lit (.string []), .lit (.string [])]]], []) := by kernel_rfl
 obtain ⟨⟨x1, x2, x3⟩, hx, hx1⟩ := Option.map_eq_some_iff.1 hw
 simp only [Prod.mk.injEq] at hx1
 obtain ⟨rfl, rfl⟩ := hx1
 exact OpenSpec.preRow_of_cond 8 hx (by kernel_rfl) (fun k hk => by cases hk) (by kernel_rfl) (laid_met os _)
set_option maxRecDepth 100000 in
set_option maxHeartbeats 2000000 in
theorem lifted (os : Os) (started : os.Started) (H : Type) (enc : TypeId × Value → H) (F : Stop.Interp) :
  ReturnsInHanded {} Tryd.checked os 7 .any ((OpenSpec.ofChange Rows.tagOrderSpec).preRow enc Tryd.prog Tryd.f7 Rows.tagOrderRow.domain false Rows.tagOrderRow.laid) (((OpenSpec.ofChange Rows.tagOrderSpec).at F).post enc Tryd.prog Tryd.f7 false true false false) := by
 refine returnsInHanded_of_row (C := Tryd.checked) (s := OpenSpec.ofChange Rows.tagOrderSpec) own started (by kernel_rfl) Tryd.func7
  (witness_row_atRef (enc := enc) (C := Tryd.checked) false (laidWorld os) #[.agg #[.string ByteArray.empty, .string ByteArray.empty, .string ByteArray.empty, .string ByteArray.empty, .string ByteArray.empty, .string ByteArray.empty]] rfl (by kernel_rfl) (by kernel_rfl) (by kernel_rfl) (witness_row os enc)) ?_
 intro W base args ds gs before hval0 hW hcnd _ hsz0 hL hsh _
 have hsz : (DataW.weightsEach Tryd.prog (Tryd.f7.params.toList ++ Rows.tagOrderSpec.plain.varTypes Tryd.prog) (ds ++ gs)).all (· ≤ reachBytes) = true := hsz0
 have hval : ∀ (j : Nat) t v, Tryd.f7.params[j]? = some t → args[j]? = some v → Value.okWide Tryd.prog W .any base t v := hval0
 have hW' := hW
 obtain ⟨p, q, hA0, hV, rfl, hfz, hnd⟩ := hW
 have hA : DataW.TrodAll enc Tryd.prog W 0 (fun _ => true) true Tryd.f7.params.toList args.toList ds p := hA0
 rw [Tryd.params7] at hA hval hsz
 obtain ⟨v0, vs0, d0, ds0, p0, q0, hargs, rfl, rfl, h0, r0⟩ := trodAll_cons hA
 obtain ⟨rfl, rfl, rfl⟩ := trodAll_nil r0
 obtain rfl : args = #[v0] := by cases args; simp_all
 obtain ⟨rfl, rfl⟩ := trodVars_none hV
 have k0 := h0
 have lt0 : ∀ x ∈ p0, x.block < W.heap.size := by obtain ⟨m, hm⟩ := k0; exact DataW.trod_lt m _ _ _ hm
 obtain ⟨x0, y0, z0, rfl, i0⟩ := open_tag3 (hval 0 40 v0 rfl rfl) h0
 clear hA0 hval0 hsz0 hsz
 refine (tagOrder_walk x0 y0 z0 W (maxAt_of hsh) i0).mono fun e W' ⟨he, bel⟩ => ?_
 subst he
 exact ⟨_, rfl, _, _, _, [], _, [], hW', trodAll_mk1 (shut_bool Tryd.underlying4 _), (trodAll_cons_mk (Below.trod laidOut (by kernel_rfl) (of_decide_eq_true (by kernel_rfl)) k0 bel lt0) trodAll_mk0), rfl, bel.frame _, fun h => by cases h⟩
theorem over : Rows.tagOrderRow.holds Tryd.pinned (OpenSpec.ofChange Rows.tagOrderSpec) :=
 OpenClaim.holds_of_cond 7 Tryd.f7 rfl rfl rfl rfl rfl rfl rfl ⟨rfl, rfl, rfl, rfl, rfl⟩ rfl rfl rfl rfl rfl (by kernel_rfl) Tryd.func7 (by kernel_rfl)
  (of_decide_eq_true (by kernel_rfl)) (by unfold Func.isWrapper; first | (rw [if_pos (by decide +kernel)]; kernel_rfl) | (rw [if_neg (by decide +kernel)]; exact ⟨rfl, rfl⟩))
  (fun os started H enc _ F0 => by rw [OpenClaim.pre_eq_preRow]; exact lifted os started H enc F0)
theorem carded : Rows.TagOrderCardSaid :=
 Claim7.holds_tied_plain_at .later [] [.data, .pinned] true _ false
  over (fun _ h => by cases h) (by kernel_rfl) (fun _ h => by cases h) tagOrder_row_tie rfl ⟨rfl, rfl⟩ (by kernel_rfl) rfl
  (fun f fn hf hfn => by
   obtain rfl : f = 7 := Option.some.inj ((show Tryd.prog.funcNamed "forebay/forebaylaw06.TagOrder" = some 7 by kernel_rfl).symm.trans hf) |>.symm
   obtain rfl : fn = Tryd.f7 := (Option.some.inj (Tryd.func7.symm.trans hfn)).symm
   exact ⟨by kernel_rfl, fun j t ht => by
    rw [Tryd.params7] at ht
    have hm : t ∈ [40] := by simpa using Array.mem_of_getElem? ht
    have hall : ([40].all fun u => !Tryd.prog.wantsStandIn u) = true := by kernel_rfl
    exact (show Tryd.prog.wantsStandIn t = false by simpa using List.all_eq_true.1 hall t hm)⟩)
  (by kernel_rfl)
end tagOrder
theorem tagOrder_holds : Rows.TagOrderCardSaid := tagOrder.carded
#print axioms tagOrder_holds
end Go.Proofs.YthflkmgcifccjaaDoor
