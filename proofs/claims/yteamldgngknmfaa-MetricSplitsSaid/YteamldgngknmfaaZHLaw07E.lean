/- MetricSplits: a metric is split into as many as it has values: its walk; for every metric, no condition. -/
import Derived.Test.YteamldgngknmfaaZHRNormM
import Derived.Test.YteamldgngknmfaaZHRAwk7
import Derived.Test.YteamldgngknmfaaZHLawMetB
import Derived.Test.YteamldgngknmfaaZHBatE
import Derived.Test.YteamldgngknmfaaZHMetRow
import Derived.Test.YteamldgngknmfaaRows
import Derived.Test.YteamldgngknmfaaZHPEx12
import Derived.Test.YteamldgngknmfaaZHPEx4
namespace Go.Proofs.Yteamldgngknmfaa
open Go.RowKit Go.Proofs.YteamldgngknmfaaW.PrintWords Go.Proofs.YteamldgngknmfaaW.PrintLast Go.Proofs.YteamldgngknmfaaW.PrintMore Go.Proofs.Yteamldgngknmfaa.PE
set_option linter.unusedVariables false
set_option linter.unusedSimpArgs false
def splitOf (m : S25) : List S25 := m.f2.map fun d => ⟨m.f0, m.f1, [d], m.f3, m.f4, m.f5⟩
theorem clone_f (m : S25) (h2 : m.f2.length ≤ 100000) (h4 : m.f4.length ≤ 100000) : metric_Clone.f m.f0 m.f1 m.f2 m.f3 m.f4 m.f5 = some (m.f0, m.f1, m.f2, m.f3, m.f4, m.f5) := by
 unfold metric_Clone.f slices_Clone_d.f slices_Clone_t.f
 rw [if_pos (by omega), Option.bind_some, if_pos (by omega), Option.bind_some]
theorem copy_f (m : S25) (h2 : m.f2.length ≤ 100000) (h4 : m.f4.length ≤ 100000) : forebayref07_Copy.f m.f0 m.f1 m.f2 m.f3 m.f4 m.f5 = some (m.f0, m.f1, m.f2, m.f3, m.f4, m.f5) := by
 unfold forebayref07_Copy.f
 rw [Option.bind_some, if_pos (by simp; omega), Option.bind_some, if_pos (by simp; omega)]
 simp
theorem msplit_l0 (m : S25) (h2 : m.f2.length ≤ 100000) (h4 : m.f4.length ≤ 100000) : ∀ (d i : Nat) (out : List S25), i + d = m.f2.length → out.length = i →
  Ev (fun k => metric_Split.l0 k out m.f2 (m.f2.length : Int) (i : Int) m.f0 m.f1 m.f2 m.f3 m.f4 m.f5) (out ++ (m.f2.drop i).map fun d => (⟨m.f0, m.f1, [d], m.f3, m.f4, m.f5⟩ : S25), (0 : Int)) := by
 intro d
 induction d with
 | zero =>
  intro i out hd ho
  rw [List.drop_of_length_le (by omega)]
  refine Ev.step (f := fun _ => some (out, (0 : Int))) (fun k => ?_) (by simpa using Ev.now (out, (0 : Int)))
  simp only [metric_Split.l0]
  rw [if_neg (by omega)]
 | succ d ih =>
  intro i out hd ho
  have hlt : i < m.f2.length := by omega
  have hw := w1 i (by omega)
  have h1 := ih (i + 1) (out ++ [(⟨m.f0, m.f1, [m.f2[i]'hlt], m.f3, m.f4, m.f5⟩ : S25)]) (by omega) (by simp [ho])
  rw [List.append_assoc] at h1
  rw [List.drop_eq_getElem_cons hlt, List.map_cons]
  refine Ev.step (fun k => ?_) h1
  simp only [metric_Split.l0]
  rw [if_pos (by omega), if_pos (by omega), if_pos (by omega), clone_f m h2 h4, Option.bind_some, if_pos (by omega), rd_dec m.f2 i hlt, hw]
theorem msplit_ev (m : S25) (hm : metIn m = true) (h2 : m.f2.length ≤ 100000) (h4 : m.f4.length ≤ 100000) : Ev (fun k => metric_Split.f k m.f0 m.f1 m.f2 m.f3 m.f4 m.f5) (if metBad m = 0 then splitOf m else [], metBad m) := by
 unfold metric_Split.f
 by_cases h : metBad m = 0
 ·rw [if_pos h]
  have h1 := msplit_l0 m h2 h4 m.f2.length 0 [] (by omega) rfl
  refine Ev.congr (fun k => ?_) (by rw [h]; unfold splitOf; simpa using h1)
  rw [mcheck_f m hm, Option.bind_some, if_pos h]
 ·rw [if_neg h]
  refine Ev.congr (fun k => ?_) (Ev.now _)
  rw [mcheck_f m hm, Option.bind_some, if_neg h]
theorem one_in (m : S25) (d : S40) (hm : metIn m = true) (hd : d ∈ m.f2) : metIn (⟨m.f0, m.f1, [d], m.f3, m.f4, m.f5⟩ : S25) = true := by
 have h := decIn_of hm hd
 unfold metIn at hm ⊢
 simp only [Bool.and_eq_true, List.all_eq_true] at hm ⊢
 exact ⟨hm.1, fun x hx => by rw [List.mem_singleton.1 hx]; exact h, hm.2.2⟩
theorem one_bad (m : S25) (d : S40) (hm : metBad m = 0) (hd : d ∈ m.f2) : metBad (⟨m.f0, m.f1, [d], m.f3, m.f4, m.f5⟩ : S25) = 0 := by
 have hp := metBad_parts hm
 have hv := metBad_vals hm
 refine metBad_of ⟨hp.1, hp.2.1, ?_, hp.2.2.2.1, hp.2.2.2.2.1, hp.2.2.2.2.2⟩
 show (betB ([d] : List S40).length 1 64 && !(([d] : List S40).any decW)) = true
 have h1 : decW d = false := by
  have := List.any_eq_false.1 hv d hd
  simpa using this
 simp only [List.any_cons, List.any_nil, h1]
 rfl
theorem grown_set (w : World) (a : Addr) (u : Value) : w.grownBy (w.setCell a u) (some a.block) :=
 ⟨rfl, rfl, rfl, by simp [World.setCell], fun k hk hne => Below.heap_setCell w a u k (fun e => hne (by rw [e]))⟩
theorem grown2 (w : World) (g a b : Nat) (x y : Value) : w.grownBy ((w.setCell ⟨g, a, none⟩ x).setCell ⟨g, b, none⟩ y) (some g) := (grown_set w ⟨g, a, none⟩ x).trans (grown_set _ ⟨g, b, none⟩ y)
theorem grown3 (w : World) (g a b c : Nat) (x y z : Value) : w.grownBy (((w.setCell ⟨g, a, none⟩ x).setCell ⟨g, b, none⟩ y).setCell ⟨g, c, none⟩ z) (some g) := (grown2 w g a b x y).trans (grown_set _ ⟨g, c, none⟩ z)
attribute [local go_sem] eqA40
set_option maxHeartbeats 8000000 in
set_option maxRecDepth 100000 in
theorem metricSplits_walk (m : S25) (Av : Option Addr) (cv : Nat) (At : Option Addr) (ct : Nat) (w : World) (hm : MetC m Av cv At ct w) (hi : metIn m = true) :
  Calls Try.prog 7 #[.agg #[.string m.f0, .int .i64 m.f1, .slice Av m.f2.length cv, .int .i64 m.f3, .slice At m.f4.length ct, .int .i64 m.f5]] w fun e w' => e = .returned (.bool true) ∧ Below w.heap.size w w' := by
 obtain ⟨b, hb, hl⟩ := few_ev m
 obtain ⟨kf, hkf⟩ := Ev.rounds hb
 obtain ⟨ka, hka⟩ := Ev.rounds awake07_ev
 have HM := Aside0.mk hm
 have HI := Aside0.mk hi
 have HKF := Aside0.mk hkf
 have HKA := Aside0.mk hka
 have HL := Aside0.mk hl
 have HB := Aside0.mk (Below.refl w.heap.size w)
 clear hm hi hkf hka hl hb
 go_enter Try.func7, Try.ntmps7
 go_wp2_with (first | ((with_reducible refine gate_dst (N := 1) rfl ?_); refine box_event ?hg (N := 1) ?hd (cs := #[.string m.f0, .int .i64 m.f1, .slice Av m.f2.length cv, .int .i64 m.f3, .slice At m.f4.length ct, .int .i64 m.f5]) (t := 25) ?hr ?_; (case hd => rfl); (case hg => rfl); (case hr => first | (go_simp; done) | (go_simp; rfl)); intro g1 hgg1 w1 hbox hb; have GEg1 := Aside0.mk hgg1; clear hgg1; have n0 := Aside0.mk (below_step HB.out hb); clear HB; have HB := n0; clear n0; have BK1 := Aside0.mk hbox; clear hbox; (try clear zBK1_0 fBK1_0); have zBK1_0 : w1.cell? ⟨g1, 0, none⟩ = some (.string m.f0) := (blk_cell BK1.out 0).trans rfl; have fBK1_0 := blk_frozen BK1.out 0; (try clear zBK1_1 fBK1_1); have zBK1_1 : w1.cell? ⟨g1, 1, none⟩ = some (.int .i64 m.f1) := (blk_cell BK1.out 1).trans rfl; have fBK1_1 := blk_frozen BK1.out 1; (try clear zBK1_2 fBK1_2); have zBK1_2 : w1.cell? ⟨g1, 2, none⟩ = some (.slice Av m.f2.length cv) := (blk_cell BK1.out 2).trans rfl; have fBK1_2 := blk_frozen BK1.out 2; (try clear zBK1_3 fBK1_3); have zBK1_3 : w1.cell? ⟨g1, 3, none⟩ = some (.int .i64 m.f3) := (blk_cell BK1.out 3).trans rfl; have fBK1_3 := blk_frozen BK1.out 3; (try clear zBK1_4 fBK1_4); have zBK1_4 : w1.cell? ⟨g1, 4, none⟩ = some (.slice At m.f4.length ct) := (blk_cell BK1.out 4).trans rfl; have fBK1_4 := blk_frozen BK1.out 4; (try clear zBK1_5 fBK1_5); have zBK1_5 : w1.cell? ⟨g1, 5, none⟩ = some (.int .i64 m.f5) := (blk_cell BK1.out 5).trans rfl; have fBK1_5 := blk_frozen BK1.out 5; clear hb))
 refine (forebaylaw07_Few.calls kf m.f0 m.f1 Av cv m.f2 m.f3 At ct m.f4 m.f5 b w1 (Kd.C_below HM.out.v HB.out) HM.out.vc (Kd.C_below HM.out.t HB.out) HM.out.tc HKF.out).mono ?_
 rintro e w2 ⟨rfl, hb⟩
 have n0 := Aside0.mk (below_step HB.out hb)
 clear HB
 have HB := n0
 clear n0
 have n0 := Aside0.mk (blk_below BK1.out hb)
 clear BK1
 have BK1 := n0
 clear n0
 (try clear zBK1_0 fBK1_0)
 have zBK1_0 : w2.cell? ⟨g1, 0, none⟩ = some (.string m.f0) := (blk_cell BK1.out 0).trans rfl
 have fBK1_0 := blk_frozen BK1.out 0
 (try clear zBK1_1 fBK1_1)
 have zBK1_1 : w2.cell? ⟨g1, 1, none⟩ = some (.int .i64 m.f1) := (blk_cell BK1.out 1).trans rfl
 have fBK1_1 := blk_frozen BK1.out 1
 (try clear zBK1_2 fBK1_2)
 have zBK1_2 : w2.cell? ⟨g1, 2, none⟩ = some (.slice Av m.f2.length cv) := (blk_cell BK1.out 2).trans rfl
 have fBK1_2 := blk_frozen BK1.out 2
 (try clear zBK1_3 fBK1_3)
 have zBK1_3 : w2.cell? ⟨g1, 3, none⟩ = some (.int .i64 m.f3) := (blk_cell BK1.out 3).trans rfl
 have fBK1_3 := blk_frozen BK1.out 3
 (try clear zBK1_4 fBK1_4)
 have zBK1_4 : w2.cell? ⟨g1, 4, none⟩ = some (.slice At m.f4.length ct) := (blk_cell BK1.out 4).trans rfl
 have fBK1_4 := blk_frozen BK1.out 4
 (try clear zBK1_5 fBK1_5)
 have zBK1_5 : w2.cell? ⟨g1, 5, none⟩ = some (.int .i64 m.f5) := (blk_cell BK1.out 5).trans rfl
 have fBK1_5 := blk_frozen BK1.out 5
 clear hb
 cases b with
 | false =>
  go_wp2_with fail
  refine (forebaylaw07_awake.calls ka true w2 HKA.out).mono ?_
  rintro e wd ⟨rfl, hb⟩
  have HB3 := Aside0.mk (below_step HB.out hb)
  clear hb
  go_wp2
  go_ret
  exact ⟨rfl, HB3.out⟩
 | true =>
  have hsz := HL.out rfl
  have HS : Aside0 (m.f2.length ≤ 80 ∧ m.f4.length ≤ 40) := ⟨hsz⟩
  clear hsz
  obtain ⟨te, hte, htt⟩ := eqm_ev m m (by have := HS.out; omega) (by have := HS.out; omega)
  have htt2 := htt.2 rfl
  subst htt2
  obtain ⟨ke, hke⟩ := Ev.rounds hte
  have HKE := Aside0.mk hke
  clear hte htt hke
  go_wp2_with fail
  refine (forebayref07_Copy.calls m.f0 m.f1 Av cv m.f2 m.f3 At ct m.f4 m.f5 m.f0 m.f1 m.f2 m.f3 m.f4 m.f5 w2 (Kd.C_below HM.out.v HB.out) HM.out.vc (Kd.C_below HM.out.t HB.out) HM.out.tc (copy_f m (by have := HS.out; omega) (by have := HS.out; omega))).mono ?_
  rintro e wd ⟨v2, v4, rfl, hr2, hr4, hb⟩
  obtain ⟨W2, cw2, rfl, lw2, qw2⟩ := Kd.R_reads hr2
  obtain ⟨W4, cw4, rfl, lw4, qw4⟩ := Kd.R_reads hr4
  have HWC : Aside0 (MetC m W2 cw2 W4 cw4 wd) := ⟨PE.metC_of qw2 lw2 qw4 lw4 HI.out⟩
  have n0 := Aside0.mk (below_step HB.out hb)
  clear HB
  have HB := n0
  clear n0
  have n0 := Aside0.mk (blk_below BK1.out hb)
  clear BK1
  have BK1 := n0
  clear n0
  (try clear zBK1_0 fBK1_0)
  have zBK1_0 : wd.cell? ⟨g1, 0, none⟩ = some (.string m.f0) := (blk_cell BK1.out 0).trans rfl
  have fBK1_0 := blk_frozen BK1.out 0
  (try clear zBK1_1 fBK1_1)
  have zBK1_1 : wd.cell? ⟨g1, 1, none⟩ = some (.int .i64 m.f1) := (blk_cell BK1.out 1).trans rfl
  have fBK1_1 := blk_frozen BK1.out 1
  (try clear zBK1_2 fBK1_2)
  have zBK1_2 : wd.cell? ⟨g1, 2, none⟩ = some (.slice Av m.f2.length cv) := (blk_cell BK1.out 2).trans rfl
  have fBK1_2 := blk_frozen BK1.out 2
  (try clear zBK1_3 fBK1_3)
  have zBK1_3 : wd.cell? ⟨g1, 3, none⟩ = some (.int .i64 m.f3) := (blk_cell BK1.out 3).trans rfl
  have fBK1_3 := blk_frozen BK1.out 3
  (try clear zBK1_4 fBK1_4)
  have zBK1_4 : wd.cell? ⟨g1, 4, none⟩ = some (.slice At m.f4.length ct) := (blk_cell BK1.out 4).trans rfl
  have fBK1_4 := blk_frozen BK1.out 4
  (try clear zBK1_5 fBK1_5)
  have zBK1_5 : wd.cell? ⟨g1, 5, none⟩ = some (.int .i64 m.f5) := (blk_cell BK1.out 5).trans rfl
  have fBK1_5 := blk_frozen BK1.out 5
  clear hb
  clear hr2 hr4 lw2 qw2 lw4 qw4
  have HB3 := Aside0.mk (Below.refl wd.heap.size wd)
  have hb : Below wd.heap.size wd (wd.alloc (.cells #[.string m.f0, .int .i64 m.f1, .slice W2 m.f2.length cw2, .int .i64 m.f3, .slice W4 m.f4.length cw4, .int .i64 m.f5] 25)) := below_alloc (Below.refl _ _) _
  have hbox : (wd.alloc (.cells #[.string m.f0, .int .i64 m.f1, .slice W2 m.f2.length cw2, .int .i64 m.f3, .slice W4 m.f4.length cw4, .int .i64 m.f5] 25)).heap[wd.heap.size]? = some (.cells #[.string m.f0, .int .i64 m.f1, .slice W2 m.f2.length cw2, .int .i64 m.f3, .slice W4 m.f4.length cw4, .int .i64 m.f5] 25 (0, 0)) := blk_new wd _
  generalize hw4 : wd.alloc (.cells #[.string m.f0, .int .i64 m.f1, .slice W2 m.f2.length cw2, .int .i64 m.f3, .slice W4 m.f4.length cw4, .int .i64 m.f5] 25) = w4 at hb hbox
  have n0 := Aside0.mk (below_step HB.out hb)
  clear HB
  have HB := n0
  clear n0
  have n0 := Aside0.mk (below_step HB3.out hb)
  clear HB3
  have HB3 := n0
  clear n0
  have n0 := Aside0.mk (blk_below BK1.out hb)
  clear BK1
  have BK1 := n0
  clear n0
  have BK3 := Aside0.mk hbox
  clear hbox
  (try clear zBK1_0 fBK1_0)
  have zBK1_0 : w4.cell? ⟨g1, 0, none⟩ = some (.string m.f0) := (blk_cell BK1.out 0).trans rfl
  have fBK1_0 := blk_frozen BK1.out 0
  (try clear zBK1_1 fBK1_1)
  have zBK1_1 : w4.cell? ⟨g1, 1, none⟩ = some (.int .i64 m.f1) := (blk_cell BK1.out 1).trans rfl
  have fBK1_1 := blk_frozen BK1.out 1
  (try clear zBK1_2 fBK1_2)
  have zBK1_2 : w4.cell? ⟨g1, 2, none⟩ = some (.slice Av m.f2.length cv) := (blk_cell BK1.out 2).trans rfl
  have fBK1_2 := blk_frozen BK1.out 2
  (try clear zBK1_3 fBK1_3)
  have zBK1_3 : w4.cell? ⟨g1, 3, none⟩ = some (.int .i64 m.f3) := (blk_cell BK1.out 3).trans rfl
  have fBK1_3 := blk_frozen BK1.out 3
  (try clear zBK1_4 fBK1_4)
  have zBK1_4 : w4.cell? ⟨g1, 4, none⟩ = some (.slice At m.f4.length ct) := (blk_cell BK1.out 4).trans rfl
  have fBK1_4 := blk_frozen BK1.out 4
  (try clear zBK1_5 fBK1_5)
  have zBK1_5 : w4.cell? ⟨g1, 5, none⟩ = some (.int .i64 m.f5) := (blk_cell BK1.out 5).trans rfl
  have fBK1_5 := blk_frozen BK1.out 5
  (try clear zBK3_0 fBK3_0)
  have zBK3_0 : w4.cell? ⟨wd.heap.size, 0, none⟩ = some (.string m.f0) := (blk_cell BK3.out 0).trans rfl
  have fBK3_0 := blk_frozen BK3.out 0
  (try clear zBK3_1 fBK3_1)
  have zBK3_1 : w4.cell? ⟨wd.heap.size, 1, none⟩ = some (.int .i64 m.f1) := (blk_cell BK3.out 1).trans rfl
  have fBK3_1 := blk_frozen BK3.out 1
  (try clear zBK3_2 fBK3_2)
  have zBK3_2 : w4.cell? ⟨wd.heap.size, 2, none⟩ = some (.slice W2 m.f2.length cw2) := (blk_cell BK3.out 2).trans rfl
  have fBK3_2 := blk_frozen BK3.out 2
  (try clear zBK3_3 fBK3_3)
  have zBK3_3 : w4.cell? ⟨wd.heap.size, 3, none⟩ = some (.int .i64 m.f3) := (blk_cell BK3.out 3).trans rfl
  have fBK3_3 := blk_frozen BK3.out 3
  (try clear zBK3_4 fBK3_4)
  have zBK3_4 : w4.cell? ⟨wd.heap.size, 4, none⟩ = some (.slice W4 m.f4.length cw4) := (blk_cell BK3.out 4).trans rfl
  have fBK3_4 := blk_frozen BK3.out 4
  (try clear zBK3_5 fBK3_5)
  have zBK3_5 : w4.cell? ⟨wd.heap.size, 5, none⟩ = some (.int .i64 m.f5) := (blk_cell BK3.out 5).trans rfl
  have fBK3_5 := blk_frozen BK3.out 5
  clear hb
  have HB4 := Aside0.mk (Below.refl w4.heap.size w4)
  have S4B := HB
  have S43 := HB3
  have S4K1 := BK1
  have S4K3 := BK3
  go_wp2_with fail
  clear hw4
  refine (metric_Clone.calls m.f0 m.f1 Av cv m.f2 m.f3 At ct m.f4 m.f5 m.f0 m.f1 m.f2 m.f3 m.f4 m.f5 w4 (Kd.C_below HM.out.v HB.out) HM.out.vc (Kd.C_below HM.out.t HB.out) HM.out.tc (clone_f m (by have := HS.out; omega) (by have := HS.out; omega))).mono ?_
  rintro e w5 ⟨v2, v4, rfl, hr2, hr4, hb⟩
  obtain ⟨C2, cc2, rfl, lc2, qc2⟩ := Kd.R_reads hr2
  obtain ⟨C4, cc4, rfl, lc4, qc4⟩ := Kd.R_reads hr4
  have HCC : Aside0 (MetC m C2 cc2 C4 cc4 w5) := ⟨PE.metC_of qc2 lc2 qc4 lc4 HI.out⟩
  have HR2 := Aside0.mk hr2
  have HR4 := Aside0.mk hr4
  have n0 := Aside0.mk (below_step HB.out hb)
  clear HB
  have HB := n0
  clear n0
  have n0 := Aside0.mk (below_step HB3.out hb)
  clear HB3
  have HB3 := n0
  clear n0
  have n0 := Aside0.mk (below_step HB4.out hb)
  clear HB4
  have HB4 := n0
  clear n0
  have n0 := Aside0.mk (blk_below BK1.out hb)
  clear BK1
  have BK1 := n0
  clear n0
  have n0 := Aside0.mk (blk_below BK3.out hb)
  clear BK3
  have BK3 := n0
  clear n0
  (try clear zBK1_0 fBK1_0)
  have zBK1_0 : w5.cell? ⟨g1, 0, none⟩ = some (.string m.f0) := (blk_cell BK1.out 0).trans rfl
  have fBK1_0 := blk_frozen BK1.out 0
  (try clear zBK1_1 fBK1_1)
  have zBK1_1 : w5.cell? ⟨g1, 1, none⟩ = some (.int .i64 m.f1) := (blk_cell BK1.out 1).trans rfl
  have fBK1_1 := blk_frozen BK1.out 1
  (try clear zBK1_2 fBK1_2)
  have zBK1_2 : w5.cell? ⟨g1, 2, none⟩ = some (.slice Av m.f2.length cv) := (blk_cell BK1.out 2).trans rfl
  have fBK1_2 := blk_frozen BK1.out 2
  (try clear zBK1_3 fBK1_3)
  have zBK1_3 : w5.cell? ⟨g1, 3, none⟩ = some (.int .i64 m.f3) := (blk_cell BK1.out 3).trans rfl
  have fBK1_3 := blk_frozen BK1.out 3
  (try clear zBK1_4 fBK1_4)
  have zBK1_4 : w5.cell? ⟨g1, 4, none⟩ = some (.slice At m.f4.length ct) := (blk_cell BK1.out 4).trans rfl
  have fBK1_4 := blk_frozen BK1.out 4
  (try clear zBK1_5 fBK1_5)
  have zBK1_5 : w5.cell? ⟨g1, 5, none⟩ = some (.int .i64 m.f5) := (blk_cell BK1.out 5).trans rfl
  have fBK1_5 := blk_frozen BK1.out 5
  (try clear zBK3_0 fBK3_0)
  have zBK3_0 : w5.cell? ⟨wd.heap.size, 0, none⟩ = some (.string m.f0) := (blk_cell BK3.out 0).trans rfl
  have fBK3_0 := blk_frozen BK3.out 0
  (try clear zBK3_1 fBK3_1)
  have zBK3_1 : w5.cell? ⟨wd.heap.size, 1, none⟩ = some (.int .i64 m.f1) := (blk_cell BK3.out 1).trans rfl
  have fBK3_1 := blk_frozen BK3.out 1
  (try clear zBK3_2 fBK3_2)
  have zBK3_2 : w5.cell? ⟨wd.heap.size, 2, none⟩ = some (.slice W2 m.f2.length cw2) := (blk_cell BK3.out 2).trans rfl
  have fBK3_2 := blk_frozen BK3.out 2
  (try clear zBK3_3 fBK3_3)
  have zBK3_3 : w5.cell? ⟨wd.heap.size, 3, none⟩ = some (.int .i64 m.f3) := (blk_cell BK3.out 3).trans rfl
  have fBK3_3 := blk_frozen BK3.out 3
  (try clear zBK3_4 fBK3_4)
  have zBK3_4 : w5.cell? ⟨wd.heap.size, 4, none⟩ = some (.slice W4 m.f4.length cw4) := (blk_cell BK3.out 4).trans rfl
  have fBK3_4 := blk_frozen BK3.out 4
  (try clear zBK3_5 fBK3_5)
  have zBK3_5 : w5.cell? ⟨wd.heap.size, 5, none⟩ = some (.int .i64 m.f5) := (blk_cell BK3.out 5).trans rfl
  have fBK3_5 := blk_frozen BK3.out 5
  clear hb
  clear hr2 hr4 lc2 qc2 lc4 qc4
  have HB5 := Aside0.mk (Below.refl w5.heap.size w5)
  have hb : Below w5.heap.size w5 (w5.alloc (.cells #[.string m.f0, .int .i64 m.f1, .slice C2 m.f2.length cc2, .int .i64 m.f3, .slice C4 m.f4.length cc4, .int .i64 m.f5] 25)) := below_alloc (Below.refl _ _) _
  have hbox : (w5.alloc (.cells #[.string m.f0, .int .i64 m.f1, .slice C2 m.f2.length cc2, .int .i64 m.f3, .slice C4 m.f4.length cc4, .int .i64 m.f5] 25)).heap[w5.heap.size]? = some (.cells #[.string m.f0, .int .i64 m.f1, .slice C2 m.f2.length cc2, .int .i64 m.f3, .slice C4 m.f4.length cc4, .int .i64 m.f5] 25 (0, 0)) := blk_new w5 _
  generalize hw6 : w5.alloc (.cells #[.string m.f0, .int .i64 m.f1, .slice C2 m.f2.length cc2, .int .i64 m.f3, .slice C4 m.f4.length cc4, .int .i64 m.f5] 25) = w6 at hb hbox
  have n0 := Aside0.mk (below_step HB.out hb)
  clear HB
  have HB := n0
  clear n0
  have n0 := Aside0.mk (below_step HB3.out hb)
  clear HB3
  have HB3 := n0
  clear n0
  have n0 := Aside0.mk (below_step HB4.out hb)
  clear HB4
  have HB4 := n0
  clear n0
  have n0 := Aside0.mk (below_step HB5.out hb)
  clear HB5
  have HB5 := n0
  clear n0
  have n0 := Aside0.mk (blk_below BK1.out hb)
  clear BK1
  have BK1 := n0
  clear n0
  have n0 := Aside0.mk (blk_below BK3.out hb)
  clear BK3
  have BK3 := n0
  clear n0
  have BK4 := Aside0.mk hbox
  clear hbox
  (try clear zBK1_0 fBK1_0)
  have zBK1_0 : w6.cell? ⟨g1, 0, none⟩ = some (.string m.f0) := (blk_cell BK1.out 0).trans rfl
  have fBK1_0 := blk_frozen BK1.out 0
  (try clear zBK1_1 fBK1_1)
  have zBK1_1 : w6.cell? ⟨g1, 1, none⟩ = some (.int .i64 m.f1) := (blk_cell BK1.out 1).trans rfl
  have fBK1_1 := blk_frozen BK1.out 1
  (try clear zBK1_2 fBK1_2)
  have zBK1_2 : w6.cell? ⟨g1, 2, none⟩ = some (.slice Av m.f2.length cv) := (blk_cell BK1.out 2).trans rfl
  have fBK1_2 := blk_frozen BK1.out 2
  (try clear zBK1_3 fBK1_3)
  have zBK1_3 : w6.cell? ⟨g1, 3, none⟩ = some (.int .i64 m.f3) := (blk_cell BK1.out 3).trans rfl
  have fBK1_3 := blk_frozen BK1.out 3
  (try clear zBK1_4 fBK1_4)
  have zBK1_4 : w6.cell? ⟨g1, 4, none⟩ = some (.slice At m.f4.length ct) := (blk_cell BK1.out 4).trans rfl
  have fBK1_4 := blk_frozen BK1.out 4
  (try clear zBK1_5 fBK1_5)
  have zBK1_5 : w6.cell? ⟨g1, 5, none⟩ = some (.int .i64 m.f5) := (blk_cell BK1.out 5).trans rfl
  have fBK1_5 := blk_frozen BK1.out 5
  (try clear zBK3_0 fBK3_0)
  have zBK3_0 : w6.cell? ⟨wd.heap.size, 0, none⟩ = some (.string m.f0) := (blk_cell BK3.out 0).trans rfl
  have fBK3_0 := blk_frozen BK3.out 0
  (try clear zBK3_1 fBK3_1)
  have zBK3_1 : w6.cell? ⟨wd.heap.size, 1, none⟩ = some (.int .i64 m.f1) := (blk_cell BK3.out 1).trans rfl
  have fBK3_1 := blk_frozen BK3.out 1
  (try clear zBK3_2 fBK3_2)
  have zBK3_2 : w6.cell? ⟨wd.heap.size, 2, none⟩ = some (.slice W2 m.f2.length cw2) := (blk_cell BK3.out 2).trans rfl
  have fBK3_2 := blk_frozen BK3.out 2
  (try clear zBK3_3 fBK3_3)
  have zBK3_3 : w6.cell? ⟨wd.heap.size, 3, none⟩ = some (.int .i64 m.f3) := (blk_cell BK3.out 3).trans rfl
  have fBK3_3 := blk_frozen BK3.out 3
  (try clear zBK3_4 fBK3_4)
  have zBK3_4 : w6.cell? ⟨wd.heap.size, 4, none⟩ = some (.slice W4 m.f4.length cw4) := (blk_cell BK3.out 4).trans rfl
  have fBK3_4 := blk_frozen BK3.out 4
  (try clear zBK3_5 fBK3_5)
  have zBK3_5 : w6.cell? ⟨wd.heap.size, 5, none⟩ = some (.int .i64 m.f5) := (blk_cell BK3.out 5).trans rfl
  have fBK3_5 := blk_frozen BK3.out 5
  (try clear zBK4_0 fBK4_0)
  have zBK4_0 : w6.cell? ⟨w5.heap.size, 0, none⟩ = some (.string m.f0) := (blk_cell BK4.out 0).trans rfl
  have fBK4_0 := blk_frozen BK4.out 0
  (try clear zBK4_1 fBK4_1)
  have zBK4_1 : w6.cell? ⟨w5.heap.size, 1, none⟩ = some (.int .i64 m.f1) := (blk_cell BK4.out 1).trans rfl
  have fBK4_1 := blk_frozen BK4.out 1
  (try clear zBK4_2 fBK4_2)
  have zBK4_2 : w6.cell? ⟨w5.heap.size, 2, none⟩ = some (.slice C2 m.f2.length cc2) := (blk_cell BK4.out 2).trans rfl
  have fBK4_2 := blk_frozen BK4.out 2
  (try clear zBK4_3 fBK4_3)
  have zBK4_3 : w6.cell? ⟨w5.heap.size, 3, none⟩ = some (.int .i64 m.f3) := (blk_cell BK4.out 3).trans rfl
  have fBK4_3 := blk_frozen BK4.out 3
  (try clear zBK4_4 fBK4_4)
  have zBK4_4 : w6.cell? ⟨w5.heap.size, 4, none⟩ = some (.slice C4 m.f4.length cc4) := (blk_cell BK4.out 4).trans rfl
  have fBK4_4 := blk_frozen BK4.out 4
  (try clear zBK4_5 fBK4_5)
  have zBK4_5 : w6.cell? ⟨w5.heap.size, 5, none⟩ = some (.int .i64 m.f5) := (blk_cell BK4.out 5).trans rfl
  have fBK4_5 := blk_frozen BK4.out 5
  clear hb
  obtain ⟨ks, hks⟩ := Ev.rounds (msplit_ev m HI.out (by have := HS.out; omega) (by have := HS.out; omega))
  obtain ⟨L, hL⟩ : ∃ L, (if metBad m = 0 then splitOf m else []) = L := ⟨_, rfl⟩
  obtain ⟨e0, he0⟩ : ∃ e0, metBad m = e0 := ⟨_, rfl⟩
  rw [hL, he0] at hks
  rw [he0] at hL
  have HKS := Aside0.mk hks
  have HLL := Aside0.mk hL
  have HE0 := Aside0.mk he0
  have HB6 := Aside0.mk (Below.refl w6.heap.size w6)
  have SB := HB
  have SK1 := BK1
  have SK3 := BK3
  have SK4 := BK4
  have S3 := HB3
  have S5 := HB5
  have S4 := HB4
  clear HB4
  clear hks hL he0
  go_wp2_with fail
  clear hw6
  refine (metric_Split.calls ks m.f0 m.f1 Av cv m.f2 m.f3 At ct m.f4 m.f5 L e0 w6 (Kd.C_below HM.out.v HB.out) HM.out.vc (Kd.C_below HM.out.t HB.out) HM.out.tc HKS.out).mono ?_
  rintro e w7 ⟨vl, rfl, hs, hb⟩
  obtain ⟨Al, cl, rfl, ll, ql⟩ := Kd.R_reads (Kd.S_R hs)
  obtain ⟨N, hN⟩ : ∃ N, L.length = N := ⟨_, rfl⟩
  rw [hN] at hs ⊢
  have HN := Aside0.mk hN
  have HEL : Aside0 (∀ n x, L[n]? = some x → e0 = 0 ∧ ∃ d, m.f2[n]? = some d ∧ x = (⟨m.f0, m.f1, [d], m.f3, m.f4, m.f5⟩ : S25)) := ⟨by
   intro n x hx
   by_cases h : e0 = 0
   ·have hL := HLL.out
    rw [if_pos h] at hL
    rw [← hL] at hx
    unfold splitOf at hx
    rw [List.getElem?_map] at hx
    obtain ⟨d, hd, he⟩ := Option.map_eq_some_iff.1 hx
    exact ⟨h, d, hd, he.symm⟩
   ·have hL := HLL.out
    rw [if_neg h] at hL
    rw [← hL] at hx
    cases hx⟩
  have HNE : Aside0 ((e0 = 0 ∧ N = m.f2.length) ∨ (e0 ≠ 0 ∧ N = 0)) := ⟨by
   rw [← hN, ← HLL.out]
   by_cases h : e0 = 0
   ·rw [if_pos h]; exact .inl ⟨h, by unfold splitOf; rw [List.length_map]⟩
   ·rw [if_neg h]; exact .inr ⟨h, rfl⟩⟩
  have HS7 := Aside0.mk hs
  clear hs ll ql hN
  have n0 := Aside0.mk (below_step HB.out hb)
  clear HB
  have HB := n0
  clear n0
  have n0 := Aside0.mk (below_step HB3.out hb)
  clear HB3
  have HB3 := n0
  clear n0
  have n0 := Aside0.mk (below_step HB5.out hb)
  clear HB5
  have HB5 := n0
  clear n0
  have n0 := Aside0.mk (below_step HB6.out hb)
  clear HB6
  have HB6 := n0
  clear n0
  have n0 := Aside0.mk (blk_below BK1.out hb)
  clear BK1
  have BK1 := n0
  clear n0
  have n0 := Aside0.mk (blk_below BK3.out hb)
  clear BK3
  have BK3 := n0
  clear n0
  have n0 := Aside0.mk (blk_below BK4.out hb)
  clear BK4
  have BK4 := n0
  clear n0
  (try clear zBK1_0 fBK1_0)
  have zBK1_0 : w7.cell? ⟨g1, 0, none⟩ = some (.string m.f0) := (blk_cell BK1.out 0).trans rfl
  have fBK1_0 := blk_frozen BK1.out 0
  (try clear zBK1_1 fBK1_1)
  have zBK1_1 : w7.cell? ⟨g1, 1, none⟩ = some (.int .i64 m.f1) := (blk_cell BK1.out 1).trans rfl
  have fBK1_1 := blk_frozen BK1.out 1
  (try clear zBK1_2 fBK1_2)
  have zBK1_2 : w7.cell? ⟨g1, 2, none⟩ = some (.slice Av m.f2.length cv) := (blk_cell BK1.out 2).trans rfl
  have fBK1_2 := blk_frozen BK1.out 2
  (try clear zBK1_3 fBK1_3)
  have zBK1_3 : w7.cell? ⟨g1, 3, none⟩ = some (.int .i64 m.f3) := (blk_cell BK1.out 3).trans rfl
  have fBK1_3 := blk_frozen BK1.out 3
  (try clear zBK1_4 fBK1_4)
  have zBK1_4 : w7.cell? ⟨g1, 4, none⟩ = some (.slice At m.f4.length ct) := (blk_cell BK1.out 4).trans rfl
  have fBK1_4 := blk_frozen BK1.out 4
  (try clear zBK1_5 fBK1_5)
  have zBK1_5 : w7.cell? ⟨g1, 5, none⟩ = some (.int .i64 m.f5) := (blk_cell BK1.out 5).trans rfl
  have fBK1_5 := blk_frozen BK1.out 5
  (try clear zBK3_0 fBK3_0)
  have zBK3_0 : w7.cell? ⟨wd.heap.size, 0, none⟩ = some (.string m.f0) := (blk_cell BK3.out 0).trans rfl
  have fBK3_0 := blk_frozen BK3.out 0
  (try clear zBK3_1 fBK3_1)
  have zBK3_1 : w7.cell? ⟨wd.heap.size, 1, none⟩ = some (.int .i64 m.f1) := (blk_cell BK3.out 1).trans rfl
  have fBK3_1 := blk_frozen BK3.out 1
  (try clear zBK3_2 fBK3_2)
  have zBK3_2 : w7.cell? ⟨wd.heap.size, 2, none⟩ = some (.slice W2 m.f2.length cw2) := (blk_cell BK3.out 2).trans rfl
  have fBK3_2 := blk_frozen BK3.out 2
  (try clear zBK3_3 fBK3_3)
  have zBK3_3 : w7.cell? ⟨wd.heap.size, 3, none⟩ = some (.int .i64 m.f3) := (blk_cell BK3.out 3).trans rfl
  have fBK3_3 := blk_frozen BK3.out 3
  (try clear zBK3_4 fBK3_4)
  have zBK3_4 : w7.cell? ⟨wd.heap.size, 4, none⟩ = some (.slice W4 m.f4.length cw4) := (blk_cell BK3.out 4).trans rfl
  have fBK3_4 := blk_frozen BK3.out 4
  (try clear zBK3_5 fBK3_5)
  have zBK3_5 : w7.cell? ⟨wd.heap.size, 5, none⟩ = some (.int .i64 m.f5) := (blk_cell BK3.out 5).trans rfl
  have fBK3_5 := blk_frozen BK3.out 5
  (try clear zBK4_0 fBK4_0)
  have zBK4_0 : w7.cell? ⟨w5.heap.size, 0, none⟩ = some (.string m.f0) := (blk_cell BK4.out 0).trans rfl
  have fBK4_0 := blk_frozen BK4.out 0
  (try clear zBK4_1 fBK4_1)
  have zBK4_1 : w7.cell? ⟨w5.heap.size, 1, none⟩ = some (.int .i64 m.f1) := (blk_cell BK4.out 1).trans rfl
  have fBK4_1 := blk_frozen BK4.out 1
  (try clear zBK4_2 fBK4_2)
  have zBK4_2 : w7.cell? ⟨w5.heap.size, 2, none⟩ = some (.slice C2 m.f2.length cc2) := (blk_cell BK4.out 2).trans rfl
  have fBK4_2 := blk_frozen BK4.out 2
  (try clear zBK4_3 fBK4_3)
  have zBK4_3 : w7.cell? ⟨w5.heap.size, 3, none⟩ = some (.int .i64 m.f3) := (blk_cell BK4.out 3).trans rfl
  have fBK4_3 := blk_frozen BK4.out 3
  (try clear zBK4_4 fBK4_4)
  have zBK4_4 : w7.cell? ⟨w5.heap.size, 4, none⟩ = some (.slice C4 m.f4.length cc4) := (blk_cell BK4.out 4).trans rfl
  have fBK4_4 := blk_frozen BK4.out 4
  (try clear zBK4_5 fBK4_5)
  have zBK4_5 : w7.cell? ⟨w5.heap.size, 5, none⟩ = some (.int .i64 m.f5) := (blk_cell BK4.out 5).trans rfl
  have fBK4_5 := blk_frozen BK4.out 5
  clear hb
  have HB7 := Aside0.mk (Below.refl w7.heap.size w7)
  go_wp2_with fail
  refine (mcheck_calls m Av cv At ct w7 (HM.out.below HB.out)).mono ?_
  rintro e w8 ⟨rfl, hb⟩
  rw [HE0.out]
  have n0 := Aside0.mk (below_step HB.out hb)
  clear HB
  have HB := n0
  clear n0
  have n0 := Aside0.mk (below_step HB3.out hb)
  clear HB3
  have HB3 := n0
  clear n0
  have n0 := Aside0.mk (below_step HB5.out hb)
  clear HB5
  have HB5 := n0
  clear n0
  have n0 := Aside0.mk (below_step HB6.out hb)
  clear HB6
  have HB6 := n0
  clear n0
  have n0 := Aside0.mk (below_step HB7.out hb)
  clear HB7
  have HB7 := n0
  clear n0
  have n0 := Aside0.mk (blk_below BK1.out hb)
  clear BK1
  have BK1 := n0
  clear n0
  have n0 := Aside0.mk (blk_below BK3.out hb)
  clear BK3
  have BK3 := n0
  clear n0
  have n0 := Aside0.mk (blk_below BK4.out hb)
  clear BK4
  have BK4 := n0
  clear n0
  (try clear zBK1_0 fBK1_0)
  have zBK1_0 : w8.cell? ⟨g1, 0, none⟩ = some (.string m.f0) := (blk_cell BK1.out 0).trans rfl
  have fBK1_0 := blk_frozen BK1.out 0
  (try clear zBK1_1 fBK1_1)
  have zBK1_1 : w8.cell? ⟨g1, 1, none⟩ = some (.int .i64 m.f1) := (blk_cell BK1.out 1).trans rfl
  have fBK1_1 := blk_frozen BK1.out 1
  (try clear zBK1_2 fBK1_2)
  have zBK1_2 : w8.cell? ⟨g1, 2, none⟩ = some (.slice Av m.f2.length cv) := (blk_cell BK1.out 2).trans rfl
  have fBK1_2 := blk_frozen BK1.out 2
  (try clear zBK1_3 fBK1_3)
  have zBK1_3 : w8.cell? ⟨g1, 3, none⟩ = some (.int .i64 m.f3) := (blk_cell BK1.out 3).trans rfl
  have fBK1_3 := blk_frozen BK1.out 3
  (try clear zBK1_4 fBK1_4)
  have zBK1_4 : w8.cell? ⟨g1, 4, none⟩ = some (.slice At m.f4.length ct) := (blk_cell BK1.out 4).trans rfl
  have fBK1_4 := blk_frozen BK1.out 4
  (try clear zBK1_5 fBK1_5)
  have zBK1_5 : w8.cell? ⟨g1, 5, none⟩ = some (.int .i64 m.f5) := (blk_cell BK1.out 5).trans rfl
  have fBK1_5 := blk_frozen BK1.out 5
  (try clear zBK3_0 fBK3_0)
  have zBK3_0 : w8.cell? ⟨wd.heap.size, 0, none⟩ = some (.string m.f0) := (blk_cell BK3.out 0).trans rfl
  have fBK3_0 := blk_frozen BK3.out 0
  (try clear zBK3_1 fBK3_1)
  have zBK3_1 : w8.cell? ⟨wd.heap.size, 1, none⟩ = some (.int .i64 m.f1) := (blk_cell BK3.out 1).trans rfl
  have fBK3_1 := blk_frozen BK3.out 1
  (try clear zBK3_2 fBK3_2)
  have zBK3_2 : w8.cell? ⟨wd.heap.size, 2, none⟩ = some (.slice W2 m.f2.length cw2) := (blk_cell BK3.out 2).trans rfl
  have fBK3_2 := blk_frozen BK3.out 2
  (try clear zBK3_3 fBK3_3)
  have zBK3_3 : w8.cell? ⟨wd.heap.size, 3, none⟩ = some (.int .i64 m.f3) := (blk_cell BK3.out 3).trans rfl
  have fBK3_3 := blk_frozen BK3.out 3
  (try clear zBK3_4 fBK3_4)
  have zBK3_4 : w8.cell? ⟨wd.heap.size, 4, none⟩ = some (.slice W4 m.f4.length cw4) := (blk_cell BK3.out 4).trans rfl
  have fBK3_4 := blk_frozen BK3.out 4
  (try clear zBK3_5 fBK3_5)
  have zBK3_5 : w8.cell? ⟨wd.heap.size, 5, none⟩ = some (.int .i64 m.f5) := (blk_cell BK3.out 5).trans rfl
  have fBK3_5 := blk_frozen BK3.out 5
  (try clear zBK4_0 fBK4_0)
  have zBK4_0 : w8.cell? ⟨w5.heap.size, 0, none⟩ = some (.string m.f0) := (blk_cell BK4.out 0).trans rfl
  have fBK4_0 := blk_frozen BK4.out 0
  (try clear zBK4_1 fBK4_1)
  have zBK4_1 : w8.cell? ⟨w5.heap.size, 1, none⟩ = some (.int .i64 m.f1) := (blk_cell BK4.out 1).trans rfl
  have fBK4_1 := blk_frozen BK4.out 1
  (try clear zBK4_2 fBK4_2)
  have zBK4_2 : w8.cell? ⟨w5.heap.size, 2, none⟩ = some (.slice C2 m.f2.length cc2) := (blk_cell BK4.out 2).trans rfl
  have fBK4_2 := blk_frozen BK4.out 2
  (try clear zBK4_3 fBK4_3)
  have zBK4_3 : w8.cell? ⟨w5.heap.size, 3, none⟩ = some (.int .i64 m.f3) := (blk_cell BK4.out 3).trans rfl
  have fBK4_3 := blk_frozen BK4.out 3
  (try clear zBK4_4 fBK4_4)
  have zBK4_4 : w8.cell? ⟨w5.heap.size, 4, none⟩ = some (.slice C4 m.f4.length cc4) := (blk_cell BK4.out 4).trans rfl
  have fBK4_4 := blk_frozen BK4.out 4
  (try clear zBK4_5 fBK4_5)
  have zBK4_5 : w8.cell? ⟨w5.heap.size, 5, none⟩ = some (.int .i64 m.f5) := (blk_cell BK4.out 5).trans rfl
  have fBK4_5 := blk_frozen BK4.out 5
  clear hb
  have hne : (e0 != e0) = false := bne_self_eq_false e0
  go_wp2_with fail
  refine (mequal_calls m m C2 cc2 C4 cc4 Av cv At ct w8 (HCC.out.below HB5.out) (HM.out.below HB.out) (by have := HS.out; omega) (by have := HS.out; omega)).mono ?_
  rintro e w9 ⟨rfl, hb⟩
  rw [(metEq_iff m m).2 rfl]
  have n0 := Aside0.mk (below_step HB.out hb)
  clear HB
  have HB := n0
  clear n0
  have n0 := Aside0.mk (below_step HB3.out hb)
  clear HB3
  have HB3 := n0
  clear n0
  have n0 := Aside0.mk (below_step HB5.out hb)
  clear HB5
  have HB5 := n0
  clear n0
  have n0 := Aside0.mk (below_step HB6.out hb)
  clear HB6
  have HB6 := n0
  clear n0
  have n0 := Aside0.mk (below_step HB7.out hb)
  clear HB7
  have HB7 := n0
  clear n0
  have n0 := Aside0.mk (blk_below BK1.out hb)
  clear BK1
  have BK1 := n0
  clear n0
  have n0 := Aside0.mk (blk_below BK3.out hb)
  clear BK3
  have BK3 := n0
  clear n0
  have n0 := Aside0.mk (blk_below BK4.out hb)
  clear BK4
  have BK4 := n0
  clear n0
  (try clear zBK1_0 fBK1_0)
  have zBK1_0 : w9.cell? ⟨g1, 0, none⟩ = some (.string m.f0) := (blk_cell BK1.out 0).trans rfl
  have fBK1_0 := blk_frozen BK1.out 0
  (try clear zBK1_1 fBK1_1)
  have zBK1_1 : w9.cell? ⟨g1, 1, none⟩ = some (.int .i64 m.f1) := (blk_cell BK1.out 1).trans rfl
  have fBK1_1 := blk_frozen BK1.out 1
  (try clear zBK1_2 fBK1_2)
  have zBK1_2 : w9.cell? ⟨g1, 2, none⟩ = some (.slice Av m.f2.length cv) := (blk_cell BK1.out 2).trans rfl
  have fBK1_2 := blk_frozen BK1.out 2
  (try clear zBK1_3 fBK1_3)
  have zBK1_3 : w9.cell? ⟨g1, 3, none⟩ = some (.int .i64 m.f3) := (blk_cell BK1.out 3).trans rfl
  have fBK1_3 := blk_frozen BK1.out 3
  (try clear zBK1_4 fBK1_4)
  have zBK1_4 : w9.cell? ⟨g1, 4, none⟩ = some (.slice At m.f4.length ct) := (blk_cell BK1.out 4).trans rfl
  have fBK1_4 := blk_frozen BK1.out 4
  (try clear zBK1_5 fBK1_5)
  have zBK1_5 : w9.cell? ⟨g1, 5, none⟩ = some (.int .i64 m.f5) := (blk_cell BK1.out 5).trans rfl
  have fBK1_5 := blk_frozen BK1.out 5
  (try clear zBK3_0 fBK3_0)
  have zBK3_0 : w9.cell? ⟨wd.heap.size, 0, none⟩ = some (.string m.f0) := (blk_cell BK3.out 0).trans rfl
  have fBK3_0 := blk_frozen BK3.out 0
  (try clear zBK3_1 fBK3_1)
  have zBK3_1 : w9.cell? ⟨wd.heap.size, 1, none⟩ = some (.int .i64 m.f1) := (blk_cell BK3.out 1).trans rfl
  have fBK3_1 := blk_frozen BK3.out 1
  (try clear zBK3_2 fBK3_2)
  have zBK3_2 : w9.cell? ⟨wd.heap.size, 2, none⟩ = some (.slice W2 m.f2.length cw2) := (blk_cell BK3.out 2).trans rfl
  have fBK3_2 := blk_frozen BK3.out 2
  (try clear zBK3_3 fBK3_3)
  have zBK3_3 : w9.cell? ⟨wd.heap.size, 3, none⟩ = some (.int .i64 m.f3) := (blk_cell BK3.out 3).trans rfl
  have fBK3_3 := blk_frozen BK3.out 3
  (try clear zBK3_4 fBK3_4)
  have zBK3_4 : w9.cell? ⟨wd.heap.size, 4, none⟩ = some (.slice W4 m.f4.length cw4) := (blk_cell BK3.out 4).trans rfl
  have fBK3_4 := blk_frozen BK3.out 4
  (try clear zBK3_5 fBK3_5)
  have zBK3_5 : w9.cell? ⟨wd.heap.size, 5, none⟩ = some (.int .i64 m.f5) := (blk_cell BK3.out 5).trans rfl
  have fBK3_5 := blk_frozen BK3.out 5
  (try clear zBK4_0 fBK4_0)
  have zBK4_0 : w9.cell? ⟨w5.heap.size, 0, none⟩ = some (.string m.f0) := (blk_cell BK4.out 0).trans rfl
  have fBK4_0 := blk_frozen BK4.out 0
  (try clear zBK4_1 fBK4_1)
  have zBK4_1 : w9.cell? ⟨w5.heap.size, 1, none⟩ = some (.int .i64 m.f1) := (blk_cell BK4.out 1).trans rfl
  have fBK4_1 := blk_frozen BK4.out 1
  (try clear zBK4_2 fBK4_2)
  have zBK4_2 : w9.cell? ⟨w5.heap.size, 2, none⟩ = some (.slice C2 m.f2.length cc2) := (blk_cell BK4.out 2).trans rfl
  have fBK4_2 := blk_frozen BK4.out 2
  (try clear zBK4_3 fBK4_3)
  have zBK4_3 : w9.cell? ⟨w5.heap.size, 3, none⟩ = some (.int .i64 m.f3) := (blk_cell BK4.out 3).trans rfl
  have fBK4_3 := blk_frozen BK4.out 3
  (try clear zBK4_4 fBK4_4)
  have zBK4_4 : w9.cell? ⟨w5.heap.size, 4, none⟩ = some (.slice C4 m.f4.length cc4) := (blk_cell BK4.out 4).trans rfl
  have fBK4_4 := blk_frozen BK4.out 4
  (try clear zBK4_5 fBK4_5)
  have zBK4_5 : w9.cell? ⟨w5.heap.size, 5, none⟩ = some (.int .i64 m.f5) := (blk_cell BK4.out 5).trans rfl
  have fBK4_5 := blk_frozen BK4.out 5
  clear hb
  rcases HNE.out with ⟨h0, hN0⟩ | ⟨h0, hN0⟩
  ·have t1 : (e0 != 0) = false := by rw [h0]; rfl
   have t2 : (e0 == 0) = true := by rw [h0]; rfl
   have t3 : ((N : Int) != (m.f2.length : Int)) = false := by rw [hN0]; exact bne_self_eq_false _
   have t4 : (N != m.f2.length) = false := by rw [hN0]; exact bne_self_eq_false _
   clear h0 hN0
   go_wp2_with fail
   go_loopw [7] (fun i wr => ∃ (k : Int) (n : Nat) (xs : List S25), i = .int .i64 k ∧ Aside0 (k = (n : Int)) ∧ Aside0 (n ≤ N ∧ ∀ j, n ≤ j → xs[j]? = L[j]?) ∧ Aside0 (Kd.S k25 25 wr w6.heap.size (fun _ => True) (.slice Al N cl) xs) ∧ Aside0 (Below w6.heap.size w6 wr)) (fun i wr => eaLeft N i)
   case atStart => exact ⟨0, 0, L, rfl, ⟨rfl⟩, ⟨⟨Nat.zero_le _, fun _ _ => rfl⟩⟩, ⟨Kd.S_below HS7.out HB7.out⟩, HB6⟩
   case round =>
    clear HB HB3 HB5 HB6 HB7 BK1 BK3 BK4
    obtain ⟨k, n, xs, rfl, HK, HP, HSX, HB6⟩ := hrel
    have hk := HK.out
    have HBW : Aside0 (Below w.heap.size w wr) := ⟨SB.out.trans (HB6.out.mono SB.out.size)⟩
    by_cases hlt : n < N
    ·have hi0 : 0 ≤ k := by omega
     have hi1 : k < (N : Int) := by omega
     have hd : decide (k < (N : Int)) = true := decide_eq_true hi1
     have hd0 : decide (0 ≤ k) = true := decide_eq_true hi0
     have hxn := (Kd.R_reads' (Kd.S_R HSX.out)).1
     obtain ⟨ad, A2, c2, A4, c4, ee, x0, x1, x2, x3, x4, x5, l2, i2, l4, i4⟩ := at_T25 (Kd.R_reads' (Kd.S_R HSX.out)).2.2 k hi0 (by omega)
     cases ee
     obtain ⟨m1, hm1⟩ : ∃ m, rd_T25 xs k = m := ⟨_, rfl⟩
     have hget : xs[n]? = some m1 := by
      rw [← hm1]
      unfold rd_T25
      rw [hk, Int.toNat_natCast, List.getD_eq_getElem?_getD, List.getElem?_eq_getElem (by rw [← hxn]; exact hlt)]
      rfl
     rw [hm1] at x0 x1 x2 x3 x4 x5 l2 i2 l4 i4
     clear hm1 hxn
     obtain ⟨h00, d, hd1, rfl⟩ := HEL.out n m1 ((HP.out.2 n (Nat.le_refl _)).symm.trans hget)
     obtain ⟨y, v2, v4, oki, hy, q2, q4, r2, r4, _, bk2, bk4⟩ := msp_borrow HSX.out n hlt
     rw [hget] at hy
     cases hy
     have hkn : k.toNat = n := by omega
     rw [← hkn] at q2 q4
     have hv2 := Option.some.inj (x2.symm.trans q2)
     have hv4 := Option.some.inj (x4.symm.trans q4)
     subst hv2 hv4
     have HM1 : Aside0 (MetC (⟨m.f0, m.f1, [d], m.f3, m.f4, m.f5⟩ : S25) A2 c2 A4 c4 wr) := ⟨PE.metC_of i2 l2 i4 l4 (one_in m d HI.out (List.mem_of_getElem? hd1))⟩
     have HMB : Aside0 (metBad (⟨m.f0, m.f1, [d], m.f3, m.f4, m.f5⟩ : S25) = 0) := ⟨one_bad m d (HE0.out.trans h00) (List.mem_of_getElem? hd1)⟩
     obtain ⟨gv, cv1, ev, hr2, _, curv, hcv⟩ := Kd.R_form r2 (by simp)
     cases ev
     have hdr := (DRow.of_R r2).1
     have hdc := hdr.cell (j := 0) rfl
     have BKV := Aside0.mk hcv
     have HVC : Aside0 (wr.cell? ⟨gv, 0, none⟩ = some (.bool d.f0) ∧ wr.cell? ⟨gv, 1, none⟩ = some (.int .u64 d.f1) ∧ wr.cell? ⟨gv, 2, none⟩ = some (.int .i64 d.f2)) := ⟨by simpa using hdc⟩
     have HGV : Aside0 (gv < wr.heap.size) := ⟨blk_lt hcv⟩
     have hkm : n < m.f2.length := (List.getElem?_eq_some_iff.1 hd1).1
     obtain ⟨av, eav, u0, u1, u2⟩ := at_T40 (Kd.C_below HM.out.v HBW.out) k hi0 (by omega)
     cases eav
     have hrd : rd_T40 m.f2 k = d := by
      rw [hk, rd_dec m.f2 n hkm]
      exact (List.getElem?_eq_some_iff.1 hd1).2
     rw [hrd] at u0 u1 u2
     have HYU : Aside0 (∀ W', Below wr.heap.size wr W' → (W'.cell? ⟨gv, 0, none⟩ = some (.bool d.f0) ∧ W'.cell? ⟨gv, 1, none⟩ = some (.int .u64 d.f1) ∧ W'.cell? ⟨gv, 2, none⟩ = some (.int .i64 d.f2)) ∧ W'.cell? (av.add (k.toNat * 3)) = some (.bool d.f0) ∧ W'.cell? ⟨(av.add (k.toNat * 3)).block, (av.add (k.toNat * 3)).off + 1, none⟩ = some (.int .u64 d.f1) ∧ W'.cell? ⟨(av.add (k.toNat * 3)).block, (av.add (k.toNat * 3)).off + 2, none⟩ = some (.int .i64 d.f2)) := ⟨fun W' hb => ⟨⟨(hb.cell (World.block_lt_of_cell? _ _ HVC.out.1)).trans HVC.out.1, (hb.cell (World.block_lt_of_cell? _ _ HVC.out.2.1)).trans HVC.out.2.1, (hb.cell (World.block_lt_of_cell? _ _ HVC.out.2.2)).trans HVC.out.2.2⟩, (hb.cell (World.block_lt_of_cell? _ _ u0)).trans u0, (hb.cell (World.block_lt_of_cell? _ _ u1)).trans u1, (hb.cell (World.block_lt_of_cell? _ _ u2)).trans u2⟩⟩
     have X2 : wr.cell? ⟨(ad.add (k.toNat * 6)).block, (ad.add (k.toNat * 6)).off + 2, none⟩ = some (.slice (some ⟨gv, 0, none⟩) 1 c2) := x2
     have X4 : wr.cell? ⟨(ad.add (k.toNat * 6)).block, (ad.add (k.toNat * 6)).off + 4, none⟩ = some (.slice A4 m.f4.length c4) := x4
     have X0 : wr.cell? (ad.add (k.toNat * 6)) = some (.string m.f0) := x0
     have X1 : wr.cell? ⟨(ad.add (k.toNat * 6)).block, (ad.add (k.toNat * 6)).off + 1, none⟩ = some (.int .i64 m.f1) := x1
     have X3 : wr.cell? ⟨(ad.add (k.toNat * 6)).block, (ad.add (k.toNat * 6)).off + 3, none⟩ = some (.int .i64 m.f3) := x3
     have X5 : wr.cell? ⟨(ad.add (k.toNat * 6)).block, (ad.add (k.toNat * 6)).off + 5, none⟩ = some (.int .i64 m.f5) := x5
     have HR2V := Aside0.mk r2
     have HR4V := Aside0.mk r4
     have HBK2 := Aside0.mk bk2
     have HBK4 := Aside0.mk bk4
     have HDR := Aside0.mk hdr
     have HKN := Aside0.mk hkn
     have HXL : Aside0 (n < xs.length) := ⟨(List.getElem?_eq_some_iff.1 hget).1⟩
     have HD1 := Aside0.mk hd1
     have HKM := Aside0.mk (show k < (m.f2.length : Int) by omega)
     have HLT := Aside0.mk hlt
     have HI2 := Aside0.mk (And.intro hi0 hi1)
     have hadd : wrap64 (k + 1) = k + 1 := by
      unfold wrap64
      have := HS.out
      have := HNE.out
      omega
     have HADD := Aside0.mk hadd
     have hkd : decide (k < (m.f2.length : Int)) = true := decide_eq_true HKM.out
     have hkp := eq_true HKM.out
     have hip := eq_true HI2.out.1
     have BK1 := Aside0.mk (blk_below SK1.out HB6.out)
     have HBR := Aside0.mk (Below.refl wr.heap.size wr)
     clear h00 x0 x1 x2 x3 x4 x5 q2 q4 u0 u1 u2 r2 r4 bk2 bk4 hdr hdc hkn hlt hk hcv hget hrd hadd hkm l2 l4 i2 i4 hd1
     have HCK : Aside0 (∀ W', Below wr.heap.size wr W' → Calls Try.prog 16 #[.agg #[.string m.f0, .int .i64 m.f1, .slice (some ⟨gv, 0, none⟩) 1 c2, .int .i64 m.f3, .slice A4 m.f4.length c4, .int .i64 m.f5]] W' fun e w' => e = .returned (.int .i64 0) ∧ Below W'.heap.size W' w') := ⟨fun W' hb => by
      have h := mcheck_calls (⟨m.f0, m.f1, [d], m.f3, m.f4, m.f5⟩ : S25) (some ⟨gv, 0, none⟩) c2 A4 c4 W' (HM1.out.below hb)
      rw [HMB.out] at h
      exact h⟩
     have hb : Below wr.heap.size wr (wr.alloc (.cells #[.string m.f0, .int .i64 m.f1, .slice (some ⟨gv, 0, none⟩) 1 c2, .int .i64 m.f3, .slice A4 m.f4.length c4, .int .i64 m.f5] 25)) := below_alloc (Below.refl _ _) _
     have hbox : (wr.alloc (.cells #[.string m.f0, .int .i64 m.f1, .slice (some ⟨gv, 0, none⟩) 1 c2, .int .i64 m.f3, .slice A4 m.f4.length c4, .int .i64 m.f5] 25)).heap[wr.heap.size]? = some (.cells #[.string m.f0, .int .i64 m.f1, .slice (some ⟨gv, 0, none⟩) 1 c2, .int .i64 m.f3, .slice A4 m.f4.length c4, .int .i64 m.f5] 25 (0, 0)) := blk_new wr _
     generalize hwx : wr.alloc (.cells #[.string m.f0, .int .i64 m.f1, .slice (some ⟨gv, 0, none⟩) 1 c2, .int .i64 m.f3, .slice A4 m.f4.length c4, .int .i64 m.f5] 25) = wx at hb hbox
     have n0 := Aside0.mk (below_step HBR.out hb)
     clear HBR
     have HBR := n0
     clear n0
     have n0 := Aside0.mk (below_step HBW.out hb)
     clear HBW
     have HBW := n0
     clear n0
     have n0 := Aside0.mk (blk_below BK1.out hb)
     clear BK1
     have BK1 := n0
     clear n0
     have BKX := Aside0.mk hbox
     clear hbox
     (try clear zBK1_0 fBK1_0)
     have zBK1_0 : wx.cell? ⟨g1, 0, none⟩ = some (.string m.f0) := (blk_cell BK1.out 0).trans rfl
     have fBK1_0 := blk_frozen BK1.out 0
     (try clear zBK1_1 fBK1_1)
     have zBK1_1 : wx.cell? ⟨g1, 1, none⟩ = some (.int .i64 m.f1) := (blk_cell BK1.out 1).trans rfl
     have fBK1_1 := blk_frozen BK1.out 1
     (try clear zBK1_2 fBK1_2)
     have zBK1_2 : wx.cell? ⟨g1, 2, none⟩ = some (.slice (some av) m.f2.length cv) := (blk_cell BK1.out 2).trans rfl
     have fBK1_2 := blk_frozen BK1.out 2
     (try clear zBK1_3 fBK1_3)
     have zBK1_3 : wx.cell? ⟨g1, 3, none⟩ = some (.int .i64 m.f3) := (blk_cell BK1.out 3).trans rfl
     have fBK1_3 := blk_frozen BK1.out 3
     (try clear zBK1_4 fBK1_4)
     have zBK1_4 : wx.cell? ⟨g1, 4, none⟩ = some (.slice At m.f4.length ct) := (blk_cell BK1.out 4).trans rfl
     have fBK1_4 := blk_frozen BK1.out 4
     (try clear zBK1_5 fBK1_5)
     have zBK1_5 : wx.cell? ⟨g1, 5, none⟩ = some (.int .i64 m.f5) := (blk_cell BK1.out 5).trans rfl
     have fBK1_5 := blk_frozen BK1.out 5
     (try clear zBKX_0 fBKX_0)
     have zBKX_0 : wx.cell? ⟨wr.heap.size, 0, none⟩ = some (.string m.f0) := (blk_cell BKX.out 0).trans rfl
     have fBKX_0 := blk_frozen BKX.out 0
     (try clear zBKX_1 fBKX_1)
     have zBKX_1 : wx.cell? ⟨wr.heap.size, 1, none⟩ = some (.int .i64 m.f1) := (blk_cell BKX.out 1).trans rfl
     have fBKX_1 := blk_frozen BKX.out 1
     (try clear zBKX_2 fBKX_2)
     have zBKX_2 : wx.cell? ⟨wr.heap.size, 2, none⟩ = some (.slice (some ⟨gv, 0, none⟩) 1 c2) := (blk_cell BKX.out 2).trans rfl
     have fBKX_2 := blk_frozen BKX.out 2
     (try clear zBKX_3 fBKX_3)
     have zBKX_3 : wx.cell? ⟨wr.heap.size, 3, none⟩ = some (.int .i64 m.f3) := (blk_cell BKX.out 3).trans rfl
     have fBKX_3 := blk_frozen BKX.out 3
     (try clear zBKX_4 fBKX_4)
     have zBKX_4 : wx.cell? ⟨wr.heap.size, 4, none⟩ = some (.slice A4 m.f4.length c4) := (blk_cell BKX.out 4).trans rfl
     have fBKX_4 := blk_frozen BKX.out 4
     (try clear zBKX_5 fBKX_5)
     have zBKX_5 : wx.cell? ⟨wr.heap.size, 5, none⟩ = some (.int .i64 m.f5) := (blk_cell BKX.out 5).trans rfl
     have fBKX_5 := blk_frozen BKX.out 5
     clear hb
     go_wp2
     refine start_ (n := 21) (S := fun w' => w'.cell? ⟨gv, 0, none⟩ = some (.bool d.f0) ∧ w'.cell? ⟨gv, 1, none⟩ = some (.int .u64 d.f1) ∧ w'.cell? ⟨gv, 2, none⟩ = some (.int .i64 d.f2) ∧ w'.cell? (av.add (k.toNat * 3)) = some (.bool d.f0) ∧ w'.cell? ⟨(av.add (k.toNat * 3)).block, (av.add (k.toNat * 3)).off + 1, none⟩ = some (.int .u64 d.f1) ∧ w'.cell? ⟨(av.add (k.toNat * 3)).block, (av.add (k.toNat * 3)).off + 2, none⟩ = some (.int .i64 d.f2) ∧ w'.cell? ⟨wr.heap.size, 0, none⟩ = some (.string m.f0) ∧ w'.cell? ⟨wr.heap.size, 1, none⟩ = some (.int .i64 m.f1) ∧ w'.cell? ⟨wr.heap.size, 2, none⟩ = some (.slice (some ⟨gv, 0, none⟩) 1 c2) ∧ w'.cell? ⟨wr.heap.size, 3, none⟩ = some (.int .i64 m.f3) ∧ w'.cell? ⟨wr.heap.size, 4, none⟩ = some (.slice A4 m.f4.length c4) ∧ w'.cell? ⟨wr.heap.size, 5, none⟩ = some (.int .i64 m.f5) ∧ w'.cell? ⟨g1, 0, none⟩ = some (.string m.f0) ∧ w'.cell? ⟨g1, 1, none⟩ = some (.int .i64 m.f1) ∧ w'.cell? ⟨g1, 2, none⟩ = some (.slice (some av) m.f2.length cv) ∧ w'.cell? ⟨g1, 3, none⟩ = some (.int .i64 m.f3) ∧ w'.cell? ⟨g1, 4, none⟩ = some (.slice At m.f4.length ct) ∧ w'.cell? ⟨g1, 5, none⟩ = some (.int .i64 m.f5)) (ds := []) #[false, false, false, false, false, false, false, false, false, false, false, false, false, false, false, false, false, false, false, false, false] (by kernel_rfl) rfl rfl ⟨(HYU.out _ (below_drew1 HBR.out)).1.1, (HYU.out _ (below_drew1 HBR.out)).1.2.1, (HYU.out _ (below_drew1 HBR.out)).1.2.2, (HYU.out _ (below_drew1 HBR.out)).2.1, (HYU.out _ (below_drew1 HBR.out)).2.2.1, (HYU.out _ (below_drew1 HBR.out)).2.2.2, (blk_cell (blk_drew BKX.out) 0).trans rfl, (blk_cell (blk_drew BKX.out) 1).trans rfl, (blk_cell (blk_drew BKX.out) 2).trans rfl, (blk_cell (blk_drew BKX.out) 3).trans rfl, (blk_cell (blk_drew BKX.out) 4).trans rfl, (blk_cell (blk_drew BKX.out) 5).trans rfl, (blk_cell (blk_drew BK1.out) 0).trans rfl, (blk_cell (blk_drew BK1.out) 1).trans rfl, (blk_cell (blk_drew BK1.out) 2).trans rfl, (blk_cell (blk_drew BK1.out) 3).trans rfl, (blk_cell (blk_drew BK1.out) 4).trans rfl, (blk_cell (blk_drew BK1.out) 5).trans rfl⟩ (fun hHeld => ?_)
     refine pure_ (i := 0) (N := some 64) (v := ?_) (a' := ?_) #[true, false, false, false, false, false, false, false, false, false, false, false, false, false, false, false, false, false, false, false, false] rfl rfl (by kernel_rfl) (fun _ _ _ h => h) (Or.inl ⟨by rfl, ?_⟩) ?_ ?_
     rotate_left
     ·intro w'
      go_simp
      with_reducible rfl
     rotate_left
     ·simp only [Act.put, List.setIfInBounds_toArray, List.set_cons_zero, List.set_cons_succ, i64_w, i32_w]
      rfl
     refine take_ (i := 1) (N := some 65) (v := ?_) (a' := ?_) #[true, true, false, false, false, false, false, false, false, false, false, false, false, false, false, false, false, false, false, false, false] rfl rfl (by kernel_rfl) (fun _ _ _ h => h) (Or.inl ⟨by rfl, ?_⟩) hHeld ?_ ?_
     rotate_left
     ·rintro w' ⟨s0, s1, s2, s3, s4, s5, s6, s7, s8, s9, s10, s11, s12, s13, s14, s15, s16, s17⟩
      go_simp
      with_reducible rfl
     rotate_left
     ·simp only [Act.put, List.setIfInBounds_toArray, List.set_cons_zero, List.set_cons_succ, i64_w, i32_w]
      rfl
     refine pure_ (i := 2) (N := some 66) (v := ?_) (a' := ?_) #[true, true, true, false, false, false, false, false, false, false, false, false, false, false, false, false, false, false, false, false, false] rfl rfl (by kernel_rfl) (fun _ _ _ h => h) (Or.inl ⟨by rfl, ?_⟩) ?_ ?_
     rotate_left
     ·intro w'
      go_simp
      with_reducible rfl
     rotate_left
     ·simp only [Act.put, List.setIfInBounds_toArray, List.set_cons_zero, List.set_cons_succ, i64_w, i32_w]
      rfl
     refine pure_ (i := 3) (N := some 67) (v := ?_) (a' := ?_) #[true, true, true, true, false, false, false, false, false, false, false, false, false, false, false, false, false, false, false, false, false] rfl rfl (by kernel_rfl) (fun _ _ _ h => h) (Or.inl ⟨by rfl, ?_⟩) ?_ ?_
     rotate_left
     ·intro w'
      go_simp
      with_reducible rfl
     rotate_left
     ·simp only [Act.put, List.setIfInBounds_toArray, List.set_cons_zero, List.set_cons_succ, i64_w, i32_w]
      rfl
     refine pure_ (i := 4) (N := some 68) (v := ?_) (a' := ?_) #[true, true, true, true, true, false, false, false, false, false, false, false, false, false, false, false, false, false, false, false, false] rfl rfl (by kernel_rfl) (fun _ _ _ h => h) (Or.inl ⟨by rfl, ?_⟩) ?_ ?_
     rotate_left
     ·intro w'
      go_simp
      with_reducible rfl
     rotate_left
     ·simp only [Act.put, List.setIfInBounds_toArray, List.set_cons_zero, List.set_cons_succ, i64_w, i32_w]
      rfl
     refine pure_ (i := 5) (N := some 69) (v := ?_) (a' := ?_) #[true, true, true, true, true, true, false, false, false, false, false, false, false, false, false, false, false, false, false, false, false] rfl rfl (by kernel_rfl) (fun _ _ _ h => h) (Or.inl ⟨by rfl, ?_⟩) ?_ ?_
     rotate_left
     ·intro w'
      go_simp
      with_reducible rfl
     rotate_left
     ·simp only [Act.put, List.setIfInBounds_toArray, List.set_cons_zero, List.set_cons_succ, i64_w, i32_w]
      rfl
     refine pure_ (i := 9) (N := some 73) (v := ?_) (a' := ?_) #[true, true, true, true, true, true, false, false, false, true, false, false, false, false, false, false, false, false, false, false, false] rfl rfl (by kernel_rfl) (fun _ _ _ h => h) (Or.inl ⟨by rfl, ?_⟩) ?_ ?_
     rotate_left
     ·intro w'
      go_simp
      with_reducible rfl
     rotate_left
     ·simp only [Act.put, List.setIfInBounds_toArray, List.set_cons_zero, List.set_cons_succ, i64_w, i32_w]
      rfl
     refine pure_ (i := 11) (N := some 75) (v := ?_) (a' := ?_) #[true, true, true, true, true, true, false, false, false, true, false, true, false, false, false, false, false, false, false, false, false] rfl rfl (by kernel_rfl) (fun _ _ _ h => h) (Or.inl ⟨by rfl, ?_⟩) ?_ ?_
     rotate_left
     ·intro w'
      go_simp
      with_reducible rfl
     rotate_left
     ·simp only [Act.put, List.setIfInBounds_toArray, List.set_cons_zero, List.set_cons_succ, i64_w, i32_w]
      rfl
     refine take_ (i := 6) (N := some 70) (v := ?_) (a' := ?_) #[true, true, true, true, true, true, true, false, false, true, false, true, false, false, false, false, false, false, false, false, false] rfl rfl (by kernel_rfl) (fun _ _ _ h => h) (Or.inl ⟨by rfl, ?_⟩) hHeld ?_ ?_
     rotate_left
     ·rintro w' ⟨s0, s1, s2, s3, s4, s5, s6, s7, s8, s9, s10, s11, s12, s13, s14, s15, s16, s17⟩
      go_simp
      with_reducible rfl
     rotate_left
     ·simp only [Act.put, List.setIfInBounds_toArray, List.set_cons_zero, List.set_cons_succ, i64_w, i32_w]
      rfl
     refine pure_ (i := 7) (N := some 71) (v := ?_) (a' := ?_) #[true, true, true, true, true, true, true, true, false, true, false, true, false, false, false, false, false, false, false, false, false] rfl rfl (by kernel_rfl) (fun _ _ _ h => h) (Or.inl ⟨by rfl, ?_⟩) ?_ ?_
     rotate_left
     ·intro w'
      go_simp
      with_reducible rfl
     rotate_left
     ·simp only [Act.put, List.setIfInBounds_toArray, List.set_cons_zero, List.set_cons_succ, i64_w, i32_w]
      rfl
     refine take_ (i := 8) (N := some 72) (v := ?_) (a' := ?_) #[true, true, true, true, true, true, true, true, true, true, false, true, false, false, false, false, false, false, false, false, false] rfl rfl (by kernel_rfl) (fun _ _ _ h => h) (Or.inl ⟨by rfl, ?_⟩) hHeld ?_ ?_
     rotate_left
     ·rintro w' ⟨s0, s1, s2, s3, s4, s5, s6, s7, s8, s9, s10, s11, s12, s13, s14, s15, s16, s17⟩
      go_simp
      with_reducible rfl
     rotate_left
     ·simp only [Act.put, List.setIfInBounds_toArray, List.set_cons_zero, List.set_cons_succ, i64_w, i32_w]
      rfl
     refine take_ (i := 10) (N := some 74) (v := ?_) (a' := ?_) #[true, true, true, true, true, true, true, true, true, true, true, true, false, false, false, false, false, false, false, false, false] rfl rfl (by kernel_rfl) (fun _ _ _ h => h) (Or.inl ⟨by rfl, ?_⟩) hHeld ?_ ?_
     rotate_left
     ·rintro w' ⟨s0, s1, s2, s3, s4, s5, s6, s7, s8, s9, s10, s11, s12, s13, s14, s15, s16, s17⟩
      go_simp
      with_reducible rfl
     rotate_left
     ·simp only [Act.put, List.setIfInBounds_toArray, List.set_cons_zero, List.set_cons_succ, i64_w, i32_w]
      rfl
     refine pure_ (i := 12) (N := some 76) (v := ?_) (a' := ?_) #[true, true, true, true, true, true, true, true, true, true, true, true, true, false, false, false, false, false, false, false, false] rfl rfl (by kernel_rfl) (fun _ _ _ h => h) (Or.inl ⟨by rfl, ?_⟩) ?_ ?_
     rotate_left
     ·intro w'
      go_simp
      with_reducible rfl
     rotate_left
     ·simp only [Act.put, List.setIfInBounds_toArray, List.set_cons_zero, List.set_cons_succ, i64_w, i32_w]
      rfl
     refine take_ (i := 13) (N := some 77) (v := ?_) (a' := ?_) #[true, true, true, true, true, true, true, true, true, true, true, true, true, true, false, false, false, false, false, false, false] rfl rfl (by kernel_rfl) (fun _ _ _ h => h) (Or.inl ⟨by rfl, ?_⟩) hHeld ?_ ?_
     rotate_left
     ·rintro w' ⟨s0, s1, s2, s3, s4, s5, s6, s7, s8, s9, s10, s11, s12, s13, s14, s15, s16, s17⟩
      go_simp
      with_reducible rfl
     rotate_left
     ·simp only [Act.put, List.setIfInBounds_toArray, List.set_cons_zero, List.set_cons_succ, i64_w, i32_w]
      rfl
     refine pure_ (i := 14) (N := some 78) (v := ?_) (a' := ?_) #[true, true, true, true, true, true, true, true, true, true, true, true, true, true, true, false, false, false, false, false, false] rfl rfl (by kernel_rfl) (fun _ _ _ h => h) (Or.inl ⟨by rfl, ?_⟩) ?_ ?_
     rotate_left
     ·intro w'
      go_simp
      with_reducible rfl
     rotate_left
     ·simp only [Act.put, List.setIfInBounds_toArray, List.set_cons_zero, List.set_cons_succ, i64_w, i32_w]
      rfl
     refine pure_ (i := 15) (N := some 79) (v := ?_) (a' := ?_) #[true, true, true, true, true, true, true, true, true, true, true, true, true, true, true, true, false, false, false, false, false] rfl rfl (by kernel_rfl) (fun _ _ _ h => h) (Or.inl ⟨by rfl, ?_⟩) ?_ ?_
     rotate_left
     ·intro w'
      go_simp
      with_reducible rfl
     rotate_left
     ·simp only [Act.put, List.setIfInBounds_toArray, List.set_cons_zero, List.set_cons_succ, i64_w, i32_w]
      rfl
     refine pure_ (i := 16) (N := some 80) (v := ?_) (a' := ?_) #[true, true, true, true, true, true, true, true, true, true, true, true, true, true, true, true, true, false, false, false, false] rfl rfl (by kernel_rfl) (fun _ _ _ h => h) (Or.inl ⟨by rfl, ?_⟩) ?_ ?_
     rotate_left
     ·intro w'
      go_simp
      with_reducible rfl
     rotate_left
     ·simp only [Act.put, List.setIfInBounds_toArray, List.set_cons_zero, List.set_cons_succ, i64_w, i32_w]
      rfl
     refine take_ (i := 17) (N := some 81) (v := ?_) (a' := ?_) #[true, true, true, true, true, true, true, true, true, true, true, true, true, true, true, true, true, true, false, false, false] rfl rfl (by kernel_rfl) (fun _ _ _ h => h) (Or.inl ⟨by rfl, ?_⟩) hHeld ?_ ?_
     rotate_left
     ·rintro w' ⟨s0, s1, s2, s3, s4, s5, s6, s7, s8, s9, s10, s11, s12, s13, s14, s15, s16, s17⟩
      go_simp
      with_reducible rfl
     rotate_left
     ·simp only [Act.put, List.setIfInBounds_toArray, List.set_cons_zero, List.set_cons_succ, i64_w, i32_w]
      rfl
     refine one_ (i := 18) (N := some 82) #[true, true, true, true, true, true, true, true, true, true, true, true, true, true, true, true, true, true, true, false, false] rfl rfl (by kernel_rfl) (by decide) (fun K hK => ?_)
     refine goes_ Try.func16 (by kernel_rfl) rfl #[.agg #[.string m.f0, .int .i64 m.f1, .slice (some ⟨gv, 0, none⟩) 1 c2, .int .i64 m.f3, .slice A4 m.f4.length c4, .int .i64 m.f5]] (by rfl) rfl rfl (by first | (simp only [List.map_toArray, List.map_cons, List.map_nil]; done) | (simp only [List.map_toArray, List.map_cons, List.map_nil]; rfl) | simp) ?_
     with_reducible refine (HCK.out _ (below_drew1 HBR.out)).mono ?_
     rintro e w3 ⟨rfl, hb⟩
     have n0 := Aside0.mk (blk_below (blk_drew BKX.out) hb)
     have n1 := Aside0.mk (blk_below (blk_drew BK1.out) hb)
     have n2 := Aside0.mk (below_step (below_drew1 HBR.out) hb)
     have n3 := Aside0.mk (below_step (below_drew1 HBW.out) hb)
     clear BKX BK1 HBR HBW hb
     have BKX := n0
     have BK1 := n1
     have HBR := n2
     have HBW := n3
     clear n0 n1 n2 n3
     refine ⟨_, rfl, ?_⟩
     refine hK.out _ _ ⟨(HYU.out _ HBR.out).1.1, (HYU.out _ HBR.out).1.2.1, (HYU.out _ HBR.out).1.2.2, (HYU.out _ HBR.out).2.1, (HYU.out _ HBR.out).2.2.1, (HYU.out _ HBR.out).2.2.2, (blk_cell BKX.out 0).trans rfl, (blk_cell BKX.out 1).trans rfl, (blk_cell BKX.out 2).trans rfl, (blk_cell BKX.out 3).trans rfl, (blk_cell BKX.out 4).trans rfl, (blk_cell BKX.out 5).trans rfl, (blk_cell BK1.out 0).trans rfl, (blk_cell BK1.out 1).trans rfl, (blk_cell BK1.out 2).trans rfl, (blk_cell BK1.out 3).trans rfl, (blk_cell BK1.out 4).trans rfl, (blk_cell BK1.out 5).trans rfl⟩ (fun hHeld => ?_)
     clear hK K
     refine norm_ (a' := ?_) ?_ ?_
     rotate_left
     ·show Act.put _ (some 82) _ = _
      simp only [Act.put, List.setIfInBounds_toArray, List.set_cons_zero, List.set_cons_succ, i64_w, i32_w]
      rfl
     refine pure_ (i := 19) (N := some 83) (v := ?_) (a' := ?_) #[true, true, true, true, true, true, true, true, true, true, true, true, true, true, true, true, true, true, true, true, false] rfl rfl (by kernel_rfl) (fun _ _ _ h => h) (Or.inl ⟨by rfl, ?_⟩) ?_ ?_
     rotate_left
     ·intro w'
      go_simp
      with_reducible rfl
     rotate_left
     ·simp only [Act.put, List.setIfInBounds_toArray, List.set_cons_zero, List.set_cons_succ, i64_w, i32_w]
      rfl
     refine pure_ (i := 20) (N := some 84) (v := ?_) (a' := ?_) #[true, true, true, true, true, true, true, true, true, true, true, true, true, true, true, true, true, true, true, true, true] rfl rfl (by kernel_rfl) (fun _ _ _ h => h) (Or.inl ⟨by rfl, ?_⟩) ?_ ?_
     rotate_left
     ·intro w'
      go_simp
      with_reducible rfl
     rotate_left
     ·simp only [Act.put, List.setIfInBounds_toArray, List.set_cons_zero, List.set_cons_succ, i64_w, i32_w]
      rfl
     refine done_ (by kernel_rfl) ?_
     have zBKX_0 : w3.cell? ⟨wr.heap.size, 0, none⟩ = some (.string m.f0) := (blk_cell BKX.out 0).trans rfl
     have fBKX_2 := blk_frozen BKX.out 2
     have BKX2 := Aside0.mk ((blk_put BKX.out 2 (.slice (some av) m.f2.length cv) rfl).trans rfl)
     have BK12 := Aside0.mk (blk_far BK1.out (p := ⟨wr.heap.size, 2, none⟩) (by have := blk_lt SK1.out; have := HB6.out.size; show g1 ≠ wr.heap.size; omega) (.slice (some av) m.f2.length cv))
     have HBR2 := Aside0.mk (below_set HBR.out (Nat.le_refl _) (j := 2) (v := .slice (some av) m.f2.length cv))
     have HBW2 := Aside0.mk (below_set HBW.out (by have := SB.out.size; have := HB6.out.size; omega) (g := wr.heap.size) (j := 2) (v := .slice (some av) m.f2.length cv))
     have ZX2 : w3.cell? ⟨wr.heap.size, 2, none⟩ = some (.slice (some ⟨gv, 0, none⟩) 1 c2) := (blk_cell BKX.out 2).trans rfl
     clear BKX BK1 HBR HBW
     generalize hwy : w3.setCell ⟨wr.heap.size, 2, none⟩ (.slice (some av) m.f2.length cv) = wy at BKX2 BK12 HBR2 HBW2
     have zX_0 : wy.cell? ⟨wr.heap.size, 0, none⟩ = some (.string m.f0) := (blk_cell BKX2.out 0).trans rfl
     have zX_1 : wy.cell? ⟨wr.heap.size, 1, none⟩ = some (.int .i64 m.f1) := (blk_cell BKX2.out 1).trans rfl
     have zX_2 : wy.cell? ⟨wr.heap.size, 2, none⟩ = some (.slice (some av) m.f2.length cv) := (blk_cell BKX2.out 2).trans rfl
     have zX_3 : wy.cell? ⟨wr.heap.size, 3, none⟩ = some (.int .i64 m.f3) := (blk_cell BKX2.out 3).trans rfl
     have zX_4 : wy.cell? ⟨wr.heap.size, 4, none⟩ = some (.slice A4 m.f4.length c4) := (blk_cell BKX2.out 4).trans rfl
     have zX_5 : wy.cell? ⟨wr.heap.size, 5, none⟩ = some (.int .i64 m.f5) := (blk_cell BKX2.out 5).trans rfl
     have zM_0 : wy.cell? ⟨g1, 0, none⟩ = some (.string m.f0) := (blk_cell BK12.out 0).trans rfl
     have zM_1 : wy.cell? ⟨g1, 1, none⟩ = some (.int .i64 m.f1) := (blk_cell BK12.out 1).trans rfl
     have zM_2 : wy.cell? ⟨g1, 2, none⟩ = some (.slice (some av) m.f2.length cv) := (blk_cell BK12.out 2).trans rfl
     have zM_3 : wy.cell? ⟨g1, 3, none⟩ = some (.int .i64 m.f3) := (blk_cell BK12.out 3).trans rfl
     have zM_4 : wy.cell? ⟨g1, 4, none⟩ = some (.slice At m.f4.length ct) := (blk_cell BK12.out 4).trans rfl
     have zM_5 : wy.cell? ⟨g1, 5, none⟩ = some (.int .i64 m.f5) := (blk_cell BK12.out 5).trans rfl
     have zM3_2 : w3.cell? ⟨g1, 2, none⟩ = some (.slice (some av) m.f2.length cv) := by rw [← zM_2, ← hwy]; exact (cell_far (by have := blk_lt SK1.out; have := HB6.out.size; show g1 ≠ wr.heap.size; omega) _).symm
     go_wp2_with fail
     clear hwy ZX2 zM3_2 zBKX_0 fBKX_2
     refine (mequal_calls m m (some av) cv A4 c4 (some av) cv At ct wy ⟨Kd.C_below HM.out.v HBW2.out, HM.out.vc, Kd.C_below HM1.out.t HBR2.out, HM1.out.tc, HM.out.wv, HM.out.wt, HM.out.wn⟩ (HM.out.below HBW2.out) (by have := HS.out; omega) (by have := HS.out; omega)).mono ?_
     rintro e wz ⟨rfl, hb⟩
     rw [(metEq_iff m m).2 rfl]
     have HBZ := Aside0.mk (below_step HBR2.out hb)
     clear hb zX_0 zX_1 zX_2 zX_3 zX_4 zX_5 zM_0 zM_1 zM_2 zM_3 zM_4 zM_5 BKX2 BK12 HBR2 HBW2 HBK2 HBK4 HR2V HR4V HDR
     have HSZ := Aside0.mk (Kd.S_below HSX.out HBZ.out)
     obtain ⟨y, v2, v4, oki, hy, q2, q4, r2, r4, hok, bk2, bk4⟩ := msp_borrow HSZ.out n HLT.out
     have hyl : y.f2 = [d] ∧ y.f4 = m.f4 := by
      have h1 := (HP.out.2 n (Nat.le_refl _)).symm.trans hy
      obtain ⟨_, d2, hd2, rfl⟩ := HEL.out n y h1
      exact ⟨by rw [HD1.out] at hd2; injection hd2 with hd2; rw [hd2], rfl⟩
     rw [hyl.1] at r2
     rw [hyl.2] at r4
     obtain ⟨g9, c9, e9, hg9, hl9, cur9, hc9⟩ := Kd.R_form r2 (by simp)
     have HE9 : Aside0 (v2.ownBlock = some g9) := ⟨by rw [e9]; rfl⟩
     have hdr := DRow.of_R (L := [d]) (g := g9) (cap := c9) (by rw [e9] at r2; exact r2)
     have fv0 := hdr.1.frozen 0
     have fv1 := hdr.1.frozen 1
     have fv2 := hdr.1.frozen 2
     have hdc := hdr.1.cell (j := 0) rfl
     have yv0 : wz.cell? ⟨g9, 0, none⟩ = some (.bool d.f0) := by simpa using hdc.1
     have yv1 : wz.cell? ⟨g9, 1, none⟩ = some (.int .u64 d.f1) := by simpa using hdc.2.1
     have yv2 : wz.cell? ⟨g9, 2, none⟩ = some (.int .i64 d.f2) := by simpa using hdc.2.2
     have Q2 : wz.cell? ⟨(ad.add (k.toNat * 6)).block, (ad.add (k.toNat * 6)).off + 2, none⟩ = some (.slice (some ⟨g9, 0, none⟩) 1 c9) := by rw [HKN.out, q2, e9]; rfl
     have hset := hdr.1.set 0 (by simp) (⟨false, 7, 0⟩ : S40)
     have HR9 := Aside0.mk (DRow.to_R (base := w6.heap.size) (ok := oki) hset hdr.2 (r2.1 g9 HE9.out))
     have hgr : wz.grownBy (((wz.setCell ⟨g9, 0 * 3, none⟩ (.bool false)).setCell ⟨g9, 0 * 3 + 1, none⟩ (.int .u64 7)).setCell ⟨g9, 0 * 3 + 2, none⟩ (.int .i64 0)) (some g9) := grown3 wz g9 (0 * 3) (0 * 3 + 1) (0 * 3 + 2) (.bool false) (.int .u64 7) (.int .i64 0)
     have HB9 := Aside0.mk (Below.grown (HB6.out.trans (HBZ.out.mono HB6.out.size)) hgr (by have := HB6.out.size; have := HBZ.out.size; omega) (fun k hk => by injection hk with hk; rw [← hk]; exact hg9))
     have HS9 := Aside0.mk (bk2 _ [(⟨false, 7, 0⟩ : S40)] (by rw [HE9.out]; exact hgr) (by rw [e9]; exact HR9.out))
     rw [hyl.2] at HS9
     have HY4 := Aside0.mk hyl.2
     simp only [Nat.zero_mul, Nat.zero_add] at HR9 HB9 HS9 hgr
     generalize hws : ((wz.setCell ⟨g9, 0, none⟩ (.bool false)).setCell ⟨g9, 1, none⟩ (.int .u64 7)).setCell ⟨g9, 2, none⟩ (.int .i64 0) = ws at HR9 HB9 HS9 hgr
     clear hgr hset hdr hdc r2 r4 bk2 bk4 hy hyl q2 q4 hok hl9 hc9 hg9 e9 HR9
     have HY9 : Aside0 ((xs.set n (⟨y.f0, y.f1, [(⟨false, 7, 0⟩ : S40)], y.f3, m.f4, y.f5⟩ : S25))[n]? = some (⟨y.f0, y.f1, [(⟨false, 7, 0⟩ : S40)], y.f3, m.f4, y.f5⟩ : S25)) := ⟨List.getElem?_set_self HXL.out⟩
     go_wp2
     clear hws yv0 yv1 yv2 fv0 fv1 fv2 Q2
     go_loopw [9] (fun j wq => ∃ (k2 : Int) (n2 : Nat) (xs2 : List S25) (y2 : S25), j = .int .i64 k2 ∧ Aside0 (k2 = (n2 : Int)) ∧ Aside0 (n2 ≤ m.f4.length ∧ (∀ j, n + 1 ≤ j → xs2[j]? = L[j]?) ∧ xs2[n]? = some y2 ∧ y2.f4.length = m.f4.length) ∧ Aside0 (Kd.S k25 25 wq w6.heap.size (fun _ => True) (.slice (some ad) N cl) xs2) ∧ Aside0 (Below w6.heap.size w6 wq)) (fun j wq => eaLeft m.f4.length j)
     case atStart => exact ⟨0, 0, _, _, rfl, ⟨rfl⟩, ⟨⟨Nat.zero_le _, fun j hj => by rw [List.getElem?_set_ne (by omega)]; exact HP.out.2 j (by omega), HY9.out, rfl⟩⟩, HS9, HB9⟩
     case round =>
      clear HS9 HB9 HY9
      obtain ⟨k2, n2, xs2, y2, rfl, HK2, HP2, HS2, HB2⟩ := hrel
      have hk2 := HK2.out
      obtain ⟨y, v2, v4, oki, hy, q2, q4, r2, r4, hok, bk2, bk4⟩ := msp_borrow HS2.out n HLT.out
      obtain rfl : y = y2 := Option.some.inj (hy.symm.trans HP2.out.2.2.1)
      have HT : Aside0 (y.f4.length = m.f4.length) := ⟨HP2.out.2.2.2⟩
      by_cases hlt2 : n2 < m.f4.length
      ·obtain ⟨g5, c5, e5, hg5, hl5, cur5, hc5⟩ := Kd.R_form r4 (by rw [HT.out]; omega)
       have hkn2 : k2.toNat = n2 := by omega
       have HE5 : Aside0 (v4.ownBlock = some g5) := ⟨by rw [e5]; rfl⟩
       have Q4 : wr.cell? ⟨(ad.add (k.toNat * 6)).block, (ad.add (k.toNat * 6)).off + 4, none⟩ = some (.slice (some ⟨g5, 0, none⟩) m.f4.length c5) := by
        have e6 : v4 = .slice (some ⟨g5, 0, none⟩) m.f4.length c5 := by rw [e5, HT.out]
        rw [HKN.out]
        exact q4.trans (congrArg some e6)
       have htr := TRow.of_R (L := y.f4) (g := g5) (cap := c5) (by rw [e5] at r4; exact r4)
       obtain ⟨t5, hyt⟩ : ∃ t5, y.f4[n2]? = some t5 := ⟨_, List.getElem?_eq_getElem (by rw [HT.out]; exact hlt2)⟩
       have hcl := htr.cell hyt
       have hf0 := htr.frozen (n2 * 2)
       have hf1 := htr.frozen (n2 * 2 + 1)
       have hset := htr.set n2 (by rw [HT.out]; exact hlt2) (⟨⟨#[122]⟩, ⟨#[]⟩⟩ : S37)
       have HR5 := Aside0.mk (TRow.to_R (base := w6.heap.size) (ok := oki) hset hg5 (r4.1 g5 HE5.out))
       have hgr := grown2 wr g5 (n2 * 2) (n2 * 2 + 1) (.string ⟨#[122]⟩) (.string ⟨#[]⟩)
       have HB5 := Aside0.mk (Below.grown HB2.out hgr HB2.out.size (fun k hk => by injection hk with hk; rw [← hk]; exact hg5))
       have HS5 := Aside0.mk (bk4 _ (y.f4.set n2 (⟨⟨#[122]⟩, ⟨#[]⟩⟩ : S37)) (by rw [HE5.out]; exact hgr) (by rw [e5]; have h := HR5.out; rw [List.length_set] at h; exact h))
       have HJ0 := Aside0.mk (And.intro (show 0 ≤ k2 by omega) (show k2 < (m.f4.length : Int) by omega))
       have hj0 : decide (0 ≤ k2) = true := decide_eq_true HJ0.out.1
       have hj1 : decide (k2 < (m.f4.length : Int)) = true := decide_eq_true HJ0.out.2
       have hj2 : (k2 < (m.f4.length : Int)) = True := eq_true HJ0.out.2
       have hj3 : (0 ≤ k2) = True := eq_true HJ0.out.1
       have hadd2 : wrap64 (k2 + 1) = k2 + 1 := by
        unfold wrap64
        have := HS.out
        omega
       have HADD2 := Aside0.mk hadd2
       have HXL2 : Aside0 (n < xs2.length) := ⟨(List.getElem?_eq_some_iff.1 hy).1⟩
       have HLT2 := Aside0.mk hlt2
       have HSL : Aside0 ((y.f4.set n2 (⟨⟨#[122]⟩, ⟨#[]⟩⟩ : S37)).length = m.f4.length) := ⟨by rw [List.length_set]; exact HT.out⟩
       rw [← hkn2] at hcl hf0 hf1 HB5 HS5
       have hc0 := hcl.1
       have hc1 := hcl.2
       generalize hws : (wr.setCell ⟨g5, k2.toNat * 2, none⟩ (.string ⟨#[122]⟩)).setCell ⟨g5, k2.toNat * 2 + 1, none⟩ (.string ⟨#[]⟩) = ws2 at HB5 HS5
       clear hgr hset htr r2 r4 bk2 bk4 q2 q4 hok hl5 hc5 hg5 e5 HR5 hyt hcl hkn2 hlt2 hk2 hadd2 hy
       go_wp2
       clear hws
       have hml : eaLeft m.f4.length (Value.int IntKind.i64 (k2 + 1)) < eaLeft m.f4.length (Value.int IntKind.i64 k2) := by
        have := HJ0.out
        show m.f4.length - (k2 + 1).toNat < m.f4.length - k2.toNat
        omega
       rw [HADD2.out]
       have hp2 : Aside0 (n2 + 1 ≤ m.f4.length ∧ (∀ j, n + 1 ≤ j → (xs2.set n (⟨y.f0, y.f1, y.f2, y.f3, y.f4.set k2.toNat (⟨⟨#[122]⟩, ⟨#[]⟩⟩ : S37), y.f5⟩ : S25))[j]? = L[j]?) ∧ (xs2.set n (⟨y.f0, y.f1, y.f2, y.f3, y.f4.set k2.toNat (⟨⟨#[122]⟩, ⟨#[]⟩⟩ : S37), y.f5⟩ : S25))[n]? = some (⟨y.f0, y.f1, y.f2, y.f3, y.f4.set k2.toNat (⟨⟨#[122]⟩, ⟨#[]⟩⟩ : S37), y.f5⟩ : S25) ∧ (y.f4.set k2.toNat (⟨⟨#[122]⟩, ⟨#[]⟩⟩ : S37)).length = m.f4.length) :=
        ⟨by have := HLT2.out; omega, fun j hj => by rw [List.getElem?_set_ne (by omega)]; exact HP2.out.2.1 j hj, List.getElem?_set_self HXL2.out, by rw [List.length_set]; exact HT.out⟩
       have hk3 : Aside0 (k2 + 1 = ((n2 + 1 : Nat) : Int)) := ⟨by have := HK2.out; omega⟩
       exact ⟨⟨k2 + 1, n2 + 1, xs2.set n (⟨y.f0, y.f1, y.f2, y.f3, y.f4.set k2.toNat (⟨⟨#[122]⟩, ⟨#[]⟩⟩ : S37), y.f5⟩ : S25), (⟨y.f0, y.f1, y.f2, y.f3, y.f4.set k2.toNat (⟨⟨#[122]⟩, ⟨#[]⟩⟩ : S37), y.f5⟩ : S25), rfl, hk3, hp2, HS5, HB5⟩, hml⟩
      ·obtain ⟨A5, c5, e5, hl5, hq5⟩ := Kd.R_reads r4
       have Q4 : wr.cell? ⟨(ad.add (k.toNat * 6)).block, (ad.add (k.toNat * 6)).off + 4, none⟩ = some (.slice A5 m.f4.length c5) := by
        have e6 : v4 = .slice A5 m.f4.length c5 := by rw [e5, HT.out]
        rw [HKN.out]
        exact q4.trans (congrArg some e6)
       have hj1 : decide (k2 < (m.f4.length : Int)) = false := decide_eq_false (by omega)
       have hj2 : (k2 < (m.f4.length : Int)) = False := eq_false (by omega)
       clear r2 r4 bk2 bk4 q2 q4 hok hl5 hq5 e5 hlt2 hk2 hy
       go_wp2
       have hp2 : Aside0 (n + 1 ≤ N ∧ ∀ j, n + 1 ≤ j → xs2[j]? = L[j]?) := ⟨by have := HLT.out; omega, HP2.out.2.1⟩
       have hk3 : Aside0 (k + 1 = ((n + 1 : Nat) : Int)) := ⟨by have := HK.out; omega⟩
       go_roundw
       case rel => exact ⟨k + 1, n + 1, xs2, (by rw [HADD.out]), hk3, hp2, HS2, HB2⟩
       case measure => rw [HADD.out]; show N - (k + 1).toNat < N - k.toNat; have := HI2.out; omega
    ·have hd : decide (k < (N : Int)) = false := decide_eq_false (by omega)
     have hd2 : (k < (N : Int)) = False := eq_false (by omega)
     have HBA : Aside0 (Below w4.heap.size w4 wr) := ⟨S4.out.trans (HB6.out.mono S4.out.size)⟩
     have BKC : Aside0 (wr.heap[w5.heap.size]? = some (.cells #[.string m.f0, .int .i64 m.f1, .slice C2 m.f2.length cc2, .int .i64 m.f3, .slice C4 m.f4.length cc4, .int .i64 m.f5] 25 (0, 0))) := ⟨blk_below SK4.out HB6.out⟩
     have HBX : Aside0 (Below w5.heap.size w5 wr) := ⟨S5.out.trans (HB6.out.mono S5.out.size)⟩
     have HRT : Aside0 (Kd.R k37 37 wr w4.heap.size (fun _ => True) (.slice C4 m.f4.length cc4) m.f4) := ⟨Kd.R_below HR4.out HBX.out⟩
     have HRD : Aside0 (Kd.R k40 40 wr w4.heap.size (fun _ => True) (.slice C2 m.f2.length cc2) m.f2) := ⟨Kd.R_below HR2.out HBX.out⟩
     clear HSX HP HB6 HBW hk hlt HK HBX
     go_wp2
     go_loopw [10] (fun j wq => ∃ (k2 : Int) (n2 : Nat) (ts : List S37), j = .int .i64 k2 ∧ Aside0 (k2 = (n2 : Int)) ∧ Aside0 (n2 ≤ m.f4.length) ∧ Aside0 (Kd.R k37 37 wq w4.heap.size (fun _ => True) (.slice C4 m.f4.length cc4) ts) ∧ Aside0 (Kd.R k40 40 wq w4.heap.size (fun _ => True) (.slice C2 m.f2.length cc2) m.f2) ∧ Aside0 (wq.heap[w5.heap.size]? = some (.cells #[.string m.f0, .int .i64 m.f1, .slice C2 m.f2.length cc2, .int .i64 m.f3, .slice C4 m.f4.length cc4, .int .i64 m.f5] 25 (0, 0))) ∧ Aside0 (Below w4.heap.size w4 wq)) (fun j wq => eaLeft m.f4.length j)
     case atStart => exact ⟨0, 0, m.f4, rfl, ⟨rfl⟩, ⟨Nat.zero_le _⟩, HRT, HRD, BKC, HBA⟩
     case round =>
      clear HRT HRD BKC HBA
      obtain ⟨k2, n2, ts, rfl, HK2, HP2, HRT, HRD, BKC, HBA⟩ := hrel
      have hk2 := HK2.out
      have htl := (Kd.R_reads' HRT.out).1
      by_cases hlt2 : n2 < m.f4.length
      ·have hkn2 : n2 = k2.toNat := by omega
       have hk0 : 0 ≤ k2 := by omega
       have hk1 : k2 < (m.f4.length : Int) := by omega
       clear hk2
       subst hkn2
       obtain ⟨g5, c5, e5, hg5, hl5, cur5, hc5⟩ := Kd.R_form HRT.out (by omega)
       injection e5 with e5a e5b e5c
       have Z4 : wr.cell? ⟨w5.heap.size, 4, none⟩ = some (.slice (some ⟨g5, 0, none⟩) m.f4.length cc4) := by
        have h : wr.cell? ⟨w5.heap.size, 4, none⟩ = some (.slice C4 m.f4.length cc4) := (blk_cell BKC.out 4).trans rfl
        rw [e5a] at h
        exact h
       have hRT : Kd.R k37 37 wr w4.heap.size (fun _ => True) (.slice (some ⟨g5, 0, none⟩) ts.length cc4) ts := by
        have h := HRT.out
        rw [e5a, htl] at h
        exact h
       have htr := TRow.of_R hRT
       obtain ⟨t5, hyt⟩ : ∃ t5, ts[k2.toNat]? = some t5 := ⟨_, List.getElem?_eq_getElem (by omega)⟩
       have hcl := htr.cell hyt
       have hc0 := hcl.1
       have hc1 := hcl.2
       have hf0 := htr.frozen (k2.toNat * 2)
       have hf1 := htr.frozen (k2.toNat * 2 + 1)
       have hset := htr.set k2.toNat (by omega) (⟨⟨#[121]⟩, ⟨#[]⟩⟩ : S37)
       have HRT2 : Aside0 (Kd.R k37 37 ((wr.setCell ⟨g5, k2.toNat * 2, none⟩ (.string ⟨#[121]⟩)).setCell ⟨g5, k2.toNat * 2 + 1, none⟩ (.string ⟨#[]⟩)) w4.heap.size (fun _ => True) (.slice C4 m.f4.length cc4) (ts.set k2.toNat (⟨⟨#[121]⟩, ⟨#[]⟩⟩ : S37))) := ⟨by
        have h := TRow.to_R (base := w4.heap.size) (ok := fun _ => True) hset hg5 trivial
        rw [List.length_set] at h
        rw [e5a, htl]
        exact h⟩
       have hgr := grown2 wr g5 (k2.toNat * 2) (k2.toNat * 2 + 1) (.string ⟨#[121]⟩) (.string ⟨#[]⟩)
       have HBA2 := Aside0.mk (Below.grown HBA.out hgr HBA.out.size (fun k hk => by injection hk with hk; rw [← hk]; exact hg5))
       have hg9 : w5.heap.size ≠ g5 := fun e => by
        have h1 := BKC.out
        rw [e] at h1
        have h2 := h1.symm.trans hc5
        injection h2 with h2
        injection h2 with _ h3
        exact absurd h3 (by decide)
       have BKC2 := Aside0.mk (blk_far (p := ⟨g5, k2.toNat * 2 + 1, none⟩) (blk_far (p := ⟨g5, k2.toNat * 2, none⟩) BKC.out hg9 (.string ⟨#[121]⟩)) hg9 (.string ⟨#[]⟩))
       have HRD2 : Aside0 (Kd.R k40 40 ((wr.setCell ⟨g5, k2.toNat * 2, none⟩ (.string ⟨#[121]⟩)).setCell ⟨g5, k2.toNat * 2 + 1, none⟩ (.string ⟨#[]⟩)) w4.heap.size (fun _ => True) (.slice C2 m.f2.length cc2) m.f2) := ⟨Kd.R_mono (Kd.R_far (p := ⟨g5, k2.toNat * 2 + 1, none⟩) (Kd.R_far (p := ⟨g5, k2.toNat * 2, none⟩) (Kd.R_types HRD.out hc5 (by decide)) (fun _ hk => hk.2) _) (fun _ hk => hk.2) _) (fun _ _ => trivial)⟩
       generalize hws : (wr.setCell ⟨g5, k2.toNat * 2, none⟩ (.string ⟨#[121]⟩)).setCell ⟨g5, k2.toNat * 2 + 1, none⟩ (.string ⟨#[]⟩) = ws2 at HRT2 HBA2 BKC2 HRD2
       have HJ0 := Aside0.mk (And.intro hk0 hk1)
       have hj0 : decide (0 ≤ k2) = true := decide_eq_true hk0
       have hj1 : decide (k2 < (m.f4.length : Int)) = true := decide_eq_true hk1
       have hj2 : (k2 < (m.f4.length : Int)) = True := eq_true hk1
       have hj3 : (0 ≤ k2) = True := eq_true hk0
       have hadd2 : wrap64 (k2 + 1) = k2 + 1 := by
        unfold wrap64
        have := HS.out
        omega
       have HADD2 := Aside0.mk hadd2
       clear hgr hset htr hRT hcl hyt e5a e5b e5c hl5 hc5 hg5 hg9 hlt2 hk0 hk1 htl hadd2
       go_wp2
       clear hws
       have hml : eaLeft m.f4.length (Value.int IntKind.i64 (k2 + 1)) < eaLeft m.f4.length (Value.int IntKind.i64 k2) := by
        have := HJ0.out
        show m.f4.length - (k2 + 1).toNat < m.f4.length - k2.toNat
        omega
       have hp2 : Aside0 (k2.toNat + 1 ≤ m.f4.length) := ⟨by have := HJ0.out; omega⟩
       have hk3 : Aside0 (k2 + 1 = ((k2.toNat + 1 : Nat) : Int)) := ⟨by have := HJ0.out; omega⟩
       rw [HADD2.out]
       exact ⟨⟨k2 + 1, k2.toNat + 1, ts.set k2.toNat (⟨⟨#[121]⟩, ⟨#[]⟩⟩ : S37), rfl, hk3, hp2, HRT2, HRD2, BKC2, HBA2⟩, hml⟩
      ·have Z4 : wr.cell? ⟨w5.heap.size, 4, none⟩ = some (.slice C4 m.f4.length cc4) := (blk_cell BKC.out 4).trans rfl
       have hj1 : decide (k2 < (m.f4.length : Int)) = false := decide_eq_false (by omega)
       have hj2 : (k2 < (m.f4.length : Int)) = False := eq_false (by omega)
       clear hlt2 hk2 htl HK2 HP2 HRT
       go_wp2
       clear Z4
       go_loopw [11] (fun j wq => ∃ (k3 : Int) (n3 : Nat) (ds : List S40), j = .int .i64 k3 ∧ Aside0 (k3 = (n3 : Int)) ∧ Aside0 (n3 ≤ m.f2.length) ∧ Aside0 (Kd.R k40 40 wq w4.heap.size (fun _ => True) (.slice C2 m.f2.length cc2) ds) ∧ Aside0 (wq.heap[w5.heap.size]? = some (.cells #[.string m.f0, .int .i64 m.f1, .slice C2 m.f2.length cc2, .int .i64 m.f3, .slice C4 m.f4.length cc4, .int .i64 m.f5] 25 (0, 0))) ∧ Aside0 (Below w4.heap.size w4 wq)) (fun j wq => eaLeft m.f2.length j)
       case atStart => exact ⟨0, 0, m.f2, rfl, ⟨rfl⟩, ⟨Nat.zero_le _⟩, HRD, BKC, HBA⟩
       case round =>
        clear HRD BKC HBA
        obtain ⟨k3, n3, ds, rfl, HK3, HP3, HRD, BKC, HBA⟩ := hrel
        have hk3 := HK3.out
        have htl := (Kd.R_reads' HRD.out).1
        by_cases hlt3 : n3 < m.f2.length
        ·have hkn3 : n3 = k3.toNat := by omega
         have hk0 : 0 ≤ k3 := by omega
         have hk1 : k3 < (m.f2.length : Int) := by omega
         clear hk3
         subst hkn3
         obtain ⟨g5, c5, e5, hg5, hl5, cur5, hc5⟩ := Kd.R_form HRD.out (by omega)
         injection e5 with e5a e5b e5c
         have Z2 : wr.cell? ⟨w5.heap.size, 2, none⟩ = some (.slice (some ⟨g5, 0, none⟩) m.f2.length cc2) := by
          have h : wr.cell? ⟨w5.heap.size, 2, none⟩ = some (.slice C2 m.f2.length cc2) := (blk_cell BKC.out 2).trans rfl
          rw [e5a] at h
          exact h
         have hRD : Kd.R k40 40 wr w4.heap.size (fun _ => True) (.slice (some ⟨g5, 0, none⟩) ds.length cc2) ds := by
          have h := HRD.out
          rw [e5a, htl] at h
          exact h
         have hdr := (DRow.of_R hRD).1
         obtain ⟨t5, hyt⟩ : ∃ t5, ds[k3.toNat]? = some t5 := ⟨_, List.getElem?_eq_getElem (by omega)⟩
         have hcl := hdr.cell hyt
         have hc0 := hcl.1
         have hc1 := hcl.2.1
         have hc2 := hcl.2.2
         have hf0 := hdr.frozen (k3.toNat * 3)
         have hf1 := hdr.frozen (k3.toNat * 3 + 1)
         have hf2 := hdr.frozen (k3.toNat * 3 + 2)
         have hset := hdr.set k3.toNat (by omega) (⟨false, 9, 0⟩ : S40)
         have HRD2 : Aside0 (Kd.R k40 40 (((wr.setCell ⟨g5, k3.toNat * 3, none⟩ (.bool false)).setCell ⟨g5, k3.toNat * 3 + 1, none⟩ (.int .u64 9)).setCell ⟨g5, k3.toNat * 3 + 2, none⟩ (.int .i64 0)) w4.heap.size (fun _ => True) (.slice C2 m.f2.length cc2) (ds.set k3.toNat (⟨false, 9, 0⟩ : S40))) := ⟨by
          have h := DRow.to_R (base := w4.heap.size) (ok := fun _ => True) hset hg5 trivial
          rw [List.length_set] at h
          rw [e5a, htl]
          exact h⟩
         have hgr := grown3 wr g5 (k3.toNat * 3) (k3.toNat * 3 + 1) (k3.toNat * 3 + 2) (.bool false) (.int .u64 9) (.int .i64 0)
         have HBA2 := Aside0.mk (Below.grown HBA.out hgr HBA.out.size (fun k hk => by injection hk with hk; rw [← hk]; exact hg5))
         have hg9 : w5.heap.size ≠ g5 := fun e => by
          have h1 := BKC.out
          rw [e] at h1
          have h2 := h1.symm.trans hc5
          injection h2 with h2
          injection h2 with _ h3
          exact absurd h3 (by decide)
         have BKC2 := Aside0.mk (blk_far (p := ⟨g5, k3.toNat * 3 + 2, none⟩) (blk_far (p := ⟨g5, k3.toNat * 3 + 1, none⟩) (blk_far (p := ⟨g5, k3.toNat * 3, none⟩) BKC.out hg9 (.bool false)) hg9 (.int .u64 9)) hg9 (.int .i64 0))
         generalize hws : ((wr.setCell ⟨g5, k3.toNat * 3, none⟩ (.bool false)).setCell ⟨g5, k3.toNat * 3 + 1, none⟩ (.int .u64 9)).setCell ⟨g5, k3.toNat * 3 + 2, none⟩ (.int .i64 0) = ws2 at HRD2 HBA2 BKC2
         have HJ0 := Aside0.mk (And.intro hk0 hk1)
         have hj0 : decide (0 ≤ k3) = true := decide_eq_true hk0
         have hj1 : decide (k3 < (m.f2.length : Int)) = true := decide_eq_true hk1
         have hj2 : (k3 < (m.f2.length : Int)) = True := eq_true hk1
         have hj3 : (0 ≤ k3) = True := eq_true hk0
         have hadd2 : wrap64 (k3 + 1) = k3 + 1 := by
          unfold wrap64
          have := HS.out
          omega
         have HADD2 := Aside0.mk hadd2
         clear hgr hset hdr hRD hcl hyt e5a e5b e5c hl5 hc5 hg5 hg9 hlt3 hk0 hk1 htl hadd2
         go_wp2
         clear hws
         have hml : eaLeft m.f2.length (Value.int IntKind.i64 (k3 + 1)) < eaLeft m.f2.length (Value.int IntKind.i64 k3) := by
          have := HJ0.out
          show m.f2.length - (k3 + 1).toNat < m.f2.length - k3.toNat
          omega
         have hp2 : Aside0 (k3.toNat + 1 ≤ m.f2.length) := ⟨by have := HJ0.out; omega⟩
         have hk4 : Aside0 (k3 + 1 = ((k3.toNat + 1 : Nat) : Int)) := ⟨by have := HJ0.out; omega⟩
         rw [HADD2.out]
         exact ⟨⟨k3 + 1, k3.toNat + 1, ds.set k3.toNat (⟨false, 9, 0⟩ : S40), rfl, hk4, hp2, HRD2, BKC2, HBA2⟩, hml⟩
        ·have Z2 : wr.cell? ⟨w5.heap.size, 2, none⟩ = some (.slice C2 m.f2.length cc2) := (blk_cell BKC.out 2).trans rfl
         have hj1 : decide (k3 < (m.f2.length : Int)) = false := decide_eq_false (by omega)
         have hj2 : (k3 < (m.f2.length : Int)) = False := eq_false (by omega)
         have HBM : Aside0 (Below w.heap.size w wr) := ⟨S4B.out.trans (HBA.out.mono S4B.out.size)⟩
         have HBD : Aside0 (Below wd.heap.size wd wr) := ⟨S43.out.trans (HBA.out.mono S43.out.size)⟩
         have BM := Aside0.mk (blk_below S4K1.out HBA.out)
         have BW := Aside0.mk (blk_below S4K3.out HBA.out)
         have zm0 : wr.cell? ⟨g1, 0, none⟩ = some (.string m.f0) := (blk_cell BM.out 0).trans rfl
         have zm1 : wr.cell? ⟨g1, 1, none⟩ = some (.int .i64 m.f1) := (blk_cell BM.out 1).trans rfl
         have zm2 : wr.cell? ⟨g1, 2, none⟩ = some (.slice Av m.f2.length cv) := (blk_cell BM.out 2).trans rfl
         have zm3 : wr.cell? ⟨g1, 3, none⟩ = some (.int .i64 m.f3) := (blk_cell BM.out 3).trans rfl
         have zm4 : wr.cell? ⟨g1, 4, none⟩ = some (.slice At m.f4.length ct) := (blk_cell BM.out 4).trans rfl
         have zm5 : wr.cell? ⟨g1, 5, none⟩ = some (.int .i64 m.f5) := (blk_cell BM.out 5).trans rfl
         have zw0 : wr.cell? ⟨wd.heap.size, 0, none⟩ = some (.string m.f0) := (blk_cell BW.out 0).trans rfl
         have zw1 : wr.cell? ⟨wd.heap.size, 1, none⟩ = some (.int .i64 m.f1) := (blk_cell BW.out 1).trans rfl
         have zw2 : wr.cell? ⟨wd.heap.size, 2, none⟩ = some (.slice W2 m.f2.length cw2) := (blk_cell BW.out 2).trans rfl
         have zw3 : wr.cell? ⟨wd.heap.size, 3, none⟩ = some (.int .i64 m.f3) := (blk_cell BW.out 3).trans rfl
         have zw4 : wr.cell? ⟨wd.heap.size, 4, none⟩ = some (.slice W4 m.f4.length cw4) := (blk_cell BW.out 4).trans rfl
         have zw5 : wr.cell? ⟨wd.heap.size, 5, none⟩ = some (.int .i64 m.f5) := (blk_cell BW.out 5).trans rfl
         clear hlt3 hk3 htl HK3 HP3 HRD
         go_wp2_with fail
         refine (forebayref07_Equal.calls ke m.f0 m.f1 Av cv m.f2 m.f3 At ct m.f4 m.f5 m.f0 m.f1 W2 cw2 m.f2 m.f3 W4 cw4 m.f4 m.f5 true wr (Kd.C_below HM.out.v HBM.out) HM.out.vc (Kd.C_below HM.out.t HBM.out) HM.out.tc (Kd.C_below HWC.out.v HBD.out) HWC.out.vc (Kd.C_below HWC.out.t HBD.out) HWC.out.tc HKE.out).mono ?_
         rintro e wy ⟨rfl, hb⟩
         have HBY := Aside0.mk (below_step HBM.out hb)
         clear hb
         go_wp2_with fail
         refine (forebaylaw07_awake.calls ka true wy HKA.out).mono ?_
         rintro e wz ⟨rfl, hb⟩
         have HBZ := Aside0.mk (below_step HBY.out hb)
         clear hb
         go_wp2
         go_ret
         exact ⟨rfl, HBZ.out⟩
  ·have t1 : (e0 != 0) = true := bne_iff_ne.2 h0
   have t2 : (e0 == 0) = false := beq_eq_false_iff_ne.2 h0
   have t3 : ((N : Int) != 0) = false := by rw [hN0]; rfl
   have t4 : (N != 0) = false := by rw [hN0]; rfl
   clear h0 hN0
   go_wp2_with fail
   go_loopw [7] (fun i wr => ∃ (k : Int) (n : Nat) (xs : List S25), i = .int .i64 k ∧ Aside0 (k = (n : Int)) ∧ Aside0 (n ≤ N ∧ ∀ j, n ≤ j → xs[j]? = L[j]?) ∧ Aside0 (Kd.S k25 25 wr w6.heap.size (fun _ => True) (.slice Al N cl) xs) ∧ Aside0 (Below w6.heap.size w6 wr)) (fun i wr => eaLeft N i)
   case atStart => exact ⟨0, 0, L, rfl, ⟨rfl⟩, ⟨⟨Nat.zero_le _, fun _ _ => rfl⟩⟩, ⟨Kd.S_below HS7.out HB7.out⟩, HB6⟩
   case round =>
    clear HB HB3 HB5 HB6 HB7 BK1 BK3 BK4
    obtain ⟨k, n, xs, rfl, HK, HP, HSX, HB6⟩ := hrel
    have hk := HK.out
    have HBW : Aside0 (Below w.heap.size w wr) := ⟨SB.out.trans (HB6.out.mono SB.out.size)⟩
    by_cases hlt : n < N
    ·have hi0 : 0 ≤ k := by omega
     have hi1 : k < (N : Int) := by omega
     have hd : decide (k < (N : Int)) = true := decide_eq_true hi1
     have hd0 : decide (0 ≤ k) = true := decide_eq_true hi0
     have hxn := (Kd.R_reads' (Kd.S_R HSX.out)).1
     obtain ⟨ad, A2, c2, A4, c4, ee, x0, x1, x2, x3, x4, x5, l2, i2, l4, i4⟩ := at_T25 (Kd.R_reads' (Kd.S_R HSX.out)).2.2 k hi0 (by omega)
     cases ee
     obtain ⟨m1, hm1⟩ : ∃ m, rd_T25 xs k = m := ⟨_, rfl⟩
     have hget : xs[n]? = some m1 := by
      rw [← hm1]
      unfold rd_T25
      rw [hk, Int.toNat_natCast, List.getD_eq_getElem?_getD, List.getElem?_eq_getElem (by rw [← hxn]; exact hlt)]
      rfl
     rw [hm1] at x0 x1 x2 x3 x4 x5 l2 i2 l4 i4
     clear hm1 hxn
     obtain ⟨h00, d, hd1, rfl⟩ := HEL.out n m1 ((HP.out.2 n (Nat.le_refl _)).symm.trans hget)
     obtain ⟨y, v2, v4, oki, hy, q2, q4, r2, r4, _, bk2, bk4⟩ := msp_borrow HSX.out n hlt
     rw [hget] at hy
     cases hy
     have hkn : k.toNat = n := by omega
     rw [← hkn] at q2 q4
     have hv2 := Option.some.inj (x2.symm.trans q2)
     have hv4 := Option.some.inj (x4.symm.trans q4)
     subst hv2 hv4
     have HM1 : Aside0 (MetC (⟨m.f0, m.f1, [d], m.f3, m.f4, m.f5⟩ : S25) A2 c2 A4 c4 wr) := ⟨PE.metC_of i2 l2 i4 l4 (one_in m d HI.out (List.mem_of_getElem? hd1))⟩
     have HMB : Aside0 (metBad (⟨m.f0, m.f1, [d], m.f3, m.f4, m.f5⟩ : S25) = 0) := ⟨one_bad m d (HE0.out.trans h00) (List.mem_of_getElem? hd1)⟩
     obtain ⟨gv, cv1, ev, hr2, _, curv, hcv⟩ := Kd.R_form r2 (by simp)
     cases ev
     have hdr := (DRow.of_R r2).1
     have hdc := hdr.cell (j := 0) rfl
     have BKV := Aside0.mk hcv
     have HVC : Aside0 (wr.cell? ⟨gv, 0, none⟩ = some (.bool d.f0) ∧ wr.cell? ⟨gv, 1, none⟩ = some (.int .u64 d.f1) ∧ wr.cell? ⟨gv, 2, none⟩ = some (.int .i64 d.f2)) := ⟨by simpa using hdc⟩
     have HGV : Aside0 (gv < wr.heap.size) := ⟨blk_lt hcv⟩
     have hkm : n < m.f2.length := (List.getElem?_eq_some_iff.1 hd1).1
     obtain ⟨av, eav, u0, u1, u2⟩ := at_T40 (Kd.C_below HM.out.v HBW.out) k hi0 (by omega)
     cases eav
     have hrd : rd_T40 m.f2 k = d := by
      rw [hk, rd_dec m.f2 n hkm]
      exact (List.getElem?_eq_some_iff.1 hd1).2
     rw [hrd] at u0 u1 u2
     have HYU : Aside0 (∀ W', Below wr.heap.size wr W' → (W'.cell? ⟨gv, 0, none⟩ = some (.bool d.f0) ∧ W'.cell? ⟨gv, 1, none⟩ = some (.int .u64 d.f1) ∧ W'.cell? ⟨gv, 2, none⟩ = some (.int .i64 d.f2)) ∧ W'.cell? (av.add (k.toNat * 3)) = some (.bool d.f0) ∧ W'.cell? ⟨(av.add (k.toNat * 3)).block, (av.add (k.toNat * 3)).off + 1, none⟩ = some (.int .u64 d.f1) ∧ W'.cell? ⟨(av.add (k.toNat * 3)).block, (av.add (k.toNat * 3)).off + 2, none⟩ = some (.int .i64 d.f2)) := ⟨fun W' hb => ⟨⟨(hb.cell (World.block_lt_of_cell? _ _ HVC.out.1)).trans HVC.out.1, (hb.cell (World.block_lt_of_cell? _ _ HVC.out.2.1)).trans HVC.out.2.1, (hb.cell (World.block_lt_of_cell? _ _ HVC.out.2.2)).trans HVC.out.2.2⟩, (hb.cell (World.block_lt_of_cell? _ _ u0)).trans u0, (hb.cell (World.block_lt_of_cell? _ _ u1)).trans u1, (hb.cell (World.block_lt_of_cell? _ _ u2)).trans u2⟩⟩
     have X2 : wr.cell? ⟨(ad.add (k.toNat * 6)).block, (ad.add (k.toNat * 6)).off + 2, none⟩ = some (.slice (some ⟨gv, 0, none⟩) 1 c2) := x2
     have X4 : wr.cell? ⟨(ad.add (k.toNat * 6)).block, (ad.add (k.toNat * 6)).off + 4, none⟩ = some (.slice A4 m.f4.length c4) := x4
     have X0 : wr.cell? (ad.add (k.toNat * 6)) = some (.string m.f0) := x0
     have X1 : wr.cell? ⟨(ad.add (k.toNat * 6)).block, (ad.add (k.toNat * 6)).off + 1, none⟩ = some (.int .i64 m.f1) := x1
     have X3 : wr.cell? ⟨(ad.add (k.toNat * 6)).block, (ad.add (k.toNat * 6)).off + 3, none⟩ = some (.int .i64 m.f3) := x3
     have X5 : wr.cell? ⟨(ad.add (k.toNat * 6)).block, (ad.add (k.toNat * 6)).off + 5, none⟩ = some (.int .i64 m.f5) := x5
     have HR2V := Aside0.mk r2
     have HR4V := Aside0.mk r4
     have HBK2 := Aside0.mk bk2
     have HBK4 := Aside0.mk bk4
     have HDR := Aside0.mk hdr
     have HKN := Aside0.mk hkn
     have HXL : Aside0 (n < xs.length) := ⟨(List.getElem?_eq_some_iff.1 hget).1⟩
     have HD1 := Aside0.mk hd1
     have HKM := Aside0.mk (show k < (m.f2.length : Int) by omega)
     have HLT := Aside0.mk hlt
     have HI2 := Aside0.mk (And.intro hi0 hi1)
     have hadd : wrap64 (k + 1) = k + 1 := by
      unfold wrap64
      have := HS.out
      have := HNE.out
      omega
     have HADD := Aside0.mk hadd
     have hkd : decide (k < (m.f2.length : Int)) = true := decide_eq_true HKM.out
     have hkp := eq_true HKM.out
     have hip := eq_true HI2.out.1
     have BK1 := Aside0.mk (blk_below SK1.out HB6.out)
     have HBR := Aside0.mk (Below.refl wr.heap.size wr)
     clear h00 x0 x1 x2 x3 x4 x5 q2 q4 u0 u1 u2 r2 r4 bk2 bk4 hdr hdc hkn hlt hk hcv hget hrd hadd hkm l2 l4 i2 i4 hd1
     have HCK : Aside0 (∀ W', Below wr.heap.size wr W' → Calls Try.prog 16 #[.agg #[.string m.f0, .int .i64 m.f1, .slice (some ⟨gv, 0, none⟩) 1 c2, .int .i64 m.f3, .slice A4 m.f4.length c4, .int .i64 m.f5]] W' fun e w' => e = .returned (.int .i64 0) ∧ Below W'.heap.size W' w') := ⟨fun W' hb => by
      have h := mcheck_calls (⟨m.f0, m.f1, [d], m.f3, m.f4, m.f5⟩ : S25) (some ⟨gv, 0, none⟩) c2 A4 c4 W' (HM1.out.below hb)
      rw [HMB.out] at h
      exact h⟩
     have hb : Below wr.heap.size wr (wr.alloc (.cells #[.string m.f0, .int .i64 m.f1, .slice (some ⟨gv, 0, none⟩) 1 c2, .int .i64 m.f3, .slice A4 m.f4.length c4, .int .i64 m.f5] 25)) := below_alloc (Below.refl _ _) _
     have hbox : (wr.alloc (.cells #[.string m.f0, .int .i64 m.f1, .slice (some ⟨gv, 0, none⟩) 1 c2, .int .i64 m.f3, .slice A4 m.f4.length c4, .int .i64 m.f5] 25)).heap[wr.heap.size]? = some (.cells #[.string m.f0, .int .i64 m.f1, .slice (some ⟨gv, 0, none⟩) 1 c2, .int .i64 m.f3, .slice A4 m.f4.length c4, .int .i64 m.f5] 25 (0, 0)) := blk_new wr _
     generalize hwx : wr.alloc (.cells #[.string m.f0, .int .i64 m.f1, .slice (some ⟨gv, 0, none⟩) 1 c2, .int .i64 m.f3, .slice A4 m.f4.length c4, .int .i64 m.f5] 25) = wx at hb hbox
     have n0 := Aside0.mk (below_step HBR.out hb)
     clear HBR
     have HBR := n0
     clear n0
     have n0 := Aside0.mk (below_step HBW.out hb)
     clear HBW
     have HBW := n0
     clear n0
     have n0 := Aside0.mk (blk_below BK1.out hb)
     clear BK1
     have BK1 := n0
     clear n0
     have BKX := Aside0.mk hbox
     clear hbox
     (try clear zBK1_0 fBK1_0)
     have zBK1_0 : wx.cell? ⟨g1, 0, none⟩ = some (.string m.f0) := (blk_cell BK1.out 0).trans rfl
     have fBK1_0 := blk_frozen BK1.out 0
     (try clear zBK1_1 fBK1_1)
     have zBK1_1 : wx.cell? ⟨g1, 1, none⟩ = some (.int .i64 m.f1) := (blk_cell BK1.out 1).trans rfl
     have fBK1_1 := blk_frozen BK1.out 1
     (try clear zBK1_2 fBK1_2)
     have zBK1_2 : wx.cell? ⟨g1, 2, none⟩ = some (.slice (some av) m.f2.length cv) := (blk_cell BK1.out 2).trans rfl
     have fBK1_2 := blk_frozen BK1.out 2
     (try clear zBK1_3 fBK1_3)
     have zBK1_3 : wx.cell? ⟨g1, 3, none⟩ = some (.int .i64 m.f3) := (blk_cell BK1.out 3).trans rfl
     have fBK1_3 := blk_frozen BK1.out 3
     (try clear zBK1_4 fBK1_4)
     have zBK1_4 : wx.cell? ⟨g1, 4, none⟩ = some (.slice At m.f4.length ct) := (blk_cell BK1.out 4).trans rfl
     have fBK1_4 := blk_frozen BK1.out 4
     (try clear zBK1_5 fBK1_5)
     have zBK1_5 : wx.cell? ⟨g1, 5, none⟩ = some (.int .i64 m.f5) := (blk_cell BK1.out 5).trans rfl
     have fBK1_5 := blk_frozen BK1.out 5
     (try clear zBKX_0 fBKX_0)
     have zBKX_0 : wx.cell? ⟨wr.heap.size, 0, none⟩ = some (.string m.f0) := (blk_cell BKX.out 0).trans rfl
     have fBKX_0 := blk_frozen BKX.out 0
     (try clear zBKX_1 fBKX_1)
     have zBKX_1 : wx.cell? ⟨wr.heap.size, 1, none⟩ = some (.int .i64 m.f1) := (blk_cell BKX.out 1).trans rfl
     have fBKX_1 := blk_frozen BKX.out 1
     (try clear zBKX_2 fBKX_2)
     have zBKX_2 : wx.cell? ⟨wr.heap.size, 2, none⟩ = some (.slice (some ⟨gv, 0, none⟩) 1 c2) := (blk_cell BKX.out 2).trans rfl
     have fBKX_2 := blk_frozen BKX.out 2
     (try clear zBKX_3 fBKX_3)
     have zBKX_3 : wx.cell? ⟨wr.heap.size, 3, none⟩ = some (.int .i64 m.f3) := (blk_cell BKX.out 3).trans rfl
     have fBKX_3 := blk_frozen BKX.out 3
     (try clear zBKX_4 fBKX_4)
     have zBKX_4 : wx.cell? ⟨wr.heap.size, 4, none⟩ = some (.slice A4 m.f4.length c4) := (blk_cell BKX.out 4).trans rfl
     have fBKX_4 := blk_frozen BKX.out 4
     (try clear zBKX_5 fBKX_5)
     have zBKX_5 : wx.cell? ⟨wr.heap.size, 5, none⟩ = some (.int .i64 m.f5) := (blk_cell BKX.out 5).trans rfl
     have fBKX_5 := blk_frozen BKX.out 5
     clear hb
     go_wp2
     refine start_ (n := 21) (S := fun w' => w'.cell? ⟨gv, 0, none⟩ = some (.bool d.f0) ∧ w'.cell? ⟨gv, 1, none⟩ = some (.int .u64 d.f1) ∧ w'.cell? ⟨gv, 2, none⟩ = some (.int .i64 d.f2) ∧ w'.cell? (av.add (k.toNat * 3)) = some (.bool d.f0) ∧ w'.cell? ⟨(av.add (k.toNat * 3)).block, (av.add (k.toNat * 3)).off + 1, none⟩ = some (.int .u64 d.f1) ∧ w'.cell? ⟨(av.add (k.toNat * 3)).block, (av.add (k.toNat * 3)).off + 2, none⟩ = some (.int .i64 d.f2) ∧ w'.cell? ⟨wr.heap.size, 0, none⟩ = some (.string m.f0) ∧ w'.cell? ⟨wr.heap.size, 1, none⟩ = some (.int .i64 m.f1) ∧ w'.cell? ⟨wr.heap.size, 2, none⟩ = some (.slice (some ⟨gv, 0, none⟩) 1 c2) ∧ w'.cell? ⟨wr.heap.size, 3, none⟩ = some (.int .i64 m.f3) ∧ w'.cell? ⟨wr.heap.size, 4, none⟩ = some (.slice A4 m.f4.length c4) ∧ w'.cell? ⟨wr.heap.size, 5, none⟩ = some (.int .i64 m.f5) ∧ w'.cell? ⟨g1, 0, none⟩ = some (.string m.f0) ∧ w'.cell? ⟨g1, 1, none⟩ = some (.int .i64 m.f1) ∧ w'.cell? ⟨g1, 2, none⟩ = some (.slice (some av) m.f2.length cv) ∧ w'.cell? ⟨g1, 3, none⟩ = some (.int .i64 m.f3) ∧ w'.cell? ⟨g1, 4, none⟩ = some (.slice At m.f4.length ct) ∧ w'.cell? ⟨g1, 5, none⟩ = some (.int .i64 m.f5)) (ds := []) #[false, false, false, false, false, false, false, false, false, false, false, false, false, false, false, false, false, false, false, false, false] (by kernel_rfl) rfl rfl ⟨(HYU.out _ (below_drew1 HBR.out)).1.1, (HYU.out _ (below_drew1 HBR.out)).1.2.1, (HYU.out _ (below_drew1 HBR.out)).1.2.2, (HYU.out _ (below_drew1 HBR.out)).2.1, (HYU.out _ (below_drew1 HBR.out)).2.2.1, (HYU.out _ (below_drew1 HBR.out)).2.2.2, (blk_cell (blk_drew BKX.out) 0).trans rfl, (blk_cell (blk_drew BKX.out) 1).trans rfl, (blk_cell (blk_drew BKX.out) 2).trans rfl, (blk_cell (blk_drew BKX.out) 3).trans rfl, (blk_cell (blk_drew BKX.out) 4).trans rfl, (blk_cell (blk_drew BKX.out) 5).trans rfl, (blk_cell (blk_drew BK1.out) 0).trans rfl, (blk_cell (blk_drew BK1.out) 1).trans rfl, (blk_cell (blk_drew BK1.out) 2).trans rfl, (blk_cell (blk_drew BK1.out) 3).trans rfl, (blk_cell (blk_drew BK1.out) 4).trans rfl, (blk_cell (blk_drew BK1.out) 5).trans rfl⟩ (fun hHeld => ?_)
     refine pure_ (i := 0) (N := some 64) (v := ?_) (a' := ?_) #[true, false, false, false, false, false, false, false, false, false, false, false, false, false, false, false, false, false, false, false, false] rfl rfl (by kernel_rfl) (fun _ _ _ h => h) (Or.inl ⟨by rfl, ?_⟩) ?_ ?_
     rotate_left
     ·intro w'
      go_simp
      with_reducible rfl
     rotate_left
     ·simp only [Act.put, List.setIfInBounds_toArray, List.set_cons_zero, List.set_cons_succ, i64_w, i32_w]
      rfl
     refine take_ (i := 1) (N := some 65) (v := ?_) (a' := ?_) #[true, true, false, false, false, false, false, false, false, false, false, false, false, false, false, false, false, false, false, false, false] rfl rfl (by kernel_rfl) (fun _ _ _ h => h) (Or.inl ⟨by rfl, ?_⟩) hHeld ?_ ?_
     rotate_left
     ·rintro w' ⟨s0, s1, s2, s3, s4, s5, s6, s7, s8, s9, s10, s11, s12, s13, s14, s15, s16, s17⟩
      go_simp
      with_reducible rfl
     rotate_left
     ·simp only [Act.put, List.setIfInBounds_toArray, List.set_cons_zero, List.set_cons_succ, i64_w, i32_w]
      rfl
     refine pure_ (i := 2) (N := some 66) (v := ?_) (a' := ?_) #[true, true, true, false, false, false, false, false, false, false, false, false, false, false, false, false, false, false, false, false, false] rfl rfl (by kernel_rfl) (fun _ _ _ h => h) (Or.inl ⟨by rfl, ?_⟩) ?_ ?_
     rotate_left
     ·intro w'
      go_simp
      with_reducible rfl
     rotate_left
     ·simp only [Act.put, List.setIfInBounds_toArray, List.set_cons_zero, List.set_cons_succ, i64_w, i32_w]
      rfl
     refine pure_ (i := 3) (N := some 67) (v := ?_) (a' := ?_) #[true, true, true, true, false, false, false, false, false, false, false, false, false, false, false, false, false, false, false, false, false] rfl rfl (by kernel_rfl) (fun _ _ _ h => h) (Or.inl ⟨by rfl, ?_⟩) ?_ ?_
     rotate_left
     ·intro w'
      go_simp
      with_reducible rfl
     rotate_left
     ·simp only [Act.put, List.setIfInBounds_toArray, List.set_cons_zero, List.set_cons_succ, i64_w, i32_w]
      rfl
     refine pure_ (i := 4) (N := some 68) (v := ?_) (a' := ?_) #[true, true, true, true, true, false, false, false, false, false, false, false, false, false, false, false, false, false, false, false, false] rfl rfl (by kernel_rfl) (fun _ _ _ h => h) (Or.inl ⟨by rfl, ?_⟩) ?_ ?_
     rotate_left
     ·intro w'
      go_simp
      with_reducible rfl
     rotate_left
     ·simp only [Act.put, List.setIfInBounds_toArray, List.set_cons_zero, List.set_cons_succ, i64_w, i32_w]
      rfl
     refine pure_ (i := 5) (N := some 69) (v := ?_) (a' := ?_) #[true, true, true, true, true, true, false, false, false, false, false, false, false, false, false, false, false, false, false, false, false] rfl rfl (by kernel_rfl) (fun _ _ _ h => h) (Or.inl ⟨by rfl, ?_⟩) ?_ ?_
     rotate_left
     ·intro w'
      go_simp
      with_reducible rfl
     rotate_left
     ·simp only [Act.put, List.setIfInBounds_toArray, List.set_cons_zero, List.set_cons_succ, i64_w, i32_w]
      rfl
     refine pure_ (i := 9) (N := some 73) (v := ?_) (a' := ?_) #[true, true, true, true, true, true, false, false, false, true, false, false, false, false, false, false, false, false, false, false, false] rfl rfl (by kernel_rfl) (fun _ _ _ h => h) (Or.inl ⟨by rfl, ?_⟩) ?_ ?_
     rotate_left
     ·intro w'
      go_simp
      with_reducible rfl
     rotate_left
     ·simp only [Act.put, List.setIfInBounds_toArray, List.set_cons_zero, List.set_cons_succ, i64_w, i32_w]
      rfl
     refine pure_ (i := 11) (N := some 75) (v := ?_) (a' := ?_) #[true, true, true, true, true, true, false, false, false, true, false, true, false, false, false, false, false, false, false, false, false] rfl rfl (by kernel_rfl) (fun _ _ _ h => h) (Or.inl ⟨by rfl, ?_⟩) ?_ ?_
     rotate_left
     ·intro w'
      go_simp
      with_reducible rfl
     rotate_left
     ·simp only [Act.put, List.setIfInBounds_toArray, List.set_cons_zero, List.set_cons_succ, i64_w, i32_w]
      rfl
     refine take_ (i := 6) (N := some 70) (v := ?_) (a' := ?_) #[true, true, true, true, true, true, true, false, false, true, false, true, false, false, false, false, false, false, false, false, false] rfl rfl (by kernel_rfl) (fun _ _ _ h => h) (Or.inl ⟨by rfl, ?_⟩) hHeld ?_ ?_
     rotate_left
     ·rintro w' ⟨s0, s1, s2, s3, s4, s5, s6, s7, s8, s9, s10, s11, s12, s13, s14, s15, s16, s17⟩
      go_simp
      with_reducible rfl
     rotate_left
     ·simp only [Act.put, List.setIfInBounds_toArray, List.set_cons_zero, List.set_cons_succ, i64_w, i32_w]
      rfl
     refine pure_ (i := 7) (N := some 71) (v := ?_) (a' := ?_) #[true, true, true, true, true, true, true, true, false, true, false, true, false, false, false, false, false, false, false, false, false] rfl rfl (by kernel_rfl) (fun _ _ _ h => h) (Or.inl ⟨by rfl, ?_⟩) ?_ ?_
     rotate_left
     ·intro w'
      go_simp
      with_reducible rfl
     rotate_left
     ·simp only [Act.put, List.setIfInBounds_toArray, List.set_cons_zero, List.set_cons_succ, i64_w, i32_w]
      rfl
     refine take_ (i := 8) (N := some 72) (v := ?_) (a' := ?_) #[true, true, true, true, true, true, true, true, true, true, false, true, false, false, false, false, false, false, false, false, false] rfl rfl (by kernel_rfl) (fun _ _ _ h => h) (Or.inl ⟨by rfl, ?_⟩) hHeld ?_ ?_
     rotate_left
     ·rintro w' ⟨s0, s1, s2, s3, s4, s5, s6, s7, s8, s9, s10, s11, s12, s13, s14, s15, s16, s17⟩
      go_simp
      with_reducible rfl
     rotate_left
     ·simp only [Act.put, List.setIfInBounds_toArray, List.set_cons_zero, List.set_cons_succ, i64_w, i32_w]
      rfl
     refine take_ (i := 10) (N := some 74) (v := ?_) (a' := ?_) #[true, true, true, true, true, true, true, true, true, true, true, true, false, false, false, false, false, false, false, false, false] rfl rfl (by kernel_rfl) (fun _ _ _ h => h) (Or.inl ⟨by rfl, ?_⟩) hHeld ?_ ?_
     rotate_left
     ·rintro w' ⟨s0, s1, s2, s3, s4, s5, s6, s7, s8, s9, s10, s11, s12, s13, s14, s15, s16, s17⟩
      go_simp
      with_reducible rfl
     rotate_left
     ·simp only [Act.put, List.setIfInBounds_toArray, List.set_cons_zero, List.set_cons_succ, i64_w, i32_w]
      rfl
     refine pure_ (i := 12) (N := some 76) (v := ?_) (a' := ?_) #[true, true, true, true, true, true, true, true, true, true, true, true, true, false, false, false, false, false, false, false, false] rfl rfl (by kernel_rfl) (fun _ _ _ h => h) (Or.inl ⟨by rfl, ?_⟩) ?_ ?_
     rotate_left
     ·intro w'
      go_simp
      with_reducible rfl
     rotate_left
     ·simp only [Act.put, List.setIfInBounds_toArray, List.set_cons_zero, List.set_cons_succ, i64_w, i32_w]
      rfl
     refine take_ (i := 13) (N := some 77) (v := ?_) (a' := ?_) #[true, true, true, true, true, true, true, true, true, true, true, true, true, true, false, false, false, false, false, false, false] rfl rfl (by kernel_rfl) (fun _ _ _ h => h) (Or.inl ⟨by rfl, ?_⟩) hHeld ?_ ?_
     rotate_left
     ·rintro w' ⟨s0, s1, s2, s3, s4, s5, s6, s7, s8, s9, s10, s11, s12, s13, s14, s15, s16, s17⟩
      go_simp
      with_reducible rfl
     rotate_left
     ·simp only [Act.put, List.setIfInBounds_toArray, List.set_cons_zero, List.set_cons_succ, i64_w, i32_w]
      rfl
     refine pure_ (i := 14) (N := some 78) (v := ?_) (a' := ?_) #[true, true, true, true, true, true, true, true, true, true, true, true, true, true, true, false, false, false, false, false, false] rfl rfl (by kernel_rfl) (fun _ _ _ h => h) (Or.inl ⟨by rfl, ?_⟩) ?_ ?_
     rotate_left
     ·intro w'
      go_simp
      with_reducible rfl
     rotate_left
     ·simp only [Act.put, List.setIfInBounds_toArray, List.set_cons_zero, List.set_cons_succ, i64_w, i32_w]
      rfl
     refine pure_ (i := 15) (N := some 79) (v := ?_) (a' := ?_) #[true, true, true, true, true, true, true, true, true, true, true, true, true, true, true, true, false, false, false, false, false] rfl rfl (by kernel_rfl) (fun _ _ _ h => h) (Or.inl ⟨by rfl, ?_⟩) ?_ ?_
     rotate_left
     ·intro w'
      go_simp
      with_reducible rfl
     rotate_left
     ·simp only [Act.put, List.setIfInBounds_toArray, List.set_cons_zero, List.set_cons_succ, i64_w, i32_w]
      rfl
     refine pure_ (i := 16) (N := some 80) (v := ?_) (a' := ?_) #[true, true, true, true, true, true, true, true, true, true, true, true, true, true, true, true, true, false, false, false, false] rfl rfl (by kernel_rfl) (fun _ _ _ h => h) (Or.inl ⟨by rfl, ?_⟩) ?_ ?_
     rotate_left
     ·intro w'
      go_simp
      with_reducible rfl
     rotate_left
     ·simp only [Act.put, List.setIfInBounds_toArray, List.set_cons_zero, List.set_cons_succ, i64_w, i32_w]
      rfl
     refine take_ (i := 17) (N := some 81) (v := ?_) (a' := ?_) #[true, true, true, true, true, true, true, true, true, true, true, true, true, true, true, true, true, true, false, false, false] rfl rfl (by kernel_rfl) (fun _ _ _ h => h) (Or.inl ⟨by rfl, ?_⟩) hHeld ?_ ?_
     rotate_left
     ·rintro w' ⟨s0, s1, s2, s3, s4, s5, s6, s7, s8, s9, s10, s11, s12, s13, s14, s15, s16, s17⟩
      go_simp
      with_reducible rfl
     rotate_left
     ·simp only [Act.put, List.setIfInBounds_toArray, List.set_cons_zero, List.set_cons_succ, i64_w, i32_w]
      rfl
     refine one_ (i := 18) (N := some 82) #[true, true, true, true, true, true, true, true, true, true, true, true, true, true, true, true, true, true, true, false, false] rfl rfl (by kernel_rfl) (by decide) (fun K hK => ?_)
     refine goes_ Try.func16 (by kernel_rfl) rfl #[.agg #[.string m.f0, .int .i64 m.f1, .slice (some ⟨gv, 0, none⟩) 1 c2, .int .i64 m.f3, .slice A4 m.f4.length c4, .int .i64 m.f5]] (by rfl) rfl rfl (by first | (simp only [List.map_toArray, List.map_cons, List.map_nil]; done) | (simp only [List.map_toArray, List.map_cons, List.map_nil]; rfl) | simp) ?_
     with_reducible refine (HCK.out _ (below_drew1 HBR.out)).mono ?_
     rintro e w3 ⟨rfl, hb⟩
     have n0 := Aside0.mk (blk_below (blk_drew BKX.out) hb)
     have n1 := Aside0.mk (blk_below (blk_drew BK1.out) hb)
     have n2 := Aside0.mk (below_step (below_drew1 HBR.out) hb)
     have n3 := Aside0.mk (below_step (below_drew1 HBW.out) hb)
     clear BKX BK1 HBR HBW hb
     have BKX := n0
     have BK1 := n1
     have HBR := n2
     have HBW := n3
     clear n0 n1 n2 n3
     refine ⟨_, rfl, ?_⟩
     refine hK.out _ _ ⟨(HYU.out _ HBR.out).1.1, (HYU.out _ HBR.out).1.2.1, (HYU.out _ HBR.out).1.2.2, (HYU.out _ HBR.out).2.1, (HYU.out _ HBR.out).2.2.1, (HYU.out _ HBR.out).2.2.2, (blk_cell BKX.out 0).trans rfl, (blk_cell BKX.out 1).trans rfl, (blk_cell BKX.out 2).trans rfl, (blk_cell BKX.out 3).trans rfl, (blk_cell BKX.out 4).trans rfl, (blk_cell BKX.out 5).trans rfl, (blk_cell BK1.out 0).trans rfl, (blk_cell BK1.out 1).trans rfl, (blk_cell BK1.out 2).trans rfl, (blk_cell BK1.out 3).trans rfl, (blk_cell BK1.out 4).trans rfl, (blk_cell BK1.out 5).trans rfl⟩ (fun hHeld => ?_)
     clear hK K
     refine norm_ (a' := ?_) ?_ ?_
     rotate_left
     ·show Act.put _ (some 82) _ = _
      simp only [Act.put, List.setIfInBounds_toArray, List.set_cons_zero, List.set_cons_succ, i64_w, i32_w]
      rfl
     refine pure_ (i := 19) (N := some 83) (v := ?_) (a' := ?_) #[true, true, true, true, true, true, true, true, true, true, true, true, true, true, true, true, true, true, true, true, false] rfl rfl (by kernel_rfl) (fun _ _ _ h => h) (Or.inl ⟨by rfl, ?_⟩) ?_ ?_
     rotate_left
     ·intro w'
      go_simp
      with_reducible rfl
     rotate_left
     ·simp only [Act.put, List.setIfInBounds_toArray, List.set_cons_zero, List.set_cons_succ, i64_w, i32_w]
      rfl
     refine pure_ (i := 20) (N := some 84) (v := ?_) (a' := ?_) #[true, true, true, true, true, true, true, true, true, true, true, true, true, true, true, true, true, true, true, true, true] rfl rfl (by kernel_rfl) (fun _ _ _ h => h) (Or.inl ⟨by rfl, ?_⟩) ?_ ?_
     rotate_left
     ·intro w'
      go_simp
      with_reducible rfl
     rotate_left
     ·simp only [Act.put, List.setIfInBounds_toArray, List.set_cons_zero, List.set_cons_succ, i64_w, i32_w]
      rfl
     refine done_ (by kernel_rfl) ?_
     have zBKX_0 : w3.cell? ⟨wr.heap.size, 0, none⟩ = some (.string m.f0) := (blk_cell BKX.out 0).trans rfl
     have fBKX_2 := blk_frozen BKX.out 2
     have BKX2 := Aside0.mk ((blk_put BKX.out 2 (.slice (some av) m.f2.length cv) rfl).trans rfl)
     have BK12 := Aside0.mk (blk_far BK1.out (p := ⟨wr.heap.size, 2, none⟩) (by have := blk_lt SK1.out; have := HB6.out.size; show g1 ≠ wr.heap.size; omega) (.slice (some av) m.f2.length cv))
     have HBR2 := Aside0.mk (below_set HBR.out (Nat.le_refl _) (j := 2) (v := .slice (some av) m.f2.length cv))
     have HBW2 := Aside0.mk (below_set HBW.out (by have := SB.out.size; have := HB6.out.size; omega) (g := wr.heap.size) (j := 2) (v := .slice (some av) m.f2.length cv))
     have ZX2 : w3.cell? ⟨wr.heap.size, 2, none⟩ = some (.slice (some ⟨gv, 0, none⟩) 1 c2) := (blk_cell BKX.out 2).trans rfl
     clear BKX BK1 HBR HBW
     generalize hwy : w3.setCell ⟨wr.heap.size, 2, none⟩ (.slice (some av) m.f2.length cv) = wy at BKX2 BK12 HBR2 HBW2
     have zX_0 : wy.cell? ⟨wr.heap.size, 0, none⟩ = some (.string m.f0) := (blk_cell BKX2.out 0).trans rfl
     have zX_1 : wy.cell? ⟨wr.heap.size, 1, none⟩ = some (.int .i64 m.f1) := (blk_cell BKX2.out 1).trans rfl
     have zX_2 : wy.cell? ⟨wr.heap.size, 2, none⟩ = some (.slice (some av) m.f2.length cv) := (blk_cell BKX2.out 2).trans rfl
     have zX_3 : wy.cell? ⟨wr.heap.size, 3, none⟩ = some (.int .i64 m.f3) := (blk_cell BKX2.out 3).trans rfl
     have zX_4 : wy.cell? ⟨wr.heap.size, 4, none⟩ = some (.slice A4 m.f4.length c4) := (blk_cell BKX2.out 4).trans rfl
     have zX_5 : wy.cell? ⟨wr.heap.size, 5, none⟩ = some (.int .i64 m.f5) := (blk_cell BKX2.out 5).trans rfl
     have zM_0 : wy.cell? ⟨g1, 0, none⟩ = some (.string m.f0) := (blk_cell BK12.out 0).trans rfl
     have zM_1 : wy.cell? ⟨g1, 1, none⟩ = some (.int .i64 m.f1) := (blk_cell BK12.out 1).trans rfl
     have zM_2 : wy.cell? ⟨g1, 2, none⟩ = some (.slice (some av) m.f2.length cv) := (blk_cell BK12.out 2).trans rfl
     have zM_3 : wy.cell? ⟨g1, 3, none⟩ = some (.int .i64 m.f3) := (blk_cell BK12.out 3).trans rfl
     have zM_4 : wy.cell? ⟨g1, 4, none⟩ = some (.slice At m.f4.length ct) := (blk_cell BK12.out 4).trans rfl
     have zM_5 : wy.cell? ⟨g1, 5, none⟩ = some (.int .i64 m.f5) := (blk_cell BK12.out 5).trans rfl
     have zM3_2 : w3.cell? ⟨g1, 2, none⟩ = some (.slice (some av) m.f2.length cv) := by rw [← zM_2, ← hwy]; exact (cell_far (by have := blk_lt SK1.out; have := HB6.out.size; show g1 ≠ wr.heap.size; omega) _).symm
     go_wp2_with fail
     clear hwy ZX2 zM3_2 zBKX_0 fBKX_2
     refine (mequal_calls m m (some av) cv A4 c4 (some av) cv At ct wy ⟨Kd.C_below HM.out.v HBW2.out, HM.out.vc, Kd.C_below HM1.out.t HBR2.out, HM1.out.tc, HM.out.wv, HM.out.wt, HM.out.wn⟩ (HM.out.below HBW2.out) (by have := HS.out; omega) (by have := HS.out; omega)).mono ?_
     rintro e wz ⟨rfl, hb⟩
     rw [(metEq_iff m m).2 rfl]
     have HBZ := Aside0.mk (below_step HBR2.out hb)
     clear hb zX_0 zX_1 zX_2 zX_3 zX_4 zX_5 zM_0 zM_1 zM_2 zM_3 zM_4 zM_5 BKX2 BK12 HBR2 HBW2 HBK2 HBK4 HR2V HR4V HDR
     have HSZ := Aside0.mk (Kd.S_below HSX.out HBZ.out)
     obtain ⟨y, v2, v4, oki, hy, q2, q4, r2, r4, hok, bk2, bk4⟩ := msp_borrow HSZ.out n HLT.out
     have hyl : y.f2 = [d] ∧ y.f4 = m.f4 := by
      have h1 := (HP.out.2 n (Nat.le_refl _)).symm.trans hy
      obtain ⟨_, d2, hd2, rfl⟩ := HEL.out n y h1
      exact ⟨by rw [HD1.out] at hd2; injection hd2 with hd2; rw [hd2], rfl⟩
     rw [hyl.1] at r2
     rw [hyl.2] at r4
     obtain ⟨g9, c9, e9, hg9, hl9, cur9, hc9⟩ := Kd.R_form r2 (by simp)
     have HE9 : Aside0 (v2.ownBlock = some g9) := ⟨by rw [e9]; rfl⟩
     have hdr := DRow.of_R (L := [d]) (g := g9) (cap := c9) (by rw [e9] at r2; exact r2)
     have fv0 := hdr.1.frozen 0
     have fv1 := hdr.1.frozen 1
     have fv2 := hdr.1.frozen 2
     have hdc := hdr.1.cell (j := 0) rfl
     have yv0 : wz.cell? ⟨g9, 0, none⟩ = some (.bool d.f0) := by simpa using hdc.1
     have yv1 : wz.cell? ⟨g9, 1, none⟩ = some (.int .u64 d.f1) := by simpa using hdc.2.1
     have yv2 : wz.cell? ⟨g9, 2, none⟩ = some (.int .i64 d.f2) := by simpa using hdc.2.2
     have Q2 : wz.cell? ⟨(ad.add (k.toNat * 6)).block, (ad.add (k.toNat * 6)).off + 2, none⟩ = some (.slice (some ⟨g9, 0, none⟩) 1 c9) := by rw [HKN.out, q2, e9]; rfl
     have hset := hdr.1.set 0 (by simp) (⟨false, 7, 0⟩ : S40)
     have HR9 := Aside0.mk (DRow.to_R (base := w6.heap.size) (ok := oki) hset hdr.2 (r2.1 g9 HE9.out))
     have hgr : wz.grownBy (((wz.setCell ⟨g9, 0 * 3, none⟩ (.bool false)).setCell ⟨g9, 0 * 3 + 1, none⟩ (.int .u64 7)).setCell ⟨g9, 0 * 3 + 2, none⟩ (.int .i64 0)) (some g9) := grown3 wz g9 (0 * 3) (0 * 3 + 1) (0 * 3 + 2) (.bool false) (.int .u64 7) (.int .i64 0)
     have HB9 := Aside0.mk (Below.grown (HB6.out.trans (HBZ.out.mono HB6.out.size)) hgr (by have := HB6.out.size; have := HBZ.out.size; omega) (fun k hk => by injection hk with hk; rw [← hk]; exact hg9))
     have HS9 := Aside0.mk (bk2 _ [(⟨false, 7, 0⟩ : S40)] (by rw [HE9.out]; exact hgr) (by rw [e9]; exact HR9.out))
     rw [hyl.2] at HS9
     have HY4 := Aside0.mk hyl.2
     simp only [Nat.zero_mul, Nat.zero_add] at HR9 HB9 HS9 hgr
     generalize hws : ((wz.setCell ⟨g9, 0, none⟩ (.bool false)).setCell ⟨g9, 1, none⟩ (.int .u64 7)).setCell ⟨g9, 2, none⟩ (.int .i64 0) = ws at HR9 HB9 HS9 hgr
     clear hgr hset hdr hdc r2 r4 bk2 bk4 hy hyl q2 q4 hok hl9 hc9 hg9 e9 HR9
     have HY9 : Aside0 ((xs.set n (⟨y.f0, y.f1, [(⟨false, 7, 0⟩ : S40)], y.f3, m.f4, y.f5⟩ : S25))[n]? = some (⟨y.f0, y.f1, [(⟨false, 7, 0⟩ : S40)], y.f3, m.f4, y.f5⟩ : S25)) := ⟨List.getElem?_set_self HXL.out⟩
     go_wp2
     clear hws yv0 yv1 yv2 fv0 fv1 fv2 Q2
     go_loopw [9] (fun j wq => ∃ (k2 : Int) (n2 : Nat) (xs2 : List S25) (y2 : S25), j = .int .i64 k2 ∧ Aside0 (k2 = (n2 : Int)) ∧ Aside0 (n2 ≤ m.f4.length ∧ (∀ j, n + 1 ≤ j → xs2[j]? = L[j]?) ∧ xs2[n]? = some y2 ∧ y2.f4.length = m.f4.length) ∧ Aside0 (Kd.S k25 25 wq w6.heap.size (fun _ => True) (.slice (some ad) N cl) xs2) ∧ Aside0 (Below w6.heap.size w6 wq)) (fun j wq => eaLeft m.f4.length j)
     case atStart => exact ⟨0, 0, _, _, rfl, ⟨rfl⟩, ⟨⟨Nat.zero_le _, fun j hj => by rw [List.getElem?_set_ne (by omega)]; exact HP.out.2 j (by omega), HY9.out, rfl⟩⟩, HS9, HB9⟩
     case round =>
      clear HS9 HB9 HY9
      obtain ⟨k2, n2, xs2, y2, rfl, HK2, HP2, HS2, HB2⟩ := hrel
      have hk2 := HK2.out
      obtain ⟨y, v2, v4, oki, hy, q2, q4, r2, r4, hok, bk2, bk4⟩ := msp_borrow HS2.out n HLT.out
      obtain rfl : y = y2 := Option.some.inj (hy.symm.trans HP2.out.2.2.1)
      have HT : Aside0 (y.f4.length = m.f4.length) := ⟨HP2.out.2.2.2⟩
      by_cases hlt2 : n2 < m.f4.length
      ·obtain ⟨g5, c5, e5, hg5, hl5, cur5, hc5⟩ := Kd.R_form r4 (by rw [HT.out]; omega)
       have hkn2 : k2.toNat = n2 := by omega
       have HE5 : Aside0 (v4.ownBlock = some g5) := ⟨by rw [e5]; rfl⟩
       have Q4 : wr.cell? ⟨(ad.add (k.toNat * 6)).block, (ad.add (k.toNat * 6)).off + 4, none⟩ = some (.slice (some ⟨g5, 0, none⟩) m.f4.length c5) := by
        have e6 : v4 = .slice (some ⟨g5, 0, none⟩) m.f4.length c5 := by rw [e5, HT.out]
        rw [HKN.out]
        exact q4.trans (congrArg some e6)
       have htr := TRow.of_R (L := y.f4) (g := g5) (cap := c5) (by rw [e5] at r4; exact r4)
       obtain ⟨t5, hyt⟩ : ∃ t5, y.f4[n2]? = some t5 := ⟨_, List.getElem?_eq_getElem (by rw [HT.out]; exact hlt2)⟩
       have hcl := htr.cell hyt
       have hf0 := htr.frozen (n2 * 2)
       have hf1 := htr.frozen (n2 * 2 + 1)
       have hset := htr.set n2 (by rw [HT.out]; exact hlt2) (⟨⟨#[122]⟩, ⟨#[]⟩⟩ : S37)
       have HR5 := Aside0.mk (TRow.to_R (base := w6.heap.size) (ok := oki) hset hg5 (r4.1 g5 HE5.out))
       have hgr := grown2 wr g5 (n2 * 2) (n2 * 2 + 1) (.string ⟨#[122]⟩) (.string ⟨#[]⟩)
       have HB5 := Aside0.mk (Below.grown HB2.out hgr HB2.out.size (fun k hk => by injection hk with hk; rw [← hk]; exact hg5))
       have HS5 := Aside0.mk (bk4 _ (y.f4.set n2 (⟨⟨#[122]⟩, ⟨#[]⟩⟩ : S37)) (by rw [HE5.out]; exact hgr) (by rw [e5]; have h := HR5.out; rw [List.length_set] at h; exact h))
       have HJ0 := Aside0.mk (And.intro (show 0 ≤ k2 by omega) (show k2 < (m.f4.length : Int) by omega))
       have hj0 : decide (0 ≤ k2) = true := decide_eq_true HJ0.out.1
       have hj1 : decide (k2 < (m.f4.length : Int)) = true := decide_eq_true HJ0.out.2
       have hj2 : (k2 < (m.f4.length : Int)) = True := eq_true HJ0.out.2
       have hj3 : (0 ≤ k2) = True := eq_true HJ0.out.1
       have hadd2 : wrap64 (k2 + 1) = k2 + 1 := by
        unfold wrap64
        have := HS.out
        omega
       have HADD2 := Aside0.mk hadd2
       have HXL2 : Aside0 (n < xs2.length) := ⟨(List.getElem?_eq_some_iff.1 hy).1⟩
       have HLT2 := Aside0.mk hlt2
       have HSL : Aside0 ((y.f4.set n2 (⟨⟨#[122]⟩, ⟨#[]⟩⟩ : S37)).length = m.f4.length) := ⟨by rw [List.length_set]; exact HT.out⟩
       rw [← hkn2] at hcl hf0 hf1 HB5 HS5
       have hc0 := hcl.1
       have hc1 := hcl.2
       generalize hws : (wr.setCell ⟨g5, k2.toNat * 2, none⟩ (.string ⟨#[122]⟩)).setCell ⟨g5, k2.toNat * 2 + 1, none⟩ (.string ⟨#[]⟩) = ws2 at HB5 HS5
       clear hgr hset htr r2 r4 bk2 bk4 q2 q4 hok hl5 hc5 hg5 e5 HR5 hyt hcl hkn2 hlt2 hk2 hadd2 hy
       go_wp2
       clear hws
       have hml : eaLeft m.f4.length (Value.int IntKind.i64 (k2 + 1)) < eaLeft m.f4.length (Value.int IntKind.i64 k2) := by
        have := HJ0.out
        show m.f4.length - (k2 + 1).toNat < m.f4.length - k2.toNat
        omega
       rw [HADD2.out]
       have hp2 : Aside0 (n2 + 1 ≤ m.f4.length ∧ (∀ j, n + 1 ≤ j → (xs2.set n (⟨y.f0, y.f1, y.f2, y.f3, y.f4.set k2.toNat (⟨⟨#[122]⟩, ⟨#[]⟩⟩ : S37), y.f5⟩ : S25))[j]? = L[j]?) ∧ (xs2.set n (⟨y.f0, y.f1, y.f2, y.f3, y.f4.set k2.toNat (⟨⟨#[122]⟩, ⟨#[]⟩⟩ : S37), y.f5⟩ : S25))[n]? = some (⟨y.f0, y.f1, y.f2, y.f3, y.f4.set k2.toNat (⟨⟨#[122]⟩, ⟨#[]⟩⟩ : S37), y.f5⟩ : S25) ∧ (y.f4.set k2.toNat (⟨⟨#[122]⟩, ⟨#[]⟩⟩ : S37)).length = m.f4.length) :=
        ⟨by have := HLT2.out; omega, fun j hj => by rw [List.getElem?_set_ne (by omega)]; exact HP2.out.2.1 j hj, List.getElem?_set_self HXL2.out, by rw [List.length_set]; exact HT.out⟩
       have hk3 : Aside0 (k2 + 1 = ((n2 + 1 : Nat) : Int)) := ⟨by have := HK2.out; omega⟩
       exact ⟨⟨k2 + 1, n2 + 1, xs2.set n (⟨y.f0, y.f1, y.f2, y.f3, y.f4.set k2.toNat (⟨⟨#[122]⟩, ⟨#[]⟩⟩ : S37), y.f5⟩ : S25), (⟨y.f0, y.f1, y.f2, y.f3, y.f4.set k2.toNat (⟨⟨#[122]⟩, ⟨#[]⟩⟩ : S37), y.f5⟩ : S25), rfl, hk3, hp2, HS5, HB5⟩, hml⟩
      ·obtain ⟨A5, c5, e5, hl5, hq5⟩ := Kd.R_reads r4
       have Q4 : wr.cell? ⟨(ad.add (k.toNat * 6)).block, (ad.add (k.toNat * 6)).off + 4, none⟩ = some (.slice A5 m.f4.length c5) := by
        have e6 : v4 = .slice A5 m.f4.length c5 := by rw [e5, HT.out]
        rw [HKN.out]
        exact q4.trans (congrArg some e6)
       have hj1 : decide (k2 < (m.f4.length : Int)) = false := decide_eq_false (by omega)
       have hj2 : (k2 < (m.f4.length : Int)) = False := eq_false (by omega)
       clear r2 r4 bk2 bk4 q2 q4 hok hl5 hq5 e5 hlt2 hk2 hy
       go_wp2
       have hp2 : Aside0 (n + 1 ≤ N ∧ ∀ j, n + 1 ≤ j → xs2[j]? = L[j]?) := ⟨by have := HLT.out; omega, HP2.out.2.1⟩
       have hk3 : Aside0 (k + 1 = ((n + 1 : Nat) : Int)) := ⟨by have := HK.out; omega⟩
       go_roundw
       case rel => exact ⟨k + 1, n + 1, xs2, (by rw [HADD.out]), hk3, hp2, HS2, HB2⟩
       case measure => rw [HADD.out]; show N - (k + 1).toNat < N - k.toNat; have := HI2.out; omega
    ·have hd : decide (k < (N : Int)) = false := decide_eq_false (by omega)
     have hd2 : (k < (N : Int)) = False := eq_false (by omega)
     have HBA : Aside0 (Below w4.heap.size w4 wr) := ⟨S4.out.trans (HB6.out.mono S4.out.size)⟩
     have BKC : Aside0 (wr.heap[w5.heap.size]? = some (.cells #[.string m.f0, .int .i64 m.f1, .slice C2 m.f2.length cc2, .int .i64 m.f3, .slice C4 m.f4.length cc4, .int .i64 m.f5] 25 (0, 0))) := ⟨blk_below SK4.out HB6.out⟩
     have HBX : Aside0 (Below w5.heap.size w5 wr) := ⟨S5.out.trans (HB6.out.mono S5.out.size)⟩
     have HRT : Aside0 (Kd.R k37 37 wr w4.heap.size (fun _ => True) (.slice C4 m.f4.length cc4) m.f4) := ⟨Kd.R_below HR4.out HBX.out⟩
     have HRD : Aside0 (Kd.R k40 40 wr w4.heap.size (fun _ => True) (.slice C2 m.f2.length cc2) m.f2) := ⟨Kd.R_below HR2.out HBX.out⟩
     clear HSX HP HB6 HBW hk hlt HK HBX
     go_wp2
     go_loopw [10] (fun j wq => ∃ (k2 : Int) (n2 : Nat) (ts : List S37), j = .int .i64 k2 ∧ Aside0 (k2 = (n2 : Int)) ∧ Aside0 (n2 ≤ m.f4.length) ∧ Aside0 (Kd.R k37 37 wq w4.heap.size (fun _ => True) (.slice C4 m.f4.length cc4) ts) ∧ Aside0 (Kd.R k40 40 wq w4.heap.size (fun _ => True) (.slice C2 m.f2.length cc2) m.f2) ∧ Aside0 (wq.heap[w5.heap.size]? = some (.cells #[.string m.f0, .int .i64 m.f1, .slice C2 m.f2.length cc2, .int .i64 m.f3, .slice C4 m.f4.length cc4, .int .i64 m.f5] 25 (0, 0))) ∧ Aside0 (Below w4.heap.size w4 wq)) (fun j wq => eaLeft m.f4.length j)
     case atStart => exact ⟨0, 0, m.f4, rfl, ⟨rfl⟩, ⟨Nat.zero_le _⟩, HRT, HRD, BKC, HBA⟩
     case round =>
      clear HRT HRD BKC HBA
      obtain ⟨k2, n2, ts, rfl, HK2, HP2, HRT, HRD, BKC, HBA⟩ := hrel
      have hk2 := HK2.out
      have htl := (Kd.R_reads' HRT.out).1
      by_cases hlt2 : n2 < m.f4.length
      ·have hkn2 : n2 = k2.toNat := by omega
       have hk0 : 0 ≤ k2 := by omega
       have hk1 : k2 < (m.f4.length : Int) := by omega
       clear hk2
       subst hkn2
       obtain ⟨g5, c5, e5, hg5, hl5, cur5, hc5⟩ := Kd.R_form HRT.out (by omega)
       injection e5 with e5a e5b e5c
       have Z4 : wr.cell? ⟨w5.heap.size, 4, none⟩ = some (.slice (some ⟨g5, 0, none⟩) m.f4.length cc4) := by
        have h : wr.cell? ⟨w5.heap.size, 4, none⟩ = some (.slice C4 m.f4.length cc4) := (blk_cell BKC.out 4).trans rfl
        rw [e5a] at h
        exact h
       have hRT : Kd.R k37 37 wr w4.heap.size (fun _ => True) (.slice (some ⟨g5, 0, none⟩) ts.length cc4) ts := by
        have h := HRT.out
        rw [e5a, htl] at h
        exact h
       have htr := TRow.of_R hRT
       obtain ⟨t5, hyt⟩ : ∃ t5, ts[k2.toNat]? = some t5 := ⟨_, List.getElem?_eq_getElem (by omega)⟩
       have hcl := htr.cell hyt
       have hc0 := hcl.1
       have hc1 := hcl.2
       have hf0 := htr.frozen (k2.toNat * 2)
       have hf1 := htr.frozen (k2.toNat * 2 + 1)
       have hset := htr.set k2.toNat (by omega) (⟨⟨#[121]⟩, ⟨#[]⟩⟩ : S37)
       have HRT2 : Aside0 (Kd.R k37 37 ((wr.setCell ⟨g5, k2.toNat * 2, none⟩ (.string ⟨#[121]⟩)).setCell ⟨g5, k2.toNat * 2 + 1, none⟩ (.string ⟨#[]⟩)) w4.heap.size (fun _ => True) (.slice C4 m.f4.length cc4) (ts.set k2.toNat (⟨⟨#[121]⟩, ⟨#[]⟩⟩ : S37))) := ⟨by
        have h := TRow.to_R (base := w4.heap.size) (ok := fun _ => True) hset hg5 trivial
        rw [List.length_set] at h
        rw [e5a, htl]
        exact h⟩
       have hgr := grown2 wr g5 (k2.toNat * 2) (k2.toNat * 2 + 1) (.string ⟨#[121]⟩) (.string ⟨#[]⟩)
       have HBA2 := Aside0.mk (Below.grown HBA.out hgr HBA.out.size (fun k hk => by injection hk with hk; rw [← hk]; exact hg5))
       have hg9 : w5.heap.size ≠ g5 := fun e => by
        have h1 := BKC.out
        rw [e] at h1
        have h2 := h1.symm.trans hc5
        injection h2 with h2
        injection h2 with _ h3
        exact absurd h3 (by decide)
       have BKC2 := Aside0.mk (blk_far (p := ⟨g5, k2.toNat * 2 + 1, none⟩) (blk_far (p := ⟨g5, k2.toNat * 2, none⟩) BKC.out hg9 (.string ⟨#[121]⟩)) hg9 (.string ⟨#[]⟩))
       have HRD2 : Aside0 (Kd.R k40 40 ((wr.setCell ⟨g5, k2.toNat * 2, none⟩ (.string ⟨#[121]⟩)).setCell ⟨g5, k2.toNat * 2 + 1, none⟩ (.string ⟨#[]⟩)) w4.heap.size (fun _ => True) (.slice C2 m.f2.length cc2) m.f2) := ⟨Kd.R_mono (Kd.R_far (p := ⟨g5, k2.toNat * 2 + 1, none⟩) (Kd.R_far (p := ⟨g5, k2.toNat * 2, none⟩) (Kd.R_types HRD.out hc5 (by decide)) (fun _ hk => hk.2) _) (fun _ hk => hk.2) _) (fun _ _ => trivial)⟩
       generalize hws : (wr.setCell ⟨g5, k2.toNat * 2, none⟩ (.string ⟨#[121]⟩)).setCell ⟨g5, k2.toNat * 2 + 1, none⟩ (.string ⟨#[]⟩) = ws2 at HRT2 HBA2 BKC2 HRD2
       have HJ0 := Aside0.mk (And.intro hk0 hk1)
       have hj0 : decide (0 ≤ k2) = true := decide_eq_true hk0
       have hj1 : decide (k2 < (m.f4.length : Int)) = true := decide_eq_true hk1
       have hj2 : (k2 < (m.f4.length : Int)) = True := eq_true hk1
       have hj3 : (0 ≤ k2) = True := eq_true hk0
       have hadd2 : wrap64 (k2 + 1) = k2 + 1 := by
        unfold wrap64
        have := HS.out
        omega
       have HADD2 := Aside0.mk hadd2
       clear hgr hset htr hRT hcl hyt e5a e5b e5c hl5 hc5 hg5 hg9 hlt2 hk0 hk1 htl hadd2
       go_wp2
       clear hws
       have hml : eaLeft m.f4.length (Value.int IntKind.i64 (k2 + 1)) < eaLeft m.f4.length (Value.int IntKind.i64 k2) := by
        have := HJ0.out
        show m.f4.length - (k2 + 1).toNat < m.f4.length - k2.toNat
        omega
       have hp2 : Aside0 (k2.toNat + 1 ≤ m.f4.length) := ⟨by have := HJ0.out; omega⟩
       have hk3 : Aside0 (k2 + 1 = ((k2.toNat + 1 : Nat) : Int)) := ⟨by have := HJ0.out; omega⟩
       rw [HADD2.out]
       exact ⟨⟨k2 + 1, k2.toNat + 1, ts.set k2.toNat (⟨⟨#[121]⟩, ⟨#[]⟩⟩ : S37), rfl, hk3, hp2, HRT2, HRD2, BKC2, HBA2⟩, hml⟩
      ·have Z4 : wr.cell? ⟨w5.heap.size, 4, none⟩ = some (.slice C4 m.f4.length cc4) := (blk_cell BKC.out 4).trans rfl
       have hj1 : decide (k2 < (m.f4.length : Int)) = false := decide_eq_false (by omega)
       have hj2 : (k2 < (m.f4.length : Int)) = False := eq_false (by omega)
       clear hlt2 hk2 htl HK2 HP2 HRT
       go_wp2
       clear Z4
       go_loopw [11] (fun j wq => ∃ (k3 : Int) (n3 : Nat) (ds : List S40), j = .int .i64 k3 ∧ Aside0 (k3 = (n3 : Int)) ∧ Aside0 (n3 ≤ m.f2.length) ∧ Aside0 (Kd.R k40 40 wq w4.heap.size (fun _ => True) (.slice C2 m.f2.length cc2) ds) ∧ Aside0 (wq.heap[w5.heap.size]? = some (.cells #[.string m.f0, .int .i64 m.f1, .slice C2 m.f2.length cc2, .int .i64 m.f3, .slice C4 m.f4.length cc4, .int .i64 m.f5] 25 (0, 0))) ∧ Aside0 (Below w4.heap.size w4 wq)) (fun j wq => eaLeft m.f2.length j)
       case atStart => exact ⟨0, 0, m.f2, rfl, ⟨rfl⟩, ⟨Nat.zero_le _⟩, HRD, BKC, HBA⟩
       case round =>
        clear HRD BKC HBA
        obtain ⟨k3, n3, ds, rfl, HK3, HP3, HRD, BKC, HBA⟩ := hrel
        have hk3 := HK3.out
        have htl := (Kd.R_reads' HRD.out).1
        by_cases hlt3 : n3 < m.f2.length
        ·have hkn3 : n3 = k3.toNat := by omega
         have hk0 : 0 ≤ k3 := by omega
         have hk1 : k3 < (m.f2.length : Int) := by omega
         clear hk3
         subst hkn3
         obtain ⟨g5, c5, e5, hg5, hl5, cur5, hc5⟩ := Kd.R_form HRD.out (by omega)
         injection e5 with e5a e5b e5c
         have Z2 : wr.cell? ⟨w5.heap.size, 2, none⟩ = some (.slice (some ⟨g5, 0, none⟩) m.f2.length cc2) := by
          have h : wr.cell? ⟨w5.heap.size, 2, none⟩ = some (.slice C2 m.f2.length cc2) := (blk_cell BKC.out 2).trans rfl
          rw [e5a] at h
          exact h
         have hRD : Kd.R k40 40 wr w4.heap.size (fun _ => True) (.slice (some ⟨g5, 0, none⟩) ds.length cc2) ds := by
          have h := HRD.out
          rw [e5a, htl] at h
          exact h
         have hdr := (DRow.of_R hRD).1
         obtain ⟨t5, hyt⟩ : ∃ t5, ds[k3.toNat]? = some t5 := ⟨_, List.getElem?_eq_getElem (by omega)⟩
         have hcl := hdr.cell hyt
         have hc0 := hcl.1
         have hc1 := hcl.2.1
         have hc2 := hcl.2.2
         have hf0 := hdr.frozen (k3.toNat * 3)
         have hf1 := hdr.frozen (k3.toNat * 3 + 1)
         have hf2 := hdr.frozen (k3.toNat * 3 + 2)
         have hset := hdr.set k3.toNat (by omega) (⟨false, 9, 0⟩ : S40)
         have HRD2 : Aside0 (Kd.R k40 40 (((wr.setCell ⟨g5, k3.toNat * 3, none⟩ (.bool false)).setCell ⟨g5, k3.toNat * 3 + 1, none⟩ (.int .u64 9)).setCell ⟨g5, k3.toNat * 3 + 2, none⟩ (.int .i64 0)) w4.heap.size (fun _ => True) (.slice C2 m.f2.length cc2) (ds.set k3.toNat (⟨false, 9, 0⟩ : S40))) := ⟨by
          have h := DRow.to_R (base := w4.heap.size) (ok := fun _ => True) hset hg5 trivial
          rw [List.length_set] at h
          rw [e5a, htl]
          exact h⟩
         have hgr := grown3 wr g5 (k3.toNat * 3) (k3.toNat * 3 + 1) (k3.toNat * 3 + 2) (.bool false) (.int .u64 9) (.int .i64 0)
         have HBA2 := Aside0.mk (Below.grown HBA.out hgr HBA.out.size (fun k hk => by injection hk with hk; rw [← hk]; exact hg5))
         have hg9 : w5.heap.size ≠ g5 := fun e => by
          have h1 := BKC.out
          rw [e] at h1
          have h2 := h1.symm.trans hc5
          injection h2 with h2
          injection h2 with _ h3
          exact absurd h3 (by decide)
         have BKC2 := Aside0.mk (blk_far (p := ⟨g5, k3.toNat * 3 + 2, none⟩) (blk_far (p := ⟨g5, k3.toNat * 3 + 1, none⟩) (blk_far (p := ⟨g5, k3.toNat * 3, none⟩) BKC.out hg9 (.bool false)) hg9 (.int .u64 9)) hg9 (.int .i64 0))
         generalize hws : ((wr.setCell ⟨g5, k3.toNat * 3, none⟩ (.bool false)).setCell ⟨g5, k3.toNat * 3 + 1, none⟩ (.int .u64 9)).setCell ⟨g5, k3.toNat * 3 + 2, none⟩ (.int .i64 0) = ws2 at HRD2 HBA2 BKC2
         have HJ0 := Aside0.mk (And.intro hk0 hk1)
         have hj0 : decide (0 ≤ k3) = true := decide_eq_true hk0
         have hj1 : decide (k3 < (m.f2.length : Int)) = true := decide_eq_true hk1
         have hj2 : (k3 < (m.f2.length : Int)) = True := eq_true hk1
         have hj3 : (0 ≤ k3) = True := eq_true hk0
         have hadd2 : wrap64 (k3 + 1) = k3 + 1 := by
          unfold wrap64
          have := HS.out
          omega
         have HADD2 := Aside0.mk hadd2
         clear hgr hset hdr hRD hcl hyt e5a e5b e5c hl5 hc5 hg5 hg9 hlt3 hk0 hk1 htl hadd2
         go_wp2
         clear hws
         have hml : eaLeft m.f2.length (Value.int IntKind.i64 (k3 + 1)) < eaLeft m.f2.length (Value.int IntKind.i64 k3) := by
          have := HJ0.out
          show m.f2.length - (k3 + 1).toNat < m.f2.length - k3.toNat
          omega
         have hp2 : Aside0 (k3.toNat + 1 ≤ m.f2.length) := ⟨by have := HJ0.out; omega⟩
         have hk4 : Aside0 (k3 + 1 = ((k3.toNat + 1 : Nat) : Int)) := ⟨by have := HJ0.out; omega⟩
         rw [HADD2.out]
         exact ⟨⟨k3 + 1, k3.toNat + 1, ds.set k3.toNat (⟨false, 9, 0⟩ : S40), rfl, hk4, hp2, HRD2, BKC2, HBA2⟩, hml⟩
        ·have Z2 : wr.cell? ⟨w5.heap.size, 2, none⟩ = some (.slice C2 m.f2.length cc2) := (blk_cell BKC.out 2).trans rfl
         have hj1 : decide (k3 < (m.f2.length : Int)) = false := decide_eq_false (by omega)
         have hj2 : (k3 < (m.f2.length : Int)) = False := eq_false (by omega)
         have HBM : Aside0 (Below w.heap.size w wr) := ⟨S4B.out.trans (HBA.out.mono S4B.out.size)⟩
         have HBD : Aside0 (Below wd.heap.size wd wr) := ⟨S43.out.trans (HBA.out.mono S43.out.size)⟩
         have BM := Aside0.mk (blk_below S4K1.out HBA.out)
         have BW := Aside0.mk (blk_below S4K3.out HBA.out)
         have zm0 : wr.cell? ⟨g1, 0, none⟩ = some (.string m.f0) := (blk_cell BM.out 0).trans rfl
         have zm1 : wr.cell? ⟨g1, 1, none⟩ = some (.int .i64 m.f1) := (blk_cell BM.out 1).trans rfl
         have zm2 : wr.cell? ⟨g1, 2, none⟩ = some (.slice Av m.f2.length cv) := (blk_cell BM.out 2).trans rfl
         have zm3 : wr.cell? ⟨g1, 3, none⟩ = some (.int .i64 m.f3) := (blk_cell BM.out 3).trans rfl
         have zm4 : wr.cell? ⟨g1, 4, none⟩ = some (.slice At m.f4.length ct) := (blk_cell BM.out 4).trans rfl
         have zm5 : wr.cell? ⟨g1, 5, none⟩ = some (.int .i64 m.f5) := (blk_cell BM.out 5).trans rfl
         have zw0 : wr.cell? ⟨wd.heap.size, 0, none⟩ = some (.string m.f0) := (blk_cell BW.out 0).trans rfl
         have zw1 : wr.cell? ⟨wd.heap.size, 1, none⟩ = some (.int .i64 m.f1) := (blk_cell BW.out 1).trans rfl
         have zw2 : wr.cell? ⟨wd.heap.size, 2, none⟩ = some (.slice W2 m.f2.length cw2) := (blk_cell BW.out 2).trans rfl
         have zw3 : wr.cell? ⟨wd.heap.size, 3, none⟩ = some (.int .i64 m.f3) := (blk_cell BW.out 3).trans rfl
         have zw4 : wr.cell? ⟨wd.heap.size, 4, none⟩ = some (.slice W4 m.f4.length cw4) := (blk_cell BW.out 4).trans rfl
         have zw5 : wr.cell? ⟨wd.heap.size, 5, none⟩ = some (.int .i64 m.f5) := (blk_cell BW.out 5).trans rfl
         clear hlt3 hk3 htl HK3 HP3 HRD
         go_wp2_with fail
         refine (forebayref07_Equal.calls ke m.f0 m.f1 Av cv m.f2 m.f3 At ct m.f4 m.f5 m.f0 m.f1 W2 cw2 m.f2 m.f3 W4 cw4 m.f4 m.f5 true wr (Kd.C_below HM.out.v HBM.out) HM.out.vc (Kd.C_below HM.out.t HBM.out) HM.out.tc (Kd.C_below HWC.out.v HBD.out) HWC.out.vc (Kd.C_below HWC.out.t HBD.out) HWC.out.tc HKE.out).mono ?_
         rintro e wy ⟨rfl, hb⟩
         have HBY := Aside0.mk (below_step HBM.out hb)
         clear hb
         go_wp2_with fail
         refine (forebaylaw07_awake.calls ka true wy HKA.out).mono ?_
         rintro e wz ⟨rfl, hb⟩
         have HBZ := Aside0.mk (below_step HBY.out hb)
         clear hb
         go_wp2
         go_ret
         exact ⟨rfl, HBZ.out⟩
namespace metricSplits
open Go.ChangeShapes Go.WideShapes Go.ChangeAt Go.RowKit
open Go.ChangeMaps (open_string shut_string)
theorem own : ownKnob Try.prog.godebug = none := by kernel_rfl
theorem laidOut : laidOutB Try.prog = true := by kernel_rfl
set_option maxRecDepth 100000 in
theorem lifted (os : Os) (started : os.Started) (H : Type) (enc : TypeId × Value → H) :
  ReturnsInHanded {} Try.checked os 7 .any (Rows.metricSplitsSpec.pre6 enc Try.prog Try.f7 Rows.metricSplitsRow.domain false) (Rows.metricSplitsSpec.post enc Try.prog Try.f7 false true false false) := by
 refine returnsInHanded_of_change_sized (C := Try.checked) own started (by kernel_rfl) Try.func7
  (ChangeSpec.witness6 (enc := enc) (C := Try.checked) false ⟨#[], #[.agg #[.string ByteArray.empty, .int .i64 0, .slice none 0 0, .int .i64 0, .slice none 0 0, .int .i64 0]], []⟩ 8 (by kernel_rfl) (by kernel_rfl) (by kernel_rfl) (by kernel_rfl)) ?_
 intro W base args ds gs before hval0 hW hcnd hsz0 _
 have hsz : (DataW.weightsEach Try.prog (Try.f7.params.toList ++ Rows.metricSplitsSpec.plain.varTypes Try.prog) (ds ++ gs)).all (· ≤ reachBytes) = true := hsz0
 have hval : ∀ (j : Nat) t v, Try.f7.params[j]? = some t → args[j]? = some v → Value.okWide Try.prog W .any base t v := hval0
 have hW' := hW
 obtain ⟨p, q, hA0, hV, rfl, hfz, hnd⟩ := hW
 have hA : DataW.TrodAll enc Try.prog W 0 (fun _ => true) true Try.f7.params.toList args.toList ds p := hA0
 rw [Try.params7] at hA hval hsz
 obtain ⟨v0, vs0, d0, ds0, p0, q0, hargs, rfl, rfl, h0, r0⟩ := trodAll_cons hA
 obtain ⟨rfl, rfl, rfl⟩ := trodAll_nil r0
 obtain rfl : args = #[v0] := by cases args; simp_all
 obtain ⟨rfl, rfl⟩ := trodVars_none hV
 have k0 := h0
 have lt0 : ∀ x ∈ p0, x.block < W.heap.size := by obtain ⟨m, hm⟩ := k0; exact DataW.trod_lt m _ _ _ hm
 obtain ⟨m0, A0, c0, B0, e0, rfl, g0, i0⟩ := open_metric (hval 0 25 v0 rfl rfl) h0
 clear hA0 hval0 hsz0 hsz
 refine (metricSplits_walk m0 A0 c0 B0 e0 W g0 i0).mono fun e W' ⟨he, bel⟩ => ?_
 subst he
 exact ⟨_, rfl, _, _, _, [], _, [], hW', trodAll_mk1 (shut_bool Try.underlying4 _), (trodAll_cons_mk (Below.trod laidOut (by kernel_rfl) (of_decide_eq_true (by kernel_rfl)) k0 bel lt0) trodAll_mk0), rfl, bel.frame _, fun h => by cases h⟩
theorem over : Rows.metricSplitsRow.holds Try.pinned (OpenSpec.ofChange Rows.metricSplitsSpec) :=
 OpenClaim.holds_of_wide 7 Try.f7 rfl rfl rfl rfl rfl rfl rfl ⟨rfl, rfl, rfl, rfl, rfl⟩ rfl rfl rfl rfl rfl (by kernel_rfl) Try.func7 (by kernel_rfl)
  (of_decide_eq_true (by kernel_rfl)) (by unfold Func.isWrapper; first | (rw [if_pos (by decide +kernel)]; kernel_rfl) | (rw [if_neg (by decide +kernel)]; exact ⟨rfl, rfl⟩))
  (fun os started H enc _ => lifted os started H enc)
theorem proved : Rows.MetricSplitsSaid := over
end metricSplits
theorem metricSplits_holds : Rows.MetricSplitsSaid := metricSplits.proved
#print axioms metricSplits_holds
end Go.Proofs.Yteamldgngknmfaa
