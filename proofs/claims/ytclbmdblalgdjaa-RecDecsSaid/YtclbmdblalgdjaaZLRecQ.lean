/- Package rec: Put: its walk; no condition. -/
import Derived.Test.YtclbmdblalgdjaaZLRecP
namespace Go.Proofs.Ytclbmdblalgdjaa
open Go.RowKit Go.Proofs.YtclbmdblalgdjaaW.PrintWords Go.Proofs.YtclbmdblalgdjaaW.PrintLast Go.Proofs.YtclbmdblalgdjaaW.PrintMore Go.Proofs.Ytclbmdblalgdjaa.PE
set_option linter.unusedVariables false
set_option linter.unusedSimpArgs false
def PPost (d : Dic) (m : MetS) (w : World) (e : Ending) (w' : World) : Prop :=
 ∃ v, e = .returned (.tuple #[v, .int .i64 (pcode d.ws m)]) ∧ (Kd.int .u8).R 5 w' w.heap.size (fun _ => True) v (if pcode d.ws m = 0 then (pmet d.ws m).1 else []) ∧ DTurn d (if pcode d.ws m = 0 then (pmet d.ws m).2 else d.ws) w w'
theorem PPost.no {d : Dic} {m : MetS} {w w' : World} {c : Int} (hd : DicAt d w) (hb : Below w.heap.size w w') (hc : pcode d.ws m = c) (hn : c ≠ 0) : PPost d m w (.returned (.tuple #[.slice none 0 0, .int .i64 c])) w' := by
 subst hc
 refine ⟨_, rfl, ?_, ?_⟩
 ·rw [if_neg hn]; exact Kd.R_nil _ _ _ _ _
 ·rw [if_neg hn]; exact DTurn.same hd (Chg.of_below hb _)
section
variable {okm : Nat → Prop} {d : Dic} {b3 b7 b8 b9 : Nat} {m : MetS} {Av At : Option Addr} {cv ct : Nat} {v x : Value} {ws : List ByteArray} {l ys : List Int} {w W W' : World}
theorem PS.put0 (h : PS okm d b3 b7 b8 b9 m Av cv At ct v ws x l w W) {s : ByteArray} (hs : s.size ≤ 200) (hl : ws.length < 65536) {p : List Int} {ws2 : List ByteArray} (hp : (dput ws s).1 = p) (hw : (dput ws s).2.2 = ws2) :
  Calls Try.prog 35 #[.pointer (some ⟨d.g, 0, none⟩), .string s] W fun e W' => ∃ A c v', e = .returned (.tuple #[.slice A p.length c, .int .i64 0]) ∧ (Kd.int .u8).R 5 W' w.heap.size (fun _ => True) (.slice A p.length c) p ∧ PS okm d b3 b7 b8 b9 m Av cv At ct v' ws2 x l w W' ∧ KeepB W W' := by
 have hc := h.put2 (s := s) (by omega)
 rw [dput_ok hs hl, hp, hw] at hc
 exact hc
end
theorem ptags_snoc (t : TagS) : ∀ (ws : List ByteArray) (l : List TagS), ptags ws (l ++ [t]) = ((ptags ws l).1 ++ (dput (ptags ws l).2 t.f0).1 ++ (dput (dput (ptags ws l).2 t.f0).2.2 t.f1).1, (dput (dput (ptags ws l).2 t.f0).2.2 t.f1).2.2)
 | ws, [] => by simp [ptags]
 | ws, y :: l => by
  have ih := ptags_snoc t (dput (dput ws y.f0).2.2 y.f1).2.2 l
  rw [List.cons_append]
  unfold ptags
  rw [ih]
  simp only [List.append_assoc]
theorem ptags_bd : ∀ (l : List TagS) (ws : List ByteArray), ws.length + 2 * l.length ≤ 65536 → (ptags ws l).2.length ≤ ws.length + 2 * l.length ∧ (ptags ws l).1.length ≤ 440 * l.length
 | [], ws, _ => ⟨by simp [ptags], by simp [ptags]⟩
 | y :: l, ws, h => by
  rw [List.length_cons] at h
  have g1 := dput_grow ws y.f0
  have g2 := dput_grow (dput ws y.f0).2.2 y.f1
  have q1 := dput_len1 ws y.f0 (by omega)
  have q2 := dput_len1 (dput ws y.f0).2.2 y.f1 (by omega)
  have ih := ptags_bd l (dput (dput ws y.f0).2.2 y.f1).2.2 (by omega)
  unfold ptags
  simp only [List.length_append, List.length_cons]
  exact ⟨by omega, by omega⟩
set_option maxHeartbeats 16000000 in
set_option maxRecDepth 100000 in
theorem recput_calls {okm : Nat → Prop} (d : Dic) (m : MetS) (Av : Option Addr) (cv : Nat) (At : Option Addr) (ct : Nat) (w : World) (hd : DicAt d w) (hm : MetF okm m Av cv At ct w) (hap : ∀ k, okm k → ¬ d.F k) (hlo : ∀ k, okm k → k < w.heap.size) :
  Calls Try.prog 12 #[.pointer (some ⟨d.g, 0, none⟩), .agg #[.string m.f0, .int .i64 m.f1, .slice Av m.f2.length cv, .int .i64 m.f3, .slice At m.f4.length ct, .int .i64 m.f5]] w (PPost d m w) := by
 have HD0 := Aside0.mk hd
 have HD := Aside0.mk hd
 have HM := Aside0.mk hm
 have HAP := Aside0.mk hap
 have HLO := Aside0.mk hlo
 have HB := Aside0.mk (Below.refl w.heap.size w)
 clear hd hm hap hlo
 go_enter Try.func12, Try.ntmps12
 go_wp2_with (first | ((with_reducible refine gate_dst (N := 3) rfl ?_); refine box_event ?hg (N := 3) ?hd (cs := #[.string m.f0, .int .i64 m.f1, .slice Av m.f2.length cv, .int .i64 m.f3, .slice At m.f4.length ct, .int .i64 m.f5]) (t := 26) ?hr ?_; (case hd => rfl); (case hg => rfl); (case hr => first | (go_simp; done) | (go_simp; rfl)); intro b3 hgb3 w1 hbox hb; have GEb3 := Aside0.mk ((by rw [hgb3]; exact below_size HB.out) : w.heap.size ≤ b3); have n0 := Aside0.mk (below_step HB.out hb); clear HB; have HB := n0; clear n0; have n0 := Aside0.mk (HD.out.below hb); clear HD; have HD := n0; clear n0; have n0 := Aside0.mk (HM.out.below hb); clear HM; have HM := n0; clear n0; have BK3 := Aside0.mk hbox; clear hgb3 hbox hb; (try clear zBK3_0); have zBK3_0 : w1.cell? ⟨b3, 0, none⟩ = some (.string m.f0) := (blk_cell BK3.out 0).trans rfl; (try clear zBK3_1); have zBK3_1 : w1.cell? ⟨b3, 1, none⟩ = some (.int .i64 m.f1) := (blk_cell BK3.out 1).trans rfl; (try clear zBK3_2); have zBK3_2 : w1.cell? ⟨b3, 2, none⟩ = some (.slice Av m.f2.length cv) := (blk_cell BK3.out 2).trans rfl; (try clear zBK3_3); have zBK3_3 : w1.cell? ⟨b3, 3, none⟩ = some (.int .i64 m.f3) := (blk_cell BK3.out 3).trans rfl; (try clear zBK3_4); have zBK3_4 : w1.cell? ⟨b3, 4, none⟩ = some (.slice At m.f4.length ct) := (blk_cell BK3.out 4).trans rfl; (try clear zBK3_5); have zBK3_5 : w1.cell? ⟨b3, 5, none⟩ = some (.int .i64 m.f5) := (blk_cell BK3.out 5).trans rfl))
 obtain ⟨bd, hbd⟩ : ∃ bd, metBad m = bd := ⟨_, rfl⟩
 have HBD := Aside0.mk hbd
 have hcall := mcheck_calls m Av cv At ct w1 HM.out.metC
 rw [hbd] at hcall
 clear hbd
 refine hcall.mono ?_
 rintro e w2 ⟨rfl, hb⟩
 clear hcall
 have n0 := Aside0.mk (HD.out.below hb)
 have n1 := Aside0.mk (HM.out.below hb)
 have n2 := Aside0.mk (below_step HB.out hb)
 have n3 := Aside0.mk (blk_below BK3.out hb)
 clear HD HM HB BK3 hb zBK3_0 zBK3_1 zBK3_2 zBK3_3 zBK3_4 zBK3_5
 have HD := n0
 have HM := n1
 have HB := n2
 have BK3 := n3
 clear n0 n1 n2 n3
 by_cases h0 : bd = 0
 ·subst h0
  obtain ⟨l4, htl⟩ : ∃ l4 : Prop, l4 = (m.f4.length ≤ 1000000) := ⟨_, rfl⟩
  have h4 : m.f4.length ≤ 1000000 := by have := (metParts HBD.out).2.2.2.2.1.1; omega
  obtain ⟨k, hk⟩ := Ev.rounds (mis_ev m HM.out.wi h4)
  rw [HBD.out] at hk
  obtain ⟨ti, hti⟩ : ∃ ti, tIs m.f4 = ti := ⟨_, rfl⟩
  have HTI := Aside0.mk hti
  rw [hti, show (decide ((0 : Int) = 0) && ti) = ti from Bool.true_and _] at hk
  have HK := Aside0.mk hk
  clear hk h4 hti htl l4
  have z0 : w2.cell? ⟨b3, 0, none⟩ = some (.string m.f0) := (blk_cell BK3.out 0).trans rfl
  have z1 : w2.cell? ⟨b3, 1, none⟩ = some (.int .i64 m.f1) := (blk_cell BK3.out 1).trans rfl
  have z2 : w2.cell? ⟨b3, 2, none⟩ = some (.slice Av m.f2.length cv) := (blk_cell BK3.out 2).trans rfl
  have z3 : w2.cell? ⟨b3, 3, none⟩ = some (.int .i64 m.f3) := (blk_cell BK3.out 3).trans rfl
  have z4 : w2.cell? ⟨b3, 4, none⟩ = some (.slice At m.f4.length ct) := (blk_cell BK3.out 4).trans rfl
  have z5 : w2.cell? ⟨b3, 5, none⟩ = some (.int .i64 m.f5) := (blk_cell BK3.out 5).trans rfl
  go_wp2_with fail
  refine (metric_Is.calls k m.f0 m.f1 Av cv m.f2 m.f3 At ct m.f4 m.f5 ti w2 HM.out.metC.v HM.out.metC.vc HM.out.metC.t HM.out.metC.tc HK.out).mono ?_
  rintro e w3 ⟨rfl, hb⟩
  have n0 := Aside0.mk (HD.out.below hb)
  have n1 := Aside0.mk (HM.out.below hb)
  have n2 := Aside0.mk (below_step HB.out hb)
  have n3 := Aside0.mk (blk_below BK3.out hb)
  clear HD HM HB BK3 hb HK z0 z1 z2 z3 z4 z5
  have HD := n0
  have HM := n1
  have HB := n2
  have BK3 := n3
  clear n0 n1 n2 n3
  cases ti with
  | false =>
   go_wp2
   go_ret2
   refine PPost.no HD0.out HB.out ?_ (by decide)
   unfold pcode
   rw [if_pos HBD.out, if_neg (by rw [HTI.out]; decide)]
  | true =>
   go_wp2_with fail
   refine (diclen_calls d w3 HD.out).mono ?_
   rintro e w4 ⟨rfl, rfl⟩
   obtain ⟨nw, hnw⟩ : ∃ nw, d.ws.length = nw := ⟨_, rfl⟩
   have HNW := Aside0.mk hnw
   rw [hnw]
   clear hnw
   by_cases hl : 65471 < nw
   ·have hl1 : decide ((65471 : Int) < (nw : Int)) = true := decide_eq_true (by omega)
    go_wp2
    go_ret2
    refine PPost.no HD0.out HB.out ?_ (by decide)
    unfold pcode
    rw [if_pos HBD.out, if_pos HTI.out, if_pos (by rw [HNW.out]; exact hl)]
   ·have hl1 : decide ((65471 : Int) < (nw : Int)) = false := decide_eq_false (by omega)
    have HL := Aside0.mk hl
    clear hl
    have hpc : pcode d.ws m = 0 := by
     unfold pcode
     rw [if_pos HBD.out, if_pos HTI.out, if_neg (by rw [HNW.out]; exact HL.out)]
    have HPC := Aside0.mk hpc
    clear hpc
    go_wp2_with (first | ((with_reducible refine gate_dst (N := 7) rfl ?_); refine box_event ?hg (N := 7) ?hd (cs := #[.slice none 0 0]) (t := 34) ?hr ?_; (case hd => rfl); (case hg => rfl); (case hr => first | (go_simp; done) | (go_simp; rfl)); intro b7 hgb7 w5 hbox hb; have GEb7 := Aside0.mk ((by rw [hgb7]; exact below_size HB.out) : w.heap.size ≤ b7); have n0 := Aside0.mk (below_step HB.out hb); clear HB; have HB := n0; clear n0; have n0 := Aside0.mk (HD.out.below hb); clear HD; have HD := n0; clear n0; have n0 := Aside0.mk (HM.out.below hb); clear HM; have HM := n0; clear n0; have n0 := Aside0.mk (blk_below BK3.out hb); clear BK3; have BK3 := n0; clear n0; have BK7 := Aside0.mk hbox; clear hgb7 hbox hb; (try clear zBK7_0); have zBK7_0 : w5.cell? ⟨b7, 0, none⟩ = some (.slice none 0 0) := (blk_cell BK7.out 0).trans rfl; (try clear fBK7_0); have fBK7_0 := blk_frozen BK7.out 0) | ((with_reducible refine gate_dst (N := 8) rfl ?_); refine box_event ?hg (N := 8) ?hd (cs := #[.int .i64 0]) (t := 35) ?hr ?_; (case hd => rfl); (case hg => rfl); (case hr => first | (go_simp; done) | (go_simp; rfl)); intro b8 hgb8 w6 hbox hb; have GEb8 := Aside0.mk ((by rw [hgb8]; exact below_size HB.out) : w.heap.size ≤ b8); have n0 := Aside0.mk (below_step HB.out hb); clear HB; have HB := n0; clear n0; have n0 := Aside0.mk (blk_below BK7.out hb); clear BK7; have BK7 := n0; clear n0; have n0 := Aside0.mk (HD.out.below hb); clear HD; have HD := n0; clear n0; have n0 := Aside0.mk (HM.out.below hb); clear HM; have HM := n0; clear n0; have n0 := Aside0.mk (blk_below BK3.out hb); clear BK3; have BK3 := n0; clear n0; have BK8 := Aside0.mk hbox; clear hgb8 hbox hb; (try clear zBK7_0); have zBK7_0 : w6.cell? ⟨b7, 0, none⟩ = some (.slice none 0 0) := (blk_cell BK7.out 0).trans rfl; (try clear fBK7_0); have fBK7_0 := blk_frozen BK7.out 0; (try clear zBK8_0); have zBK8_0 : w6.cell? ⟨b8, 0, none⟩ = some (.int .i64 0) := (blk_cell BK8.out 0).trans rfl; (try clear fBK8_0); have fBK8_0 := blk_frozen BK8.out 0))
    have hst := (Chg.refl (fun k => k = b8) w6).set1 0 (.int .i64 0)
    have ne7 : b7 ≠ b8 := blk_ne2 BK7.out BK8.out (by decide)
    have ne3 : b3 ≠ b8 := blk_ne2 BK3.out BK8.out (by decide)
    have n7 := blk_far (p := ⟨b8, 0, none⟩) BK7.out ne7 (.int .i64 0)
    have n8 : (w6.setCell ⟨b8, 0, none⟩ (.int .i64 0)).heap[b8]? = some (.cells #[.int .i64 0] 35 (0, 0)) := (blk_put BK8.out 0 (.int .i64 0) rfl).trans rfl
    have n3 := blk_far (p := ⟨b8, 0, none⟩) BK3.out ne3 (.int .i64 0)
    have nD := HD.out.step hst (fun k hF hk => by have h1 := HD0.out.lt k hF; have h2 := GEb8.out; omega)
    have nM := HM.out.step hst (fun k hk ho => by have h1 := HLO.out k ho; have h2 := GEb8.out; omega)
    have nC : Chg d.F w (w6.setCell ⟨b8, 0, none⟩ (.int .i64 0)) := (Chg.of_below HB.out d.F).trans hst (fun k hk => .inr (by rw [hk]; exact GEb8.out))
    have hsz : (w6.setCell ⟨b8, 0, none⟩ (.int .i64 0)).heap.size = w6.heap.size := by simp [World.setCell]
    generalize hws : w6.setCell ⟨b8, 0, none⟩ (.int .i64 0) = wa at n7 n8 n3 nD nM nC hsz ⊢
    clear hst hws
    obtain ⟨b9, hb9⟩ : ∃ b9, w6.heap.size = b9 := ⟨_, rfl⟩
    have hbx := blk_new wa (.cells #[.func (.func 39) #[] #[.pointer (some ⟨b8, 0, none⟩), .pointer (some ⟨b7, 0, none⟩)]] 85)
    rw [hsz, hb9] at hbx
    have hal : Below wa.heap.size wa (wa.alloc (.cells #[.func (.func 39) #[] #[.pointer (some ⟨b8, 0, none⟩), .pointer (some ⟨b7, 0, none⟩)]] 85)) := below_alloc (Below.refl _ _) _
    have HP : Aside0 (PS okm d b3 b7 b8 b9 m Av cv At ct d.v d.ws (.slice none 0 0) [] w (wa.alloc (.cells #[.func (.func 39) #[] #[.pointer (some ⟨b8, 0, none⟩), .pointer (some ⟨b7, 0, none⟩)]] 85))) := ⟨⟨nD.below hal, nC.below hal, .inl rfl, nM.below hal, blk_below n3 hal, blk_below n7 hal, blk_below n8 hal, hbx, Kd.R_nil _ _ _ _ _, GEb7.out, GEb8.out, HAP.out, HLO.out⟩⟩
    rw [hb9]
    generalize wa.alloc (.cells #[.func (.func 39) #[] #[.pointer (some ⟨b8, 0, none⟩), .pointer (some ⟨b7, 0, none⟩)]] 85) = wb at HP ⊢
    clear HD HM BK3 BK7 BK8 HB n7 n8 n3 nD nM nC hsz hbx hal hb9 ne7 ne3 zBK7_0 zBK8_0 fBK7_0 fBK8_0
    obtain ⟨⟨q00, q01, q02⟩, ⟨q10, q11⟩, ⟨q2, q2b⟩, ⟨⟨q30, q31⟩, _⟩, ⟨q40, q41⟩, q5⟩ := metParts HBD.out
    have HQ := Aside0.mk (show (m.f0.size ≤ 200 ∧ 1 ≤ m.f1 ∧ m.f1 ≤ 5) ∧ (m.f2.length ≤ 64 ∧ ∀ d ∈ m.f2, decBad d.f0 d.f1 d.f2 = 0) ∧ (0 ≤ m.f3 ∧ m.f3 < 9223372036854775808) ∧ (m.f4.length ≤ 32 ∧ ∀ t ∈ m.f4, tagBad t.f0 t.f1 = 0) ∧ 0 ≤ m.f5 ∧ m.f5 < 9223372036854775808 from ⟨⟨by omega, by omega, by omega⟩, ⟨by omega, q2b⟩, ⟨by omega, by omega⟩, ⟨by omega, q41⟩, by omega, by omega⟩)
    clear q00 q01 q02 q10 q11 q2 q2b q30 q31 q40 q41 q5
    have HNW2 := Aside0.mk (show d.ws.length ≤ 65471 by have h1 := HNW.out; have h2 := HL.out; omega)
    obtain ⟨p0, hp0⟩ : ∃ p0, (dput d.ws m.f0).1 = p0 := ⟨_, rfl⟩
    obtain ⟨ws1, hws1⟩ : ∃ ws1, (dput d.ws m.f0).2.2 = ws1 := ⟨_, rfl⟩
    have HP0 := Aside0.mk hp0
    have HWS1 := Aside0.mk hws1
    have HL0 := Aside0.mk (show p0.length ≤ 220 by rw [← hp0]; exact dput_len1 _ _ (by have := HNW2.out; omega))
    have HG1 := Aside0.mk (show ws1.length ≤ 65472 by rw [← hws1]; have := dput_grow d.ws m.f0; have := HNW2.out; omega)
    have HPUT := Aside0.mk (HP.out.drew.put0 HQ.out.1.1 (by have := HNW2.out; omega) hp0 hws1)
    clear hp0 hws1
    refine start_ (n := 8) (S := fun w' => w'.cell? ⟨b9, 0, none⟩ = some (.func (.func 39) #[] #[.pointer (some ⟨b8, 0, none⟩), .pointer (some ⟨b7, 0, none⟩)]) ∧ w'.cell? ⟨b3, 0, none⟩ = some (.string m.f0)) (ds := []) #[false, false, false, false, false, false, false, false] (by kernel_rfl) rfl rfl ⟨(blk_cell HP.out.drew.k9 0).trans rfl, (blk_cell HP.out.drew.k3 0).trans rfl⟩ (fun hHeld => ?_)
    refine pure_ (i := 1) (N := some 34) (v := ?_) (a' := ?_) #[false, true, false, false, false, false, false, false] rfl rfl (by kernel_rfl) (fun _ _ _ h => h) (Or.inl ⟨by rfl, ?_⟩) ?_ ?_
    rotate_left
    ·intro w'
     go_simp
     with_reducible rfl
    rotate_left
    ·simp only [Act.put, List.setIfInBounds_toArray, List.set_cons_zero, List.set_cons_succ, i64_w, i32_w]
     rfl
    refine pure_ (i := 2) (N := some 35) (v := ?_) (a' := ?_) #[false, true, true, false, false, false, false, false] rfl rfl (by kernel_rfl) (fun _ _ _ h => h) (Or.inl ⟨by rfl, ?_⟩) ?_ ?_
    rotate_left
    ·intro w'
     go_simp
     with_reducible rfl
    rotate_left
    ·simp only [Act.put, List.setIfInBounds_toArray, List.set_cons_zero, List.set_cons_succ, i64_w, i32_w]
     rfl
    refine take_ (i := 0) (N := some 33) (v := ?_) (a' := ?_) #[true, true, true, false, false, false, false, false] rfl rfl (by kernel_rfl) (fun _ _ _ h => h) (Or.inl ⟨by rfl, ?_⟩) hHeld ?_ ?_
    rotate_left
    ·rintro w' ⟨s0, s1⟩
     go_simp
     with_reducible rfl
    rotate_left
    ·simp only [Act.put, List.setIfInBounds_toArray, List.set_cons_zero, List.set_cons_succ, i64_w, i32_w]
     rfl
    refine take_ (i := 3) (N := some 36) (v := ?_) (a' := ?_) #[true, true, true, true, false, false, false, false] rfl rfl (by kernel_rfl) (fun _ _ _ h => h) (Or.inl ⟨by rfl, ?_⟩) hHeld ?_ ?_
    rotate_left
    ·rintro w' ⟨s0, s1⟩
     go_simp
     with_reducible rfl
    rotate_left
    ·simp only [Act.put, List.setIfInBounds_toArray, List.set_cons_zero, List.set_cons_succ, i64_w, i32_w]
     rfl
    refine one_ (i := 4) (N := some 37) #[true, true, true, true, true, false, false, false] rfl rfl (by kernel_rfl) (by decide) (fun K hK => ?_)
    refine goes_ Try.func35 (by kernel_rfl) rfl #[.pointer (some ⟨d.g, 0, none⟩), .string m.f0] (by rfl) rfl rfl (by first | (simp only [List.map_toArray, List.map_cons, List.map_nil]; done) | (simp only [List.map_toArray, List.map_cons, List.map_nil]; rfl) | simp) ?_
    with_reducible refine (HPUT.out).mono ?_
    rintro e wA ⟨Ay, cy, v1, rfl, hy, hp, _⟩
    have HA := Aside0.mk hp
    have HY := Aside0.mk hy
    clear hp hy
    refine ⟨_, rfl, ?_⟩
    refine hK.out _ _ ⟨(blk_cell HA.out.k9 0).trans rfl, (blk_cell HA.out.k3 0).trans rfl⟩ (fun hHeld => ?_)
    clear hK K
    refine norm_ (a' := ?_) ?_ ?_
    rotate_left
    ·show Act.put _ (some 37) _ = _
     simp only [Act.put, List.setIfInBounds_toArray, List.set_cons_zero, List.set_cons_succ, i64_w, i32_w]
     rfl
    refine pure_ (i := 5) (N := some 38) (v := ?_) (a' := ?_) #[true, true, true, true, true, true, false, false] rfl rfl (by kernel_rfl) (fun _ _ _ h => h) (Or.inl ⟨by rfl, ?_⟩) ?_ ?_
    rotate_left
    ·intro w'
     go_simp
     with_reducible rfl
    rotate_left
    ·simp only [Act.put, List.setIfInBounds_toArray, List.set_cons_zero, List.set_cons_succ, i64_w, i32_w]
     rfl
    refine pure_ (i := 6) (N := some 39) (v := ?_) (a' := ?_) #[true, true, true, true, true, true, true, false] rfl rfl (by kernel_rfl) (fun _ _ _ h => h) (Or.inl ⟨by rfl, ?_⟩) ?_ ?_
    rotate_left
    ·intro w'
     go_simp
     with_reducible rfl
    rotate_left
    ·simp only [Act.put, List.setIfInBounds_toArray, List.set_cons_zero, List.set_cons_succ, i64_w, i32_w]
     rfl
    refine one_ (i := 7) (N := some 40) #[true, true, true, true, true, true, true, true] rfl rfl (by kernel_rfl) (by decide) (fun K hK => ?_)
    refine goesW_ Try.func39 (by kernel_rfl) rfl #[.slice Ay p0.length cy, .int .i64 0, .pointer (some ⟨b8, 0, none⟩), .pointer (some ⟨b7, 0, none⟩)] (by rfl) rfl rfl (by rfl) (by simp only [List.map_toArray, List.map_cons, List.map_nil]; rfl) ?_
    refine (HA.out.app HY.out (by have := HL0.out; simp; omega)).mono ?_
    rintro e wB ⟨rfl, x1, hp⟩
    rw [List.nil_append] at hp
    have HB := Aside0.mk hp
    clear hp
    refine ⟨_, rfl, ?_⟩
    refine hK.out _ _ ⟨(blk_cell HB.out.k9 0).trans rfl, (blk_cell HB.out.k3 0).trans rfl⟩ (fun hHeld => ?_)
    clear hK K
    refine norm_ (a' := ?_) ?_ ?_
    rotate_left
    ·show Act.put _ (some 40) _ = _
     simp only [Act.put, List.setIfInBounds_toArray, List.set_cons_zero, List.set_cons_succ, i64_w, i32_w]
     rfl
    refine done_ (by kernel_rfl) ?_
    have HP1 := Aside0.mk HB.out
    clear HP HPUT HA HY HB
    have z9 : wB.cell? ⟨b9, 0, none⟩ = some (.func (.func 39) #[] #[.pointer (some ⟨b8, 0, none⟩), .pointer (some ⟨b7, 0, none⟩)]) := (blk_cell HP1.out.k9 0).trans rfl
    have z31 : wB.cell? ⟨b3, 1, none⟩ = some (.int .i64 m.f1) := (blk_cell HP1.out.k3 1).trans rfl
    have e1 : IntKind.u8.wrap m.f1 = m.f1 := IntWalk.u8_in _ (by have := HQ.out.1; omega)
    have HY : Aside0 ((Kd.int .u8).R 5 (wB.alloc (.cells #[.int .u8 m.f1] 5)) wB.heap.size (fun _ => True) (.slice (some ⟨wB.heap.size, 0, none⟩) 1 1) [m.f1]) := ⟨R_lit_u8 5 (Nat.le_refl _) [m.f1] (by simp)⟩
    have HN1 := Aside0.mk (show (0 : Int) ≤ (m.f2.length : Int) ∧ (m.f2.length : Int) < 9223372036854775808 by have := HQ.out.2.1.1; omega)
    go_wp2_with (first | ((with_reducible refine gate_dst (N := 46) rfl ?_); refine goesV_ (some 46) rfl rfl rfl rfl Try.func39 (by kernel_rfl) rfl #[.slice (some ⟨wB.heap.size, 0, none⟩) 1 1, .int .i64 0, .pointer (some ⟨b8, 0, none⟩), .pointer (some ⟨b7, 0, none⟩)] (by simp only [List.map_toArray, List.map_cons, List.map_nil]; rfl) ?_; (have hQ := (HP1.out.alloc (.cells #[.int .u8 m.f1] 5)).app HY.out (by have := HL0.out; omega)); refine hQ.mono ?_; (rintro e wC ⟨rfl, x2, hp⟩); have HP2 := Aside0.mk hp; clear hp hQ z9 z31 HY; refine ⟨_, rfl, ?_⟩; have z32 : wC.cell? ⟨b3, 2, none⟩ = some (.slice Av m.f2.length cv) := (blk_cell HP2.out.k3 2).trans rfl) | ((with_reducible refine gate_dst (N := 51) rfl ?_); refine goesV_ (some 51) rfl rfl rfl rfl Try.func40 (by kernel_rfl) rfl #[.int .i64 m.f2.length, .pointer (some ⟨b9, 0, none⟩)] (by simp only [List.map_toArray, List.map_cons, List.map_nil]; rfl) ?_; (have hQ := HP2.out.num (m.f2.length : Int) HN1.out (by have := HL0.out; simp only [List.length_append, List.length_cons, List.length_nil]; omega)); refine hQ.mono ?_; (rintro e wD ⟨rfl, x3, hp⟩); have HP3 := Aside0.mk hp; clear hp hQ z32; refine ⟨_, rfl, ?_⟩; have z32 : wD.cell? ⟨b3, 2, none⟩ = some (.slice Av m.f2.length cv) := (blk_cell HP3.out.k3 2).trans rfl))
    clear HP1 HP2 z32 e1
    have hp3 := HP3.out
    rw [Int.toNat_natCast] at hp3
    obtain ⟨l1, hl1⟩ : ∃ l1, p0 ++ [m.f1] ++ vput m.f2.length = l1 := ⟨_, rfl⟩
    rw [hl1] at hp3
    have HL1 := Aside0.mk hl1
    have HLB1 := Aside0.mk (show l1.length ≤ 240 by rw [← hl1]; have h1 := HL0.out; have h2 := vput_len10 m.f2.length (by have := HQ.out.2.1.1; omega); simp only [List.length_append, List.length_cons, List.length_nil]; omega)
    clear HP3 hl1
    have HP := Aside0.mk hp3
    clear hp3
    go_loopw [55] (fun v55 wr => ∃ (i : Int) (x : Value), v55 = .int .i64 i ∧ 0 ≤ i ∧ i ≤ (m.f2.length : Int) ∧ Aside0 (PS okm d b3 b7 b8 b9 m Av cv At ct v1 ws1 x (l1 ++ pdecs (m.f2.take i.toNat)) w wr)) (fun v55 _ => m.f2.length - (intOf v55).toNat)
    case atStart => exact ⟨0, x3, rfl, by omega, by omega, ⟨by simpa [pdecs] using HP.out⟩⟩
    case round =>
     clear HP
     obtain ⟨i, x, rfl, hi0, hi, HP⟩ := hrel
     obtain ⟨wo, rfl⟩ : ∃ wo : World, wo = wr := ⟨_, rfl⟩
     by_cases hlt : i < (m.f2.length : Int)
     ·obtain ⟨ad, e, c0, c1, c2⟩ := at_T48 HP.out.mf.metC.v i hi0 hlt
      subst e
      have hin : i.toNat < m.f2.length := by omega
      obtain ⟨dv, hdv⟩ : ∃ dv, rd_T48 m.f2 i = dv := ⟨_, rfl⟩
      rw [hdv] at c0 c1 c2
      have hdv2 : m.f2[i.toNat] = dv := by
       rw [← hdv]
       unfold rd_T48
       rw [List.getD_eq_getElem?_getD, List.getElem?_eq_getElem hin]
       rfl
      have hmem : dv ∈ m.f2 := by rw [← hdv2]; exact List.getElem_mem hin
      have hbad := HQ.out.2.1.2 dv hmem
      have hdin : decIn dv = true := by
       have h := HP.out.mf.wi
       unfold metIn at h
       simp only [Bool.and_eq_true, List.all_eq_true] at h
       exact h.2.1 dv hmem
      have HPD := Aside0.mk (fun W : World => rec_PutDec.calls dv.f0 dv.f1 dv.f2 (pdec dv) 0 W (by rw [putdec_f dv hdin, if_pos hbad]))
      have HNX := Aside0.mk (show pdecs (m.f2.take (i + 1).toNat) = pdecs (m.f2.take i.toNat) ++ pdec dv by rw [show (i + 1).toNat = i.toNat + 1 by omega, pdecs_take hin, hdv2])
      obtain ⟨li, hli⟩ : ∃ li, l1 ++ pdecs (m.f2.take i.toNat) = li := ⟨_, rfl⟩
      have HLI := Aside0.mk hli
      have HLL := Aside0.mk (show li.length ≤ 5000 ∧ (pdec dv).length ≤ 20 by
       refine ⟨?_, pdec_len hdin hbad⟩
       have h1 := HP.out.mf.wi
       unfold metIn at h1
       simp only [Bool.and_eq_true, List.all_eq_true] at h1
       have h2 := pdecs_len (m.f2.take i.toNat) (fun y hy => ⟨h1.2.1 y (List.mem_of_mem_take hy), HQ.out.2.1.2 y (List.mem_of_mem_take hy)⟩)
       have h3 := HQ.out.2.1.1
       have h4 := HLB1.out
       rw [List.length_take] at h2
       rw [← hli, List.length_append]
       omega)
      rw [hli] at HP
      obtain ⟨pd, hpd⟩ : ∃ pd, pdec dv = pd := ⟨_, rfl⟩
      rw [hpd] at HPD HNX HLL
      clear hli hdv hdv2 hmem hbad hdin hpd hin
      go_wp2
      have hal : Below wo.heap.size wo (wo.alloc (.cells #[.bool dv.f0, .int .u64 dv.f1, .int .i64 dv.f2] 48)) := below_alloc (Below.refl _ _) _
      have hbox := blk_new wo (.cells #[.bool dv.f0, .int .u64 dv.f1, .int .i64 dv.f2] 48)
      generalize hwt : wo.alloc (.cells #[.bool dv.f0, .int .u64 dv.f1, .int .i64 dv.f2] 48) = wt at hal hbox ⊢
      obtain ⟨b12, hb12⟩ : ∃ b12, wo.heap.size = b12 := ⟨_, rfl⟩
      rw [hb12] at hbox ⊢
      have KB := Aside0.mk hbox
      have n0 := Aside0.mk (HP.out.below hal)
      clear HP hal hbox hb12 hwt c0 c1 c2
      have HP := n0
      clear n0
      refine start_ (n := 6) (S := fun w' => w'.cell? ⟨b9, 0, none⟩ = some (.func (.func 39) #[] #[.pointer (some ⟨b8, 0, none⟩), .pointer (some ⟨b7, 0, none⟩)]) ∧ w'.cell? ⟨b12, 0, none⟩ = some (.bool dv.f0) ∧ w'.cell? ⟨b12, 1, none⟩ = some (.int .u64 dv.f1) ∧ w'.cell? ⟨b12, 2, none⟩ = some (.int .i64 dv.f2)) (ds := []) #[false, false, false, false, false, false] (by kernel_rfl) rfl rfl ⟨(blk_cell HP.out.drew.k9 0).trans rfl, (blk_cell (blk_drew KB.out) 0).trans rfl, (blk_cell (blk_drew KB.out) 1).trans rfl, (blk_cell (blk_drew KB.out) 2).trans rfl⟩ (fun hHeld => ?_)
      refine take_ (i := 0) (N := some 59) (v := ?_) (a' := ?_) #[true, false, false, false, false, false] rfl rfl (by kernel_rfl) (fun _ _ _ h => h) (Or.inl ⟨by rfl, ?_⟩) hHeld ?_ ?_
      rotate_left
      ·rintro w' ⟨s0, s1, s2, s3⟩
       go_simp
       with_reducible rfl
      rotate_left
      ·simp only [Act.put, List.setIfInBounds_toArray, List.set_cons_zero, List.set_cons_succ, i64_w, i32_w]
       rfl
      refine take_ (i := 1) (N := some 60) (v := ?_) (a' := ?_) #[true, true, false, false, false, false] rfl rfl (by kernel_rfl) (fun _ _ _ h => h) (Or.inl ⟨by rfl, ?_⟩) hHeld ?_ ?_
      rotate_left
      ·rintro w' ⟨s0, s1, s2, s3⟩
       go_simp
       with_reducible rfl
      rotate_left
      ·simp only [Act.put, List.setIfInBounds_toArray, List.set_cons_zero, List.set_cons_succ, i64_w, i32_w]
       rfl
      refine one_ (i := 2) (N := some 61) #[true, true, true, false, false, false] rfl rfl (by kernel_rfl) (by decide) (fun K hK => ?_)
      refine goes_ Try.func18 (by kernel_rfl) rfl #[.agg #[.bool dv.f0, .int .u64 dv.f1, .int .i64 dv.f2]] (by rfl) rfl rfl (by first | (simp only [List.map_toArray, List.map_cons, List.map_nil]; done) | (simp only [List.map_toArray, List.map_cons, List.map_nil]; rfl) | simp) ?_
      with_reducible refine (HPD.out _).mono ?_
      rintro e wA ⟨vy, rfl, hy, hb⟩
      have HA := Aside0.mk (HP.out.drew.below hb)
      have KA := Aside0.mk (blk_below (blk_drew KB.out) hb)
      obtain ⟨Ay, cy, rfl, _⟩ := Kd.R_reads hy
      have HY := Aside0.mk hy
      clear hy hb
      refine ⟨_, rfl, ?_⟩
      refine hK.out _ _ ⟨(blk_cell HA.out.k9 0).trans rfl, (blk_cell KA.out 0).trans rfl, (blk_cell KA.out 1).trans rfl, (blk_cell KA.out 2).trans rfl⟩ (fun hHeld => ?_)
      clear hK K
      refine norm_ (a' := ?_) ?_ ?_
      rotate_left
      ·show Act.put _ (some 61) _ = _
       simp only [Act.put, List.setIfInBounds_toArray, List.set_cons_zero, List.set_cons_succ, i64_w, i32_w]
       rfl
      refine pure_ (i := 3) (N := some 62) (v := ?_) (a' := ?_) #[true, true, true, true, false, false] rfl rfl (by kernel_rfl) (fun _ _ _ h => h) (Or.inl ⟨by rfl, ?_⟩) ?_ ?_
      rotate_left
      ·intro w'
       go_simp
       with_reducible rfl
      rotate_left
      ·simp only [Act.put, List.setIfInBounds_toArray, List.set_cons_zero, List.set_cons_succ, i64_w, i32_w]
       rfl
      refine pure_ (i := 4) (N := some 63) (v := ?_) (a' := ?_) #[true, true, true, true, true, false] rfl rfl (by kernel_rfl) (fun _ _ _ h => h) (Or.inl ⟨by rfl, ?_⟩) ?_ ?_
      rotate_left
      ·intro w'
       go_simp
       with_reducible rfl
      rotate_left
      ·simp only [Act.put, List.setIfInBounds_toArray, List.set_cons_zero, List.set_cons_succ, i64_w, i32_w]
       rfl
      refine one_ (i := 5) (N := some 64) #[true, true, true, true, true, true] rfl rfl (by kernel_rfl) (by decide) (fun K hK => ?_)
      refine goesW_ Try.func39 (by kernel_rfl) rfl #[.slice Ay pd.length cy, .int .i64 0, .pointer (some ⟨b8, 0, none⟩), .pointer (some ⟨b7, 0, none⟩)] (by rfl) rfl rfl (by rfl) (by simp only [List.map_toArray, List.map_cons, List.map_nil]; rfl) ?_
      refine (HA.out.app2 HY.out (by have := HLL.out; omega)).mono ?_
      rintro e wB ⟨rfl, x1, hp, hk⟩
      have HB := Aside0.mk hp
      have KC := Aside0.mk (hk _ _ _ (by decide) KA.out)
      clear hp hk
      refine ⟨_, rfl, ?_⟩
      refine hK.out _ _ ⟨(blk_cell HB.out.k9 0).trans rfl, (blk_cell KC.out 0).trans rfl, (blk_cell KC.out 1).trans rfl, (blk_cell KC.out 2).trans rfl⟩ (fun hHeld => ?_)
      clear hK K
      refine norm_ (a' := ?_) ?_ ?_
      rotate_left
      ·show Act.put _ (some 64) _ = _
       simp only [Act.put, List.setIfInBounds_toArray, List.set_cons_zero, List.set_cons_succ, i64_w, i32_w]
       rfl
      refine done_ (by kernel_rfl) ?_
      have n0 := HB.out
      rw [← HLI.out, List.append_assoc, ← HNX.out] at n0
      have HPN := Aside0.mk n0
      clear n0 HP HB KB KC HA KA HY
      have hw : wrap64 (i + 1) = i + 1 := IntWalk.wrap64_in _ (by have := HQ.out.2.1.1; omega)
      have HW := Aside0.mk hw
      clear hw
      go_wp2
      have hw := HW.out
      go_roundw
      case rel => rw [hw]; exact ⟨i + 1, x1, rfl, by omega, by omega, HPN⟩
      case measure => rw [hw]; simp [intOf]; omega
     ·have hie : i = (m.f2.length : Int) := by omega
      subst hie
      have hp0 := HP.out
      rw [Int.toNat_natCast, List.take_length] at hp0
      obtain ⟨l2, hl2⟩ : ∃ l2, l1 ++ pdecs m.f2 = l2 := ⟨_, rfl⟩
      rw [hl2] at hp0
      have HL2 := Aside0.mk hl2
      have HLB2 := Aside0.mk (show l2.length ≤ 5000 by
       have h1 := hp0.mf.wi
       unfold metIn at h1
       simp only [Bool.and_eq_true, List.all_eq_true] at h1
       have h2 := pdecs_len m.f2 (fun y hy => ⟨h1.2.1 y hy, HQ.out.2.1.2 y hy⟩)
       have h3 := HQ.out.2.1.1
       have h4 := HLB1.out
       rw [← hl2, List.length_append]
       omega)
      clear HP hl2 hi hi0 hlt
      have HP := Aside0.mk hp0
      clear hp0
      have z33 : wo.cell? ⟨b3, 3, none⟩ = some (.int .i64 m.f3) := (blk_cell HP.out.k3 3).trans rfl
      have HN2 := Aside0.mk (show (0 : Int) ≤ (m.f4.length : Int) ∧ (m.f4.length : Int) < 9223372036854775808 by have := HQ.out.2.2.2.1.1; omega)
      have HV3 := Aside0.mk (vput_len10 m.f3.toNat (by have := HQ.out.2.2.1; omega))
      go_wp2_with (first | ((with_reducible refine gate_dst (N := 69) rfl ?_); refine goesV_ (some 69) rfl rfl rfl rfl Try.func40 (by kernel_rfl) rfl #[.int .i64 m.f3, .pointer (some ⟨b9, 0, none⟩)] (by simp only [List.map_toArray, List.map_cons, List.map_nil]; rfl) ?_; (have hQ := HP.out.num m.f3 HQ.out.2.2.1 (by have := HLB2.out; omega)); refine hQ.mono ?_; (rintro e wE ⟨rfl, x4, hp⟩); have HP3 := Aside0.mk hp; clear hp hQ z33; refine ⟨_, rfl, ?_⟩; have z34 : wE.cell? ⟨b3, 4, none⟩ = some (.slice At m.f4.length ct) := (blk_cell HP3.out.k3 4).trans rfl) | ((with_reducible refine gate_dst (N := 74) rfl ?_); refine goesV_ (some 74) rfl rfl rfl rfl Try.func40 (by kernel_rfl) rfl #[.int .i64 m.f4.length, .pointer (some ⟨b9, 0, none⟩)] (by simp only [List.map_toArray, List.map_cons, List.map_nil]; rfl) ?_; (have hQ := HP3.out.num (m.f4.length : Int) HN2.out (by have := HLB2.out; have := HV3.out; simp only [List.length_append]; omega)); refine hQ.mono ?_; (rintro e wG ⟨rfl, x5, hp⟩); have HP4 := Aside0.mk hp; clear hp hQ z34; refine ⟨_, rfl, ?_⟩; have z34 : wG.cell? ⟨b3, 4, none⟩ = some (.slice At m.f4.length ct) := (blk_cell HP4.out.k3 4).trans rfl))
      clear HP HP3 z34
      have hp3 := HP4.out
      rw [Int.toNat_natCast] at hp3
      obtain ⟨l3, hl3⟩ : ∃ l3, l2 ++ vput m.f3.toNat ++ vput m.f4.length = l3 := ⟨_, rfl⟩
      rw [hl3] at hp3
      have HL3 := Aside0.mk hl3
      have HLB3 := Aside0.mk (show l3.length ≤ 6000 by rw [← hl3]; have h1 := HLB2.out; have h2 := vput_len10 m.f4.length (by have := HQ.out.2.2.2.1.1; omega); have h3 := HV3.out; simp only [List.length_append]; omega)
      clear HP4 hl3
      have HP := Aside0.mk hp3
      clear hp3
      go_loopw [78] (fun v78 wr => ∃ (i : Int) (v x : Value), v78 = .int .i64 i ∧ 0 ≤ i ∧ i ≤ (m.f4.length : Int) ∧ Aside0 (PS okm d b3 b7 b8 b9 m Av cv At ct v (ptags ws1 (m.f4.take i.toNat)).2 x (l3 ++ (ptags ws1 (m.f4.take i.toNat)).1) w wr)) (fun v78 _ => m.f4.length - (intOf v78).toNat)
      case atStart => exact ⟨0, v1, x5, rfl, by omega, by omega, ⟨by simpa [ptags] using HP.out⟩⟩
      case round =>
       clear HP
       obtain ⟨i, v, x, rfl, hi0, hi, HP⟩ := hrel
       obtain ⟨wo, rfl⟩ : ∃ wo : World, wo = wr := ⟨_, rfl⟩
       by_cases hlt : i < (m.f4.length : Int)
       ·obtain ⟨ad, e, c0, c1⟩ := at_T81 HP.out.mf.metC.t i hi0 hlt
        subst e
        have hin : i.toNat < m.f4.length := by omega
        obtain ⟨tg, htg⟩ : ∃ tg, rd_T81 m.f4 i = tg := ⟨_, rfl⟩
        rw [htg] at c0 c1
        have htg2 : m.f4[i.toNat] = tg := by
         rw [← htg]
         unfold rd_T81
         rw [List.getD_eq_getElem?_getD, List.getElem?_eq_getElem hin]
         rfl
        have hmem : tg ∈ m.f4 := by rw [← htg2]; exact List.getElem_mem hin
        obtain ⟨⟨s1, s2, _⟩, s3, _⟩ := tagBad_ok (HQ.out.2.2.2.1.2 tg hmem)
        have hsn := ptags_snoc tg ws1 (m.f4.take i.toNat)
        rw [← htg2, ← List.take_succ_eq_append_getElem hin, htg2] at hsn
        have hbd := ptags_bd (m.f4.take i.toNat) ws1 (by have h1 := HQ.out.2.2.2.1.1; have h2 := HG1.out; rw [List.length_take]; omega)
        obtain ⟨⟨lt, wsi⟩, hpt⟩ : ∃ p, ptags ws1 (m.f4.take i.toNat) = p := ⟨_, rfl⟩
        rw [hpt] at hsn HP hbd
        obtain ⟨q1, hq1⟩ : ∃ q1, (dput wsi tg.f0).1 = q1 := ⟨_, rfl⟩
        obtain ⟨wsj, hwsj⟩ : ∃ wsj, (dput wsi tg.f0).2.2 = wsj := ⟨_, rfl⟩
        obtain ⟨q2, hq2⟩ : ∃ q2, (dput wsj tg.f1).1 = q2 := ⟨_, rfl⟩
        obtain ⟨wsk, hwsk⟩ : ∃ wsk, (dput wsj tg.f1).2.2 = wsk := ⟨_, rfl⟩
        obtain ⟨li, hli⟩ : ∃ li, l3 ++ lt = li := ⟨_, rfl⟩
        simp only at hsn HP hbd
        rw [hq1, hwsj, hq2, hwsk] at hsn
        rw [hli] at HP
        have HSN := Aside0.mk (show ptags ws1 (m.f4.take (i + 1).toNat) = (lt ++ q1 ++ q2, wsk) by rw [show (i + 1).toNat = i.toNat + 1 by omega]; exact hsn)
        have hwi : wsi.length + 2 ≤ 65536 ∧ lt.length ≤ 20000 := by
         have h1 := HQ.out.2.2.2.1.1
         have h2 := HG1.out
         rw [List.length_take] at hbd
         omega
        have hg1 : wsj.length ≤ wsi.length + 1 := by rw [← hwsj]; exact dput_grow _ _
        have HLI := Aside0.mk hli
        have HLL := Aside0.mk (show li.length ≤ 40000 ∧ q1.length ≤ 220 ∧ q2.length ≤ 220 from ⟨by rw [← hli, List.length_append]; have := HLB3.out; omega, by rw [← hq1]; exact dput_len1 _ _ (by omega), by rw [← hq2]; exact dput_len1 _ _ (by omega)⟩)
        have HWS := Aside0.mk (show wsi.length < 65536 ∧ wsj.length < 65536 ∧ tg.f0.size ≤ 200 ∧ tg.f1.size ≤ 200 from ⟨by omega, by omega, by omega, by omega⟩)
        have HQ1 := Aside0.mk hq1
        have HQ2 := Aside0.mk hq2
        have HWJ := Aside0.mk hwsj
        have HWK := Aside0.mk hwsk
        have HIN := Aside0.mk hlt
        clear hli htg htg2 hmem hin hsn hbd hpt hq1 hwsj hq2 hwsk hwi hg1 s1 s2 s3
        go_wp2
        have hal : Below wo.heap.size wo (wo.alloc (.cells #[.string tg.f0, .string tg.f1] 81)) := below_alloc (Below.refl _ _) _
        have hbox := blk_new wo (.cells #[.string tg.f0, .string tg.f1] 81)
        generalize hwt : wo.alloc (.cells #[.string tg.f0, .string tg.f1] 81) = wt at hal hbox ⊢
        obtain ⟨b14, hb14⟩ : ∃ b14, wo.heap.size = b14 := ⟨_, rfl⟩
        rw [hb14] at hbox ⊢
        have KB := Aside0.mk hbox
        have n0 := Aside0.mk (HP.out.below hal)
        clear HP hal hbox hb14 hwt c0 c1
        have HP := n0
        clear n0
        have HPUT := Aside0.mk (HP.out.drew.put0 HWS.out.2.2.1 HWS.out.1 HQ1.out HWJ.out)
        refine start_ (n := 8) (S := fun w' => w'.cell? ⟨b9, 0, none⟩ = some (.func (.func 39) #[] #[.pointer (some ⟨b8, 0, none⟩), .pointer (some ⟨b7, 0, none⟩)]) ∧ w'.cell? ⟨b14, 0, none⟩ = some (.string tg.f0)) (ds := []) #[false, false, false, false, false, false, false, false] (by kernel_rfl) rfl rfl ⟨(blk_cell HP.out.drew.k9 0).trans rfl, (blk_cell (blk_drew KB.out) 0).trans rfl⟩ (fun hHeld => ?_)
        refine pure_ (i := 1) (N := some 83) (v := ?_) (a' := ?_) #[false, true, false, false, false, false, false, false] rfl rfl (by kernel_rfl) (fun _ _ _ h => h) (Or.inl ⟨by rfl, ?_⟩) ?_ ?_
        rotate_left
        ·intro w'
         go_simp
         with_reducible rfl
        rotate_left
        ·simp only [Act.put, List.setIfInBounds_toArray, List.set_cons_zero, List.set_cons_succ, i64_w, i32_w]
         rfl
        refine pure_ (i := 2) (N := some 84) (v := ?_) (a' := ?_) #[false, true, true, false, false, false, false, false] rfl rfl (by kernel_rfl) (fun _ _ _ h => h) (Or.inl ⟨by rfl, ?_⟩) ?_ ?_
        rotate_left
        ·intro w'
         go_simp
         with_reducible rfl
        rotate_left
        ·simp only [Act.put, List.setIfInBounds_toArray, List.set_cons_zero, List.set_cons_succ, i64_w, i32_w]
         rfl
        refine take_ (i := 0) (N := some 82) (v := ?_) (a' := ?_) #[true, true, true, false, false, false, false, false] rfl rfl (by kernel_rfl) (fun _ _ _ h => h) (Or.inl ⟨by rfl, ?_⟩) hHeld ?_ ?_
        rotate_left
        ·rintro w' ⟨s0, s1⟩
         go_simp
         with_reducible rfl
        rotate_left
        ·simp only [Act.put, List.setIfInBounds_toArray, List.set_cons_zero, List.set_cons_succ, i64_w, i32_w]
         rfl
        refine take_ (i := 3) (N := some 85) (v := ?_) (a' := ?_) #[true, true, true, true, false, false, false, false] rfl rfl (by kernel_rfl) (fun _ _ _ h => h) (Or.inl ⟨by rfl, ?_⟩) hHeld ?_ ?_
        rotate_left
        ·rintro w' ⟨s0, s1⟩
         go_simp
         with_reducible rfl
        rotate_left
        ·simp only [Act.put, List.setIfInBounds_toArray, List.set_cons_zero, List.set_cons_succ, i64_w, i32_w]
         rfl
        refine one_ (i := 4) (N := some 86) #[true, true, true, true, true, false, false, false] rfl rfl (by kernel_rfl) (by decide) (fun K hK => ?_)
        refine goes_ Try.func35 (by kernel_rfl) rfl #[.pointer (some ⟨d.g, 0, none⟩), .string tg.f0] (by rfl) rfl rfl (by first | (simp only [List.map_toArray, List.map_cons, List.map_nil]; done) | (simp only [List.map_toArray, List.map_cons, List.map_nil]; rfl) | simp) ?_
        with_reducible refine (HPUT.out).mono ?_
        rintro e wA ⟨Ay, cy, vj, rfl, hy, hp, hk⟩
        have HA := Aside0.mk hp
        have HY := Aside0.mk hy
        have KA := Aside0.mk (hk _ _ _ (by decide) (blk_drew KB.out))
        clear hp hy hk
        refine ⟨_, rfl, ?_⟩
        refine hK.out _ _ ⟨(blk_cell HA.out.k9 0).trans rfl, (blk_cell KA.out 0).trans rfl⟩ (fun hHeld => ?_)
        clear hK K
        refine norm_ (a' := ?_) ?_ ?_
        rotate_left
        ·show Act.put _ (some 86) _ = _
         simp only [Act.put, List.setIfInBounds_toArray, List.set_cons_zero, List.set_cons_succ, i64_w, i32_w]
         rfl
        refine pure_ (i := 5) (N := some 87) (v := ?_) (a' := ?_) #[true, true, true, true, true, true, false, false] rfl rfl (by kernel_rfl) (fun _ _ _ h => h) (Or.inl ⟨by rfl, ?_⟩) ?_ ?_
        rotate_left
        ·intro w'
         go_simp
         with_reducible rfl
        rotate_left
        ·simp only [Act.put, List.setIfInBounds_toArray, List.set_cons_zero, List.set_cons_succ, i64_w, i32_w]
         rfl
        refine pure_ (i := 6) (N := some 88) (v := ?_) (a' := ?_) #[true, true, true, true, true, true, true, false] rfl rfl (by kernel_rfl) (fun _ _ _ h => h) (Or.inl ⟨by rfl, ?_⟩) ?_ ?_
        rotate_left
        ·intro w'
         go_simp
         with_reducible rfl
        rotate_left
        ·simp only [Act.put, List.setIfInBounds_toArray, List.set_cons_zero, List.set_cons_succ, i64_w, i32_w]
         rfl
        refine one_ (i := 7) (N := some 89) #[true, true, true, true, true, true, true, true] rfl rfl (by kernel_rfl) (by decide) (fun K hK => ?_)
        refine goesW_ Try.func39 (by kernel_rfl) rfl #[.slice Ay q1.length cy, .int .i64 0, .pointer (some ⟨b8, 0, none⟩), .pointer (some ⟨b7, 0, none⟩)] (by rfl) rfl rfl (by rfl) (by simp only [List.map_toArray, List.map_cons, List.map_nil]; rfl) ?_
        refine (HA.out.app2 HY.out (by have := HLL.out; omega)).mono ?_
        rintro e wB ⟨rfl, x6, hp, hk⟩
        have HB := Aside0.mk hp
        have KC := Aside0.mk (hk _ _ _ (by decide) KA.out)
        clear hp hk
        refine ⟨_, rfl, ?_⟩
        refine hK.out _ _ ⟨(blk_cell HB.out.k9 0).trans rfl, (blk_cell KC.out 0).trans rfl⟩ (fun hHeld => ?_)
        clear hK K
        refine norm_ (a' := ?_) ?_ ?_
        rotate_left
        ·show Act.put _ (some 89) _ = _
         simp only [Act.put, List.setIfInBounds_toArray, List.set_cons_zero, List.set_cons_succ, i64_w, i32_w]
         rfl
        refine done_ (by kernel_rfl) ?_
        clear HP HPUT HA HY KA KB
        have HP := HB
        have KB := KC
        clear HB KC
        obtain ⟨wu, rfl⟩ : ∃ wu : World, wu = wB := ⟨_, rfl⟩
        have HPUT := Aside0.mk (HP.out.drew.put0 HWS.out.2.2.2 HWS.out.2.1 HQ2.out HWK.out)
        go_wp2
        refine start_ (n := 8) (S := fun w' => w'.cell? ⟨b9, 0, none⟩ = some (.func (.func 39) #[] #[.pointer (some ⟨b8, 0, none⟩), .pointer (some ⟨b7, 0, none⟩)]) ∧ w'.cell? ⟨b14, 1, none⟩ = some (.string tg.f1)) (ds := []) #[false, false, false, false, false, false, false, false] (by kernel_rfl) rfl rfl ⟨(blk_cell HP.out.drew.k9 0).trans rfl, (blk_cell (blk_drew KB.out) 1).trans rfl⟩ (fun hHeld => ?_)
        refine pure_ (i := 1) (N := some 91) (v := ?_) (a' := ?_) #[false, true, false, false, false, false, false, false] rfl rfl (by kernel_rfl) (fun _ _ _ h => h) (Or.inl ⟨by rfl, ?_⟩) ?_ ?_
        rotate_left
        ·intro w'
         go_simp
         with_reducible rfl
        rotate_left
        ·simp only [Act.put, List.setIfInBounds_toArray, List.set_cons_zero, List.set_cons_succ, i64_w, i32_w]
         rfl
        refine pure_ (i := 2) (N := some 92) (v := ?_) (a' := ?_) #[false, true, true, false, false, false, false, false] rfl rfl (by kernel_rfl) (fun _ _ _ h => h) (Or.inl ⟨by rfl, ?_⟩) ?_ ?_
        rotate_left
        ·intro w'
         go_simp
         with_reducible rfl
        rotate_left
        ·simp only [Act.put, List.setIfInBounds_toArray, List.set_cons_zero, List.set_cons_succ, i64_w, i32_w]
         rfl
        refine take_ (i := 0) (N := some 90) (v := ?_) (a' := ?_) #[true, true, true, false, false, false, false, false] rfl rfl (by kernel_rfl) (fun _ _ _ h => h) (Or.inl ⟨by rfl, ?_⟩) hHeld ?_ ?_
        rotate_left
        ·rintro w' ⟨s0, s1⟩
         go_simp
         with_reducible rfl
        rotate_left
        ·simp only [Act.put, List.setIfInBounds_toArray, List.set_cons_zero, List.set_cons_succ, i64_w, i32_w]
         rfl
        refine take_ (i := 3) (N := some 93) (v := ?_) (a' := ?_) #[true, true, true, true, false, false, false, false] rfl rfl (by kernel_rfl) (fun _ _ _ h => h) (Or.inl ⟨by rfl, ?_⟩) hHeld ?_ ?_
        rotate_left
        ·rintro w' ⟨s0, s1⟩
         go_simp
         with_reducible rfl
        rotate_left
        ·simp only [Act.put, List.setIfInBounds_toArray, List.set_cons_zero, List.set_cons_succ, i64_w, i32_w]
         rfl
        refine one_ (i := 4) (N := some 94) #[true, true, true, true, true, false, false, false] rfl rfl (by kernel_rfl) (by decide) (fun K hK => ?_)
        refine goes_ Try.func35 (by kernel_rfl) rfl #[.pointer (some ⟨d.g, 0, none⟩), .string tg.f1] (by rfl) rfl rfl (by first | (simp only [List.map_toArray, List.map_cons, List.map_nil]; done) | (simp only [List.map_toArray, List.map_cons, List.map_nil]; rfl) | simp) ?_
        with_reducible refine (HPUT.out).mono ?_
        rintro e wA ⟨Az, cz, vk, rfl, hy, hp, hk⟩
        have HA := Aside0.mk hp
        have HY := Aside0.mk hy
        have KA := Aside0.mk (hk _ _ _ (by decide) (blk_drew KB.out))
        clear hp hy hk
        refine ⟨_, rfl, ?_⟩
        refine hK.out _ _ ⟨(blk_cell HA.out.k9 0).trans rfl, (blk_cell KA.out 1).trans rfl⟩ (fun hHeld => ?_)
        clear hK K
        refine norm_ (a' := ?_) ?_ ?_
        rotate_left
        ·show Act.put _ (some 94) _ = _
         simp only [Act.put, List.setIfInBounds_toArray, List.set_cons_zero, List.set_cons_succ, i64_w, i32_w]
         rfl
        refine pure_ (i := 5) (N := some 95) (v := ?_) (a' := ?_) #[true, true, true, true, true, true, false, false] rfl rfl (by kernel_rfl) (fun _ _ _ h => h) (Or.inl ⟨by rfl, ?_⟩) ?_ ?_
        rotate_left
        ·intro w'
         go_simp
         with_reducible rfl
        rotate_left
        ·simp only [Act.put, List.setIfInBounds_toArray, List.set_cons_zero, List.set_cons_succ, i64_w, i32_w]
         rfl
        refine pure_ (i := 6) (N := some 96) (v := ?_) (a' := ?_) #[true, true, true, true, true, true, true, false] rfl rfl (by kernel_rfl) (fun _ _ _ h => h) (Or.inl ⟨by rfl, ?_⟩) ?_ ?_
        rotate_left
        ·intro w'
         go_simp
         with_reducible rfl
        rotate_left
        ·simp only [Act.put, List.setIfInBounds_toArray, List.set_cons_zero, List.set_cons_succ, i64_w, i32_w]
         rfl
        refine one_ (i := 7) (N := some 97) #[true, true, true, true, true, true, true, true] rfl rfl (by kernel_rfl) (by decide) (fun K hK => ?_)
        refine goesW_ Try.func39 (by kernel_rfl) rfl #[.slice Az q2.length cz, .int .i64 0, .pointer (some ⟨b8, 0, none⟩), .pointer (some ⟨b7, 0, none⟩)] (by rfl) rfl rfl (by rfl) (by simp only [List.map_toArray, List.map_cons, List.map_nil]; rfl) ?_
        refine (HA.out.app2 HY.out (by have := HLL.out; simp only [List.length_append]; omega)).mono ?_
        rintro e wB ⟨rfl, x7, hp, hk⟩
        have HB := Aside0.mk hp
        have KC := Aside0.mk (hk _ _ _ (by decide) KA.out)
        clear hp hk
        refine ⟨_, rfl, ?_⟩
        refine hK.out _ _ ⟨(blk_cell HB.out.k9 0).trans rfl, (blk_cell KC.out 1).trans rfl⟩ (fun hHeld => ?_)
        clear hK K
        refine norm_ (a' := ?_) ?_ ?_
        rotate_left
        ·show Act.put _ (some 97) _ = _
         simp only [Act.put, List.setIfInBounds_toArray, List.set_cons_zero, List.set_cons_succ, i64_w, i32_w]
         rfl
        refine done_ (by kernel_rfl) ?_
        have n0 := HB.out
        rw [← HLI.out] at n0
        have HPN : Aside0 (PS okm d b3 b7 b8 b9 m Av cv (some ad) ct vk (ptags ws1 (m.f4.take (i + 1).toNat)).2 x7 (l3 ++ (ptags ws1 (m.f4.take (i + 1).toNat)).1) w wB) := ⟨by rw [HSN.out]; simp only [List.append_assoc] at n0 ⊢; exact n0⟩
        clear n0 HP HB KB KC HA KA HY HPUT
        have HW := Aside0.mk (show wrap64 (i + 1) = i + 1 from IntWalk.wrap64_in _ (by have := HQ.out.2.2.2.1.1; omega))
        go_wp2
        have hw := HW.out
        go_roundw
        case rel => rw [hw]; exact ⟨i + 1, vk, x7, rfl, by omega, by have := HIN.out; omega, HPN⟩
        case measure => rw [hw]; have := HIN.out; simp [intOf]; omega
       ·have hie : i = (m.f4.length : Int) := by omega
        subst hie
        have hp0 := HP.out
        rw [Int.toNat_natCast, List.take_length] at hp0
        have HLB4 := Aside0.mk (show (l3 ++ (ptags ws1 m.f4).1).length ≤ 40000 by
         have h1 := HQ.out.2.2.2.1.1
         have h2 := HG1.out
         have h3 := HLB3.out
         have h4 := ptags_bd m.f4 ws1 (by omega)
         rw [List.length_append]
         omega)
        clear HP hi hi0 hlt
        have HP := Aside0.mk hp0
        clear hp0
        obtain ⟨wu, rfl⟩ : ∃ wu : World, wu = wo := ⟨_, rfl⟩
        have z35 : wu.cell? ⟨b3, 5, none⟩ = some (.int .i64 m.f5) := (blk_cell HP.out.k3 5).trans rfl
        go_wp2_with (first | ((with_reducible refine gate_dst (N := 102) rfl ?_); refine goesV_ (some 102) rfl rfl rfl rfl Try.func40 (by kernel_rfl) rfl #[.int .i64 m.f5, .pointer (some ⟨b9, 0, none⟩)] (by simp only [List.map_toArray, List.map_cons, List.map_nil]; rfl) ?_; (have hQ := HP.out.num m.f5 HQ.out.2.2.2.2 (by have := HLB4.out; omega)); refine hQ.mono ?_; (rintro e wE ⟨rfl, x8, hp⟩); have HP5 := Aside0.mk hp; clear hp hQ z35; refine ⟨_, rfl, ?_⟩; have z8 : wE.cell? ⟨b8, 0, none⟩ = some (.int .i64 0) := (blk_cell HP5.out.k8 0).trans rfl; have z7 : wE.cell? ⟨b7, 0, none⟩ = some x8 := (blk_cell HP5.out.k7 0).trans rfl))
        go_ret2
        refine ⟨x8, ?_, ?_, ?_⟩
        ·rw [HPC.out]
         rfl
        ·rw [if_pos HPC.out]
         unfold pmet
         rw [HP0.out, HWS1.out]
         have h := HP5.out.r
         rw [← HL3.out, ← HL2.out, ← HL1.out] at h
         simp only [List.append_assoc] at h ⊢
         exact h
        ·rw [if_pos HPC.out]
         unfold pmet
         rw [HWS1.out]
         exact ⟨_, HP5.out.dic, HP5.out.chg, HP5.out.nx⟩
 ·have hbn : (bd == 0) = false := by simpa using h0
  have hbn2 : (bd != 0) = true := by simpa using h0
  go_wp2
  go_ret2
  refine PPost.no HD0.out HB.out ?_ h0
  unfold pcode
  rw [if_neg (by rw [HBD.out]; exact h0), HBD.out]
end Go.Proofs.Ytclbmdblalgdjaa
