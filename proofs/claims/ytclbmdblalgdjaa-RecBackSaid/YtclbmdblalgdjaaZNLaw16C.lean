/- RecBack: what is put is taken as it was, to its last byte: its walk; for all words, every metric and every bytes, no condition. -/
import Derived.Test.YtclbmdblalgdjaaZNRecO
import Derived.Test.YtclbmdblalgdjaaZNInjV
import Derived.Test.YtclbmdblalgdjaaZNRNormM
import Derived.Test.YtclbmdblalgdjaaRows
import Derived.Test.YtclbmdblalgdjaaZNPEx10
namespace Go.Proofs.Ytclbmdblalgdjaa
open Go.RowKit Go.Proofs.YtclbmdblalgdjaaW.PrintWords Go.Proofs.YtclbmdblalgdjaaW.PrintLast Go.Proofs.YtclbmdblalgdjaaW.PrintMore Go.Proofs.Ytclbmdblalgdjaa.PE
set_option linter.unusedVariables false
set_option linter.unusedSimpArgs false
attribute [local go_sem high] eqFault
theorem heapT16 : Kd.Heap k81 := Kd.heap_iso _ (Kd.heap_pair Kd.heap_string Kd.heap_string)
theorem heapD16 : Kd.Heap k48 := Kd.heap_iso _ (Kd.heap_pair Kd.heap_bool (Kd.heap_pair (Kd.heap_int _) (Kd.heap_int _)))
theorem metF_in {m : MetS} {Av At : Option Addr} {cv ct : Nat} {w : World} (h : MetC m Av cv At ct w) (hi : metIn m = true) : MetF (fun k => k < w.heap.size) m Av cv At ct w := ⟨Kd.C_F heapD16 h.v, h.vc, Kd.C_F heapT16 h.t, h.tc, hi⟩
theorem ptags_bytes : ∀ (l : List TagS) (ws : List ByteArray), ∀ x ∈ (ptags ws l).1, 0 ≤ x ∧ x < 256
 | [], ws, x, hx => by cases hx
 | t :: l, ws, x, hx => by
  unfold ptags at hx
  simp only [List.mem_append] at hx
  rcases hx with (hx | hx) | hx
  ·exact dput_bytes _ _ x hx
  ·exact dput_bytes _ _ x hx
  ·exact ptags_bytes l _ x hx
theorem pmet_bytes {ws : List ByteArray} {m : MetS} (h : metBad m = 0) : ∀ x ∈ (pmet ws m).1, 0 ≤ x ∧ x < 256 := by
 intro x hx
 obtain ⟨_, k, _⟩ := metParts h
 unfold pmet at hx
 simp only [List.mem_append, List.mem_singleton] at hx
 rcases hx with ((((((hx | hx) | hx) | hx) | hx) | hx) | hx) | hx
 ·exact dput_bytes _ _ x hx
 ·omega
 ·exact vput_bytes _ x hx
 ·unfold pdecs at hx
  obtain ⟨d, _, hd⟩ := List.mem_flatMap.1 hx
  unfold pdec at hd
  rcases List.mem_append.1 hd with hd | hd
  ·exact vput_bytes _ x hd
  ·exact vput_bytes _ x hd
 ·exact vput_bytes _ x hx
 ·exact vput_bytes _ x hx
 ·exact ptags_bytes _ _ x hx
 ·exact vput_bytes _ x hx
theorem pmet_len {ws : List ByteArray} {m : MetS} (h : metBad m = 0) (hi : metIn m = true) (hl : ws.length ≤ 40) : (pmet ws m).1.length ≤ 40000 := by
 obtain ⟨_, k, ⟨a, a2⟩, ⟨r, _⟩, ⟨t, _⟩, u⟩ := metParts h
 unfold metIn at hi
 simp only [Bool.and_eq_true, List.all_eq_true] at hi
 have l1 := dput_len1 ws m.f0 (by omega)
 have l2 := vput_len10 m.f2.length (by omega)
 have l3 := pdecs_len m.f2 (fun x hx => ⟨hi.2.1 x hx, a2 x hx⟩)
 have l4 := vput_len10 m.f3.toNat (by omega)
 have l5 := vput_len10 m.f4.length (by omega)
 have g := dput_grow ws m.f0
 have l6 := (ptags_bd m.f4 (dput ws m.f0).2.2 (by omega)).2
 have l7 := vput_len10 m.f5.toNat (by omega)
 unfold pmet
 simp only [List.length_append, List.length_cons, List.length_nil]
 omega
theorem RO.get2 {ok : Nat → Prop} {gc : Nat} {d1 d2 : Dic} {s s' : Cu} {w W : World} {m : MetS} {ws' : List ByteArray} (h : RO ok gc d1 d2 s w W) (hs : s.sane) (hr : gmet d1.ws s = (m, s', ws')) :
  Calls Try.prog 27 #[.pointer (some ⟨d1.g, 0, none⟩), .pointer (some ⟨gc, 0, none⟩)] W fun e W' => ∃ A2 c2 A4 c4 v', e = .returned (.agg #[.string m.f0, .int .i64 m.f1, .slice A2 m.f2.length c2, .int .i64 m.f3, .slice A4 m.f4.length c4, .int .i64 m.f5]) ∧ (k48).R 48 W' W.heap.size (fun _ => True) (.slice A2 m.f2.length c2) m.f2 ∧ (k81).R 81 W' W.heap.size (fun _ => True) (.slice A4 m.f4.length c4) m.f4 ∧ RO ok gc ⟨d1.g, d1.gm, v', ws'⟩ d2 s' w W' ∧ Chg (fun k => k = gc ∨ d1.F k) W W' := by
 have hc := recget_calls d1 gc s W (RX.start h.cur h.da h.a1 (fun k hk => (h.okr k hk).2)) hs
 rw [hr] at hc
 refine hc.mono ?_
 rintro e W' ⟨x2, x4, rfl, hR2, hR4, hcu, v', hd, hg, hn⟩
 obtain ⟨A2, c2, rfl, _⟩ := Kd.R_reads hR2
 obtain ⟨A4, c4, rfl, _⟩ := Kd.R_reads hR4
 have hF : ∀ k, (⟨d1.g, d1.gm, v', ws'⟩ : Dic).F k → d1.F k ∨ W.heap.size ≤ k := DTurn.next hn
 have h0 := (h.okr gc h.cur.okg).1
 have hsz := h.bel.size
 refine ⟨A2, c2, A4, c4, v', rfl, hR2, hR4, ⟨hcu, hd, h.db.step hg ?_, ?_, ?_, h.a2, ?_, h.f2, fun k hk => ⟨(h.okr k hk).1, Nat.lt_of_lt_of_le (h.okr k hk).2 hg.size⟩, Below.trans h.bel (hg.to_below ?_ hsz)⟩, hg⟩
 ·rintro k hk (e | e)
  ·exact h.a2 gc h.cur.okg (by rw [← show k = gc from e]; exact hk)
  ·exact h.ap k e hk
 ·intro k hk h2
  rcases hF k hk with e | e
  ·exact h.ap k e h2
  ·have := h.db.lt k h2
   omega
 ·intro k hk h1
  rcases hF k h1 with e | e
  ·exact h.a1 k hk e
  ·have := (h.okr k hk).2
   omega
 ·intro k hk
  rcases hF k hk with e | e
  ·exact h.f1 k e
  ·omega
 ·rintro k (e | e)
  ·rw [show k = gc from e]; exact h0
  ·exact h.f1 k e
set_option maxHeartbeats 16000000 in
set_option maxRecDepth 100000 in
theorem recBack_walk (A0 : Option Addr) (c0 : Nat) (l : List ByteArray) (m : MetS) (Av : Option Addr) (cv : Nat) (At : Option Addr) (ct : Nat) (A1 : Option Addr) (c1 : Nat) (b : List Int) (w : World)
  (hC0 : Kd.string.C w A0 l.length l) (hwf0 : ∀ x ∈ l, x.size ≤ 9223372036854775807) (hsz0 : l.length * 16 ≤ 140737488351232) (hcap0 : l.length ≤ c0)
  (hmc : MetC m Av cv At ct w) (hmi : metIn m = true)
  (hC1 : (Kd.int .u8).C w A1 b.length b) (hwf1 : ∀ x ∈ b, (Lit.int .u8 x).wf = true) (hsz1 : b.length * 1 ≤ 140737488351232) (hcap1 : b.length ≤ c1) :
  Calls Try.prog 5 #[.slice A0 l.length c0, .agg #[.string m.f0, .int .i64 m.f1, .slice Av m.f2.length cv, .int .i64 m.f3, .slice At m.f4.length ct, .int .i64 m.f5], .slice A1 b.length c1] w fun e w' => e = .returned (.bool true) ∧ Below w.heap.size w w' := by
 have HCW := Aside0.mk hC0
 have HC1 := Aside0.mk hC1
 have HLB := Aside0.mk (bytes_of_wf hwf1)
 have HMF := Aside0.mk (metF_in hmc hmi)
 have HMI := Aside0.mk hmi
 obtain ⟨fb, hfe, hfl⟩ := few16_all l
 have HFE := Aside0.mk (fun (W : World) (hW : Kd.string.C W A0 l.length l) => hfe A0 c0 W hW hcap0)
 have HCAP0 := Aside0.mk hcap0
 obtain ⟨fm, hfm, hml⟩ := few_ev m
 obtain ⟨kf, hkf⟩ := Ev.rounds hfm
 have HFM := Aside0.mk (fun (W : World) (hW : MetC m Av cv At ct W) => forebaylaw07_Few.calls kf m.f0 m.f1 Av cv m.f2 m.f3 At ct m.f4 m.f5 fm W hW.v hW.vc hW.t hW.tc hkf)
 have HB := Aside0.mk (Below.refl w.heap.size w)
 clear hC0 hwf0 hsz0 hC1 hwf1 hcap0 hmc hmi hfm hkf hfe
 cases fb with
 | false =>
  clear hfl hml HFM
  go_enter Try.func5, Try.ntmps5
  go_wp2_with (first | ((with_reducible refine gate_dst (N := 4) rfl ?_); refine box_event ?hg (N := 4) ?hd (cs := #[.string m.f0, .int .i64 m.f1, .slice Av m.f2.length cv, .int .i64 m.f3, .slice At m.f4.length ct, .int .i64 m.f5]) (t := 26) ?hr ?_; (case hd => rfl); (case hg => rfl); (case hr => first | (go_simp; done) | (go_simp; rfl)); intro b4 hgb4 w1 hbox hb; have GEb4 := Aside0.mk ((by rw [hgb4]; exact below_size HB.out) : w.heap.size ≤ b4); have n0 := Aside0.mk (below_step HB.out hb); clear HB; have HB := n0; clear n0; have BK4 := Aside0.mk hbox; clear hgb4 hbox hb; (try clear zBK4_0); have zBK4_0 : w1.cell? ⟨b4, 0, none⟩ = some (.string m.f0) := (blk_cell BK4.out 0).trans rfl; (try clear zBK4_1); have zBK4_1 : w1.cell? ⟨b4, 1, none⟩ = some (.int .i64 m.f1) := (blk_cell BK4.out 1).trans rfl; (try clear zBK4_2); have zBK4_2 : w1.cell? ⟨b4, 2, none⟩ = some (.slice Av m.f2.length cv) := (blk_cell BK4.out 2).trans rfl; (try clear zBK4_3); have zBK4_3 : w1.cell? ⟨b4, 3, none⟩ = some (.int .i64 m.f3) := (blk_cell BK4.out 3).trans rfl; (try clear zBK4_4); have zBK4_4 : w1.cell? ⟨b4, 4, none⟩ = some (.slice At m.f4.length ct) := (blk_cell BK4.out 4).trans rfl; (try clear zBK4_5); have zBK4_5 : w1.cell? ⟨b4, 5, none⟩ = some (.int .i64 m.f5) := (blk_cell BK4.out 5).trans rfl))
  refine (HFE.out w1 (Kd.C_below HCW.out HB.out)).mono ?_
  rintro e w2 ⟨rfl, hd⟩
  have n0 := Aside0.mk (below_step HB.out hd.below)
  clear HB hd BK4 zBK4_0 zBK4_1 zBK4_2 zBK4_3 zBK4_4 zBK4_5
  go_wp2_with fail
  refine (awake16_calls w2).mono ?_
  rintro e w3 ⟨rfl, hb⟩
  have n1 := Aside0.mk (below_step n0.out hb)
  clear n0 hb
  go_wp2
  go_ret
  exact ⟨rfl, n1.out⟩
 | true =>
  obtain ⟨hl40, hs250⟩ := hfl rfl
  have HSZ := Aside0.mk hs250
  clear hfl hs250
  go_enter Try.func5, Try.ntmps5
  go_wp2_with (first | ((with_reducible refine gate_dst (N := 4) rfl ?_); refine box_event ?hg (N := 4) ?hd (cs := #[.string m.f0, .int .i64 m.f1, .slice Av m.f2.length cv, .int .i64 m.f3, .slice At m.f4.length ct, .int .i64 m.f5]) (t := 26) ?hr ?_; (case hd => rfl); (case hg => rfl); (case hr => first | (go_simp; done) | (go_simp; rfl)); intro b4 hgb4 w1 hbox hb; have GEb4 := Aside0.mk ((by rw [hgb4]; exact below_size HB.out) : w.heap.size ≤ b4); have n0 := Aside0.mk (below_step HB.out hb); clear HB; have HB := n0; clear n0; have BK4 := Aside0.mk hbox; clear hgb4 hbox hb; (try clear zBK4_0); have zBK4_0 : w1.cell? ⟨b4, 0, none⟩ = some (.string m.f0) := (blk_cell BK4.out 0).trans rfl; (try clear zBK4_1); have zBK4_1 : w1.cell? ⟨b4, 1, none⟩ = some (.int .i64 m.f1) := (blk_cell BK4.out 1).trans rfl; (try clear zBK4_2); have zBK4_2 : w1.cell? ⟨b4, 2, none⟩ = some (.slice Av m.f2.length cv) := (blk_cell BK4.out 2).trans rfl; (try clear zBK4_3); have zBK4_3 : w1.cell? ⟨b4, 3, none⟩ = some (.int .i64 m.f3) := (blk_cell BK4.out 3).trans rfl; (try clear zBK4_4); have zBK4_4 : w1.cell? ⟨b4, 4, none⟩ = some (.slice At m.f4.length ct) := (blk_cell BK4.out 4).trans rfl; (try clear zBK4_5); have zBK4_5 : w1.cell? ⟨b4, 5, none⟩ = some (.int .i64 m.f5) := (blk_cell BK4.out 5).trans rfl))
  refine (HFE.out w1 (Kd.C_below HCW.out HB.out)).mono ?_
  rintro e w2 ⟨rfl, hd⟩
  have n0 := Aside0.mk (below_step HB.out hd.below)
  have n1 := Aside0.mk (blk_below BK4.out hd.below)
  clear HB hd BK4 zBK4_0 zBK4_1 zBK4_2 zBK4_3 zBK4_4 zBK4_5
  have HB := n0
  have BK := n1
  clear n0 n1
  have z0 : w2.cell? ⟨b4, 0, none⟩ = some (.string m.f0) := (blk_cell BK.out 0).trans rfl
  have z1 : w2.cell? ⟨b4, 1, none⟩ = some (.int .i64 m.f1) := (blk_cell BK.out 1).trans rfl
  have z2 : w2.cell? ⟨b4, 2, none⟩ = some (.slice Av m.f2.length cv) := (blk_cell BK.out 2).trans rfl
  have z3 : w2.cell? ⟨b4, 3, none⟩ = some (.int .i64 m.f3) := (blk_cell BK.out 3).trans rfl
  have z4 : w2.cell? ⟨b4, 4, none⟩ = some (.slice At m.f4.length ct) := (blk_cell BK.out 4).trans rfl
  have z5 : w2.cell? ⟨b4, 5, none⟩ = some (.int .i64 m.f5) := (blk_cell BK.out 5).trans rfl
  have hmc2 := (HMF.out.step (Chg.of_below HB.out (fun _ => False)) (fun _ h => h.elim)).metC
  go_wp2_with fail
  refine (HFM.out w2 hmc2).mono ?_
  rintro e w3 ⟨rfl, hb⟩
  have n0 := Aside0.mk (below_step HB.out hb)
  have n1 := Aside0.mk (blk_below BK.out hb)
  clear HB hb BK z0 z1 z2 z3 z4 z5 hmc2 HFM
  have HB := n0
  have BK := n1
  clear n0 n1
  cases fm with
  | false =>
   clear hml
   go_wp2_with fail
   refine (awake16_calls w3).mono ?_
   rintro e w4 ⟨rfl, hb⟩
   have n1 := Aside0.mk (below_step HB.out hb)
   clear hb HB
   go_wp2
   go_ret
   exact ⟨rfl, n1.out⟩
  | true =>
   obtain ⟨hm80, hm40⟩ := hml rfl
   have HM80 := Aside0.mk (And.intro hm80 hm40)
   clear hml hm80 hm40
   by_cases hb1 : 100 < b.length
   ·have hd1 : decide ((100 : Int) < (b.length : Int)) = true := decide_eq_true (by omega)
    go_wp2_with fail
    refine (awake16_calls w3).mono ?_
    rintro e w4 ⟨rfl, hb⟩
    have n1 := Aside0.mk (below_step HB.out hb)
    clear hb HB
    go_wp2
    go_ret
    exact ⟨rfl, n1.out⟩
   ·have hd1 : decide ((100 : Int) < (b.length : Int)) = false := decide_eq_false (by omega)
    have HB100 := Aside0.mk (show b.length ≤ 100 by omega)
    clear hb1
    have HZ0 := Aside0.mk (show w.heap.size ≤ w3.heap.size from HB.out.size)
    go_wp2_with fail
    refine (with16_calls A0 c0 l w3 (Kd.C_below HCW.out HB.out) hl40 HSZ.out).mono ?_
    rintro e w4 ⟨g1, gm1, u1, gr1, vr1, rfl, hdr, hb⟩
    have HR1 := Aside0.mk hdr
    have n0 := Aside0.mk (below_step HB.out hb)
    have n1 := Aside0.mk (blk_below BK.out hb)
    clear HB BK hdr hb
    have HB := n0
    have BK := n1
    clear n0 n1
    have HZ1 := Aside0.mk (show w.heap.size ≤ w4.heap.size from HB.out.size)
    go_wp2_with fail
    refine (with16_calls A0 c0 l w4 (Kd.C_below HCW.out HB.out) hl40 HSZ.out).mono ?_
    rintro e w5 ⟨g2, gm2, u2, gr2, vr2, rfl, hdr, hb⟩
    have HR2 := Aside0.mk hdr
    have n0 := Aside0.mk (below_step HB.out hb)
    have n1 := Aside0.mk (blk_below BK.out hb)
    have n2 := Aside0.mk (HR1.out.dic.below hb)
    clear HB BK hdr hb
    have HB := n0
    have BK := n1
    have HD1 := n2
    clear n0 n1 n2
    obtain ⟨ws, hws⟩ : ∃ ws, putsW [] l = ws := ⟨_, rfl⟩
    have HWL : Aside0 (ws.length ≤ 40) := ⟨by have h := putsW_len [] l; rw [hws, List.length_nil] at h; omega⟩
    rw [hws] at HR1 HR2 HD1
    have HAP := Aside0.mk (show ∀ k, (⟨g1, gm1, u1, ws⟩ : Dic).F k → ¬ (⟨g2, gm2, u2, ws⟩ : Dic).F k from fun k h1 h2 => by have a := HR1.out.dic.lt k h1; have c := HR2.out.df k h2; omega)
    have HF1 := Aside0.mk (show ∀ k, (⟨g1, gm1, u1, ws⟩ : Dic).F k → w.heap.size ≤ k from fun k h1 => by have a := HR1.out.df k h1; have c := HZ0.out; omega)
    have HF2 := Aside0.mk (show ∀ k, (⟨g2, gm2, u2, ws⟩ : Dic).F k → w.heap.size ≤ k from fun k h1 => by have a := HR2.out.df k h1; have c := HZ1.out; omega)
    have HD2 := Aside0.mk HR2.out.dic
    have n0 := Aside0.mk (HMF.out.step (Chg.of_below HB.out (fun _ => False)) (fun _ h => h.elim))
    clear hws HR1 HR2 HMF
    have HMF := n0
    clear n0
    have hput := recput_calls ⟨g1, gm1, u1, ws⟩ m Av cv At ct w5 HD1.out HMF.out (fun k hk hF => by have := HF1.out k hF; omega) (fun k hk => Nat.lt_of_lt_of_le hk HB.out.size)
    have HPUT := Aside0.mk hput
    clear hput
    have z0 : w5.cell? ⟨b4, 0, none⟩ = some (.string m.f0) := (blk_cell BK.out 0).trans rfl
    have z1 : w5.cell? ⟨b4, 1, none⟩ = some (.int .i64 m.f1) := (blk_cell BK.out 1).trans rfl
    have z2 : w5.cell? ⟨b4, 2, none⟩ = some (.slice Av m.f2.length cv) := (blk_cell BK.out 2).trans rfl
    have z3 : w5.cell? ⟨b4, 3, none⟩ = some (.int .i64 m.f3) := (blk_cell BK.out 3).trans rfl
    have z4 : w5.cell? ⟨b4, 4, none⟩ = some (.slice At m.f4.length ct) := (blk_cell BK.out 4).trans rfl
    have z5 : w5.cell? ⟨b4, 5, none⟩ = some (.int .i64 m.f5) := (blk_cell BK.out 5).trans rfl
    go_wp2_with fail
    refine HPUT.out.mono ?_
    rintro e w6 ⟨v, rfl, hR, u3, hd, hg, hn⟩
    obtain ⟨pc, hpc⟩ : ∃ pc, pcode ws m = pc := ⟨_, rfl⟩
    have hpc2 : pcode (⟨g1, gm1, u1, ws⟩ : Dic).ws m = pc := hpc
    rw [hpc2] at hR hd ⊢
    have HD1b := Aside0.mk hd
    have HF1b := Aside0.mk (show ∀ k, (⟨g1, gm1, u3, if pc = 0 then (pmet ws m).2 else ws⟩ : Dic).F k → (⟨g1, gm1, u1, ws⟩ : Dic).F k ∨ w5.heap.size ≤ k from DTurn.next hn)
    have n0 := Aside0.mk (HD2.out.step hg (fun k hk h1 => HAP.out k h1 hk))
    have n1 := Aside0.mk (HMF.out.step hg (fun k hk ho => by have := HF1.out k hk; omega))
    have n2 := Aside0.mk (dic_blk (by decide) (by decide) HD1.out hg BK.out)
    have n3 := Aside0.mk (Below.trans HB.out (hg.to_below HF1.out HB.out.size))
    have HAPb := Aside0.mk (show ∀ k, (⟨g2, gm2, u2, ws⟩ : Dic).F k → ¬ (⟨g1, gm1, u3, if pc = 0 then (pmet ws m).2 else ws⟩ : Dic).F k from fun k h2 h1 => (HF1b.out k h1).elim (fun h => HAP.out k h h2) (fun h => by have := HD2.out.lt k h2; omega))
    have HFW := Aside0.mk (show ∀ k, (⟨g1, gm1, u3, if pc = 0 then (pmet ws m).2 else ws⟩ : Dic).F k → w.heap.size ≤ k from fun k h1 => (HF1b.out k h1).elim (fun h => HF1.out k h) (fun h => Nat.le_trans HB.out.size h))
    have HRB := Aside0.mk hR
    clear HB BK HMF HD1 HD2 HPUT hR hd hg hn hpc2 z0 z1 z2 z3 z4 z5 HAP HF1 HF1b
    have HD2 := n0
    have HMF := n1
    have BK := n2
    have HB := n3
    clear n0 n1 n2 n3
    have HPC := Aside0.mk hpc
    clear hpc
    have z0 : w6.cell? ⟨b4, 0, none⟩ = some (.string m.f0) := (blk_cell BK.out 0).trans rfl
    have z1 : w6.cell? ⟨b4, 1, none⟩ = some (.int .i64 m.f1) := (blk_cell BK.out 1).trans rfl
    have z2 : w6.cell? ⟨b4, 2, none⟩ = some (.slice Av m.f2.length cv) := (blk_cell BK.out 2).trans rfl
    have z3 : w6.cell? ⟨b4, 3, none⟩ = some (.int .i64 m.f3) := (blk_cell BK.out 3).trans rfl
    have z4 : w6.cell? ⟨b4, 4, none⟩ = some (.slice At m.f4.length ct) := (blk_cell BK.out 4).trans rfl
    have z5 : w6.cell? ⟨b4, 5, none⟩ = some (.int .i64 m.f5) := (blk_cell BK.out 5).trans rfl
    have HIS := Aside0.mk (mis_true m Av cv At ct w6 HMF.out.metC HMI.out (by have := HM80.out.2; omega))
    obtain ⟨Ap, np, cp, ev⟩ : ∃ A n c, v = .slice A n c := by obtain ⟨A, c, h⟩ := Kd.R_slice HRB.out; exact ⟨A, _, c, h⟩
    subst ev
    by_cases hp0 : pc = 0
    ·subst hp0
     have hpp : metBad m = 0 ∧ tIs m.f4 = true := by
      have h := HPC.out
      unfold pcode at h
      split at h
      ·rename_i h1
       refine ⟨h1, ?_⟩
       split at h
       ·rename_i h2
        exact h2
       ·cases h
      ·rename_i h1
       exact absurd h h1
     obtain ⟨hm0, htis⟩ := hpp
     rw [decide_eq_true hm0, htis, Bool.true_and] at HIS
     rw [if_pos rfl] at HD1b HRB HFW HAPb
     have hpl := pmet_len (ws := ws) hm0 HMI.out HWL.out
     have hby := pmet_bytes (ws := ws) hm0
     have hgp := fun (A' : Option Addr) (c' : Nat) => gmet_put (A := A') (c := c') (p := 0) (B := (pmet ws m).1 ++ b) (rest := b) (ws := ws) hm0 htis (fun d hd => by
      have h := HMI.out
      unfold metIn at h
      simp only [Bool.and_eq_true, List.all_eq_true] at h
      have h2 := h.2.1 d hd
      unfold decIn at h2
      simp only [Bool.and_eq_true, decide_eq_true_eq] at h2
      exact h2.1) (by have := HWL.out; omega) rfl
     obtain ⟨p, hp⟩ : ∃ p, (pmet ws m).1 = p := ⟨_, rfl⟩
     obtain ⟨ws', hw⟩ : ∃ ws', (pmet ws m).2 = ws' := ⟨_, rfl⟩
     rw [hp] at HRB hpl hby
     rw [hw] at HD1b HFW HAPb
     rw [hp, hw] at hgp
     obtain ⟨A, c, e, hle, hC⟩ := Kd.R_reads HRB.out
     injection e with e1 e2 e3
     subst e1 e2 e3
     have HPL := Aside0.mk hpl
     have HBY := Aside0.mk (show ∀ x ∈ p ++ b, 0 ≤ x ∧ x < 256 from fun x hx => (List.mem_append.1 hx).elim (hby x) (HLB.out x))
     have HGP := Aside0.mk hgp
     clear hm0 htis hpl hby hgp hp hw hle hC
     go_wp2_with fail
     refine HIS.out.mono ?_
     rintro e w7 ⟨rfl, hb⟩
     have n0 := Aside0.mk (HD1b.out.below hb)
     have n1 := Aside0.mk (HD2.out.below hb)
     have n2 := Aside0.mk (below_step HB.out hb)
     have n3 := Aside0.mk (blk_below BK.out hb)
     have n4 := Aside0.mk (HMF.out.below hb)
     have n5 := Aside0.mk (Kd.R_below HRB.out hb)
     clear HD1b HD2 HB hb HIS BK HMF HRB z0 z1 z2 z3 z4 z5
     have HDA := n0
     have HDB := n1
     have HB := n2
     have BK := n3
     have HMF := n4
     have HRB := n5
     clear n0 n1 n2 n3 n4 n5
     have HO1 : Aside0 ((Kd.int .u8).R 5 (w7.alloc (.cells #[] 5)) w7.heap.size (fun _ => True) (.slice (some ⟨w7.heap.size, 0, none⟩) 0 0) []) := ⟨R_lit_u8 5 (Nat.le_refl _) [] (by simp)⟩
     have HC5 := Aside0.mk (Kd.R_reads' (Kd.R_below HRB.out (below_alloc (Below.refl w7.heap.size w7) (.cells #[] 5)))).2.2
     have HAL := Aside0.mk (below_alloc (Below.refl w7.heap.size w7) (.cells #[] 5))
     go_wp2_with (first | ((with_reducible refine gate_builtin (b := .append) (xs := #[.tmp 65, .tmp 66]) rfl ?_); at_builtin; go_must (refine R_apps_g rfl rfl rfl rfl uB HO1.out HC5.out HAL.out.size (by have := HPL.out; simp only [List.length_nil]; omega) ?_); intro y w8 hy hg; rw [List.nil_append] at hy; (obtain ⟨Ay, cy, rfl, hle5, hC5⟩ := Kd.R_reads hy); have HY1 := Aside0.mk hy; have HB8 := Aside0.mk (Below.trans HAL.out ((Chg.of_grown hg (S := fun k => w7.heap.size ≤ k) (fun k hk => Kd.R_base HO1.out k hk)).to_below (fun k h => h) HAL.out.size)); have HC8 := Aside0.mk (Kd.C_below HC1.out (below_step HB.out HB8.out)); clear hy hg hle5 hC5) | ((with_reducible refine gate_builtin (b := .append) (xs := #[.tmp 67, .tmp 68]) rfl ?_); at_builtin; go_must (refine R_apps_g rfl rfl rfl rfl uB HY1.out HC8.out HB8.out.size (by have := HPL.out; have := HB100.out; omega) ?_); intro y w9 hy hg; (obtain ⟨Az, cz, rfl, hle5, hC5⟩ := Kd.R_reads hy); have HC9 := Aside0.mk hC5; have HB9 := Aside0.mk (Below.trans HB8.out ((Chg.of_grown hg (S := fun k => w7.heap.size ≤ k) (fun k hk => Kd.R_base HY1.out k hk)).to_below (fun k h => h) HB8.out.size)); clear hy hg hle5 hC5))
     have HBw := Aside0.mk (below_step HB.out HB9.out)
     have hc9 : (Kd.int .u8).C w9 Az (p.length + b.length) (p ++ b) := by rw [← List.length_append]; exact HC9.out
     with_reducible refine Calls.stepCur hc9 HBY.out (by have := HPL.out; have := HB100.out; omega) HBw ?_
     intro ok gc A' c' wc HCu hlo HOK hbc HBc
     have HBx := Aside0.mk (below_then HB9.out HB9.out.size hbc.out)
     obtain ⟨s', hs'⟩ : ∃ s' : Cu, (⟨A', c', p ++ b, 0 + p.length, 0, 0, false⟩ : Cu) = s' := ⟨_, rfl⟩
     have hge := HGP.out A' c'
     rw [hs'] at hge
     have HSF := Aside0.mk (show s'.code = 0 ∧ s'.fat = 0 ∧ s'.pos = p.length by rw [← hs']; exact ⟨rfl, rfl, by show 0 + p.length = _; omega⟩)
     have HX : Aside0 (RO ok gc ⟨g2, gm2, u2, ws⟩ ⟨g1, gm1, u3, ws'⟩ ⟨A', c', p ++ b, 0, 0, 0, false⟩ w wc) := ⟨by
      refine ⟨HCu.out, HDB.out.below HBx.out, HDA.out.below HBx.out, HAPb.out, ?_, ?_, HF2.out, HFW.out, HOK.out, HBc.out⟩
      ·intro k hk h1
       have a := hlo.out k hk
       have c := HDB.out.lt k h1
       have q := HB9.out.size
       omega
      ·intro k hk h1
       have a := hlo.out k hk
       have c := HDA.out.lt k h1
       have q := HB9.out.size
       omega⟩
     have HGET := Aside0.mk (HX.out.get2 (sane0 ..) hge)
     have n0 := Aside0.mk (blk_below BK.out HBx.out)
     have n1 := Aside0.mk (HMF.out.below HBx.out)
     have HXC := Aside0.mk HX.out
     clear HCu hlo HOK hbc HBc HBw HC9 hc9 HB9 HY1 HB8 HC8 HO1 HC5 HAL HRB BK HMF HB HDA HDB hge hs' HBx HX
     have BK := n0
     have HMF := n1
     clear n0 n1
     go_wp2_with fail
     refine HGET.out.mono ?_
     rintro e wd ⟨A2, c2, A4, c4, u4, rfl, hR2, hR4, hx, hg⟩
     have n0 := Aside0.mk (two_blk (by decide) (by decide) (by decide) HXC.out.cur HXC.out.da hg BK.out)
     have n1 := Aside0.mk (HMF.out.step hg (fun k hk ho => hk.elim (fun e => by have := (HXC.out.okr gc HXC.out.cur.okg).1; omega) (fun e => by have := HXC.out.f1 k e; omega)))
     have HX := Aside0.mk hx
     have HM2 := Aside0.mk (metF_of hR2 hR4 HMI.out).1
     clear HGET BK HMF HXC hR2 hR4 hx hg
     have BK := n0
     have HMF := n1
     clear n0 n1
     go_wp2_with fail
     have hal : Below wd.heap.size wd (wd.alloc (.cells #[.string m.f0, .int .i64 m.f1, .slice A2 m.f2.length c2, .int .i64 m.f3, .slice A4 m.f4.length c4, .int .i64 m.f5] 26)) := below_alloc (Below.refl _ _) _
     have hbox := blk_new wd (.cells #[.string m.f0, .int .i64 m.f1, .slice A2 m.f2.length c2, .int .i64 m.f3, .slice A4 m.f4.length c4, .int .i64 m.f5] 26)
     generalize hwt : wd.alloc (.cells #[.string m.f0, .int .i64 m.f1, .slice A2 m.f2.length c2, .int .i64 m.f3, .slice A4 m.f4.length c4, .int .i64 m.f5] 26) = we at hal hbox ⊢
     obtain ⟨b14, hb14⟩ : ∃ b14, wd.heap.size = b14 := ⟨_, rfl⟩
     rw [hb14] at hbox ⊢
     have BN := Aside0.mk hbox
     have n0 := Aside0.mk (HX.out.below hal)
     have n1 := Aside0.mk (blk_below BK.out hal)
     have n2 := Aside0.mk (HMF.out.below hal)
     have n3 := Aside0.mk (HM2.out.below hal)
     clear HX BK HMF HM2 hal hbox hwt hb14
     have HX := n0
     have BK := n1
     have HMF := n2
     have HM2 := n3
     clear n0 n1 n2 n3
     refine (curfault_at gc s' 0 0 we HX.out.cur HSF.out.1 HSF.out.2.1).mono ?_
     rintro e wf ⟨rfl, hb⟩
     have n0 := Aside0.mk (HX.out.below hb)
     have n1 := Aside0.mk (blk_below BK.out hb)
     have n2 := Aside0.mk (HMF.out.below hb)
     have n3 := Aside0.mk (HM2.out.below hb)
     have n4 := Aside0.mk (blk_below BN.out hb)
     clear HX BK HMF HM2 BN hb
     have HX := n0
     have BK := n1
     have HMF := n2
     have HM2 := n3
     have BN := n4
     clear n0 n1 n2 n3 n4
     have hat := curat_calls gc s' wf HX.out.cur
     rw [HSF.out.2.2] at hat
     have HAT := Aside0.mk hat
     clear hat
     go_wp2_with fail
     refine HAT.out.mono ?_
     rintro e wg ⟨rfl, hd⟩
     have n0 := Aside0.mk (HX.out.below hd.below)
     have n1 := Aside0.mk (blk_below BK.out hd.below)
     have n2 := Aside0.mk (HMF.out.below hd.below)
     have n3 := Aside0.mk (HM2.out.below hd.below)
     have n4 := Aside0.mk (blk_below BN.out hd.below)
     clear HX BK HMF HM2 BN hd HAT
     have HX := n0
     have BK := n1
     have HMF := n2
     have HM2 := n3
     have BN := n4
     clear n0 n1 n2 n3 n4
     have y0 : wg.cell? ⟨b14, 0, none⟩ = some (.string m.f0) := (blk_cell BN.out 0).trans rfl
     have y1 : wg.cell? ⟨b14, 1, none⟩ = some (.int .i64 m.f1) := (blk_cell BN.out 1).trans rfl
     have y2 : wg.cell? ⟨b14, 2, none⟩ = some (.slice A2 m.f2.length c2) := (blk_cell BN.out 2).trans rfl
     have y3 : wg.cell? ⟨b14, 3, none⟩ = some (.int .i64 m.f3) := (blk_cell BN.out 3).trans rfl
     have y4 : wg.cell? ⟨b14, 4, none⟩ = some (.slice A4 m.f4.length c4) := (blk_cell BN.out 4).trans rfl
     have y5 : wg.cell? ⟨b14, 5, none⟩ = some (.int .i64 m.f5) := (blk_cell BN.out 5).trans rfl
     have z0 : wg.cell? ⟨b4, 0, none⟩ = some (.string m.f0) := (blk_cell BK.out 0).trans rfl
     have z1 : wg.cell? ⟨b4, 1, none⟩ = some (.int .i64 m.f1) := (blk_cell BK.out 1).trans rfl
     have z2 : wg.cell? ⟨b4, 2, none⟩ = some (.slice Av m.f2.length cv) := (blk_cell BK.out 2).trans rfl
     have z3 : wg.cell? ⟨b4, 3, none⟩ = some (.int .i64 m.f3) := (blk_cell BK.out 3).trans rfl
     have z4 : wg.cell? ⟨b4, 4, none⟩ = some (.slice At m.f4.length ct) := (blk_cell BK.out 4).trans rfl
     have z5 : wg.cell? ⟨b4, 5, none⟩ = some (.int .i64 m.f5) := (blk_cell BK.out 5).trans rfl
     have HEQ := Aside0.mk (mequal16 m m A2 c2 A4 c4 Av cv At ct wg HM2.out.metC HMF.out.metC (by have := HM80.out.1; omega) (by have := HM80.out.2; omega) rfl)
     go_wp2_with fail
     refine HEQ.out.mono ?_
     rintro e wh ⟨rfl, hb⟩
     have n0 := Aside0.mk (HX.out.below hb)
     clear HX BK HMF HM2 BN hb HEQ y0 y1 y2 y3 y4 y5 z0 z1 z2 z3 z4 z5
     have HX := n0
     clear n0
     have HLW : Aside0 (ws'.length ≤ 1000000) := ⟨by have := HX.out.da.few; have h2 : ws'.length ≤ 65536 := this; omega⟩
     go_wp2_with fail
     refine (dicwords_calls ⟨g1, gm1, u3, ws'⟩ wh HX.out.db).mono ?_
     rintro e wi ⟨x1, rfl, hr, hb⟩
     obtain ⟨B1, e1, rfl, hle1, hC⟩ := Kd.R_reads hr
     have HB1 := Aside0.mk hC
     have HE1 := Aside0.mk hle1
     have n0 := Aside0.mk (HX.out.below hb)
     clear HX hr hle1 hC hb
     have HX := n0
     clear n0
     go_wp2_with fail
     refine (dicwords_calls ⟨g2, gm2, u4, ws'⟩ wi HX.out.da).mono ?_
     rintro e wj ⟨x2, rfl, hr, hb⟩
     obtain ⟨B2, e2, rfl, hle2, hC⟩ := Kd.R_reads hr
     have HTX := Aside0.mk (texts_same B1 e1 B2 e2 ws' wj (Kd.C_below HB1.out hb) HE1.out hC hle2 HLW.out)
     have HBL := Aside0.mk (HX.out.below hb).bel
     clear HX hr hle2 hC hb HB1 HE1
     go_wp2_with fail
     refine HTX.out.mono ?_
     rintro e wk ⟨rfl, hd⟩
     have n0 := Aside0.mk (below_step HBL.out hd.below)
     clear HBL HTX hd
     go_wp2_with fail
     refine (awake16_calls wk).mono ?_
     rintro e wl ⟨rfl, hb⟩
     have n1 := Aside0.mk (below_step n0.out hb)
     clear n0 hb
     go_wp2
     go_ret
     exact ⟨rfl, n1.out⟩
    ·have hq : (decide (metBad m = 0) && tIs m.f4) = false := by
      cases h : (decide (metBad m = 0) && tIs m.f4) with
      | false => rfl
      | true =>
       exfalso
       simp only [Bool.and_eq_true, decide_eq_true_eq] at h
       apply hp0
       rw [← HPC.out]
       unfold pcode
       rw [if_pos h.1, if_pos h.2, if_neg (by have := HWL.out; omega)]
     rw [hq] at HIS
     rw [if_neg hp0] at HD1b HRB HFW HAPb
     obtain ⟨A, c, e, hle, hC⟩ := Kd.R_reads HRB.out
     injection e with e1 e2 e3
     replace e2 : np = 0 := e2
     subst e1 e2 e3
     have hpb : (pc == 0) = false := beq_eq_false_iff_ne.mpr hp0
     have hpb2 : (pc != 0) = true := bne_iff_ne.mpr hp0
     clear hq hp0 hC hle HRB
     go_wp2_with fail
     refine HIS.out.mono ?_
     rintro e w7 ⟨rfl, hb⟩
     have n0 := Aside0.mk (HD1b.out.below hb)
     have n1 := Aside0.mk (HD2.out.below hb)
     have n2 := Aside0.mk (below_step HB.out hb)
     clear HD1b HD2 HB hb HIS BK HMF z0 z1 z2 z3 z4 z5 HAPb HFW
     have HDA := n0
     have HDB := n1
     have HB := n2
     clear n0 n1 n2
     have HLW : Aside0 (ws.length ≤ 1000000) := ⟨by have := HWL.out; omega⟩
     go_wp2_with fail
     refine (dicwords_calls ⟨g1, gm1, u3, ws⟩ w7 HDA.out).mono ?_
     rintro e w8 ⟨x1, rfl, hr, hb⟩
     obtain ⟨B1, e1, rfl, hle1, hC⟩ := Kd.R_reads hr
     have HB1 := Aside0.mk hC
     have HE1 := Aside0.mk hle1
     have n0 := Aside0.mk (HDB.out.below hb)
     have n1 := Aside0.mk (below_step HB.out hb)
     clear HDA HDB HB hr hle1 hC hb
     have HDB := n0
     have HB := n1
     clear n0 n1
     go_wp2_with fail
     refine (dicwords_calls ⟨g2, gm2, u2, ws⟩ w8 HDB.out).mono ?_
     rintro e w9 ⟨x2, rfl, hr, hb⟩
     obtain ⟨B2, e2, rfl, hle2, hC⟩ := Kd.R_reads hr
     have HTX := Aside0.mk (texts_same B1 e1 B2 e2 ws w9 (Kd.C_below HB1.out hb) HE1.out hC hle2 HLW.out)
     have n0 := Aside0.mk (below_step HB.out hb)
     clear HB HDB hr hle2 hC hb HB1 HE1
     go_wp2_with fail
     refine HTX.out.mono ?_
     rintro e wa ⟨rfl, hd⟩
     have n1 := Aside0.mk (below_step n0.out hd.below)
     clear n0 HTX hd
     go_wp2_with fail
     refine (awake16_calls wa).mono ?_
     rintro e wb ⟨rfl, hb⟩
     have n2 := Aside0.mk (below_step n1.out hb)
     clear n1 hb
     go_wp2
     go_ret
     exact ⟨rfl, n2.out⟩
namespace recBack
open Go.ChangeShapes Go.WideShapes Go.ChangeAt Go.RowKit
open Go.ChangeMaps (open_string shut_string)
theorem own : ownKnob Try.prog.godebug = none := by kernel_rfl
theorem laidOut : laidOutB Try.prog = true := by kernel_rfl
set_option maxRecDepth 100000 in
theorem lifted (os : Os) (started : os.Started) (H : Type) (enc : TypeId × Value → H) :
  ReturnsInHanded {} Try.checked os 5 .any (Rows.recBackSpec.pre6 enc Try.prog Try.f5 Rows.recBackRow.domain false) (Rows.recBackSpec.post enc Try.prog Try.f5 false true false false) := by
 refine returnsInHanded_of_change_sized (C := Try.checked) own started (by kernel_rfl) Try.func5
  (ChangeSpec.witness6 (enc := enc) (C := Try.checked) false ⟨#[], #[.slice none 0 0, .agg #[.string ByteArray.empty, .int .i64 0, .slice none 0 0, .int .i64 0, .slice none 0 0, .int .i64 0], .slice none 0 0], []⟩ 8 (by kernel_rfl) (by kernel_rfl) (by kernel_rfl) (by kernel_rfl)) ?_
 intro W base args ds gs before hval0 hW hcnd hsz0 _
 have hsz : (DataW.weightsEach Try.prog (Try.f5.params.toList ++ Rows.recBackSpec.plain.varTypes Try.prog) (ds ++ gs)).all (· ≤ reachBytes) = true := hsz0
 have hval : ∀ (j : Nat) t v, Try.f5.params[j]? = some t → args[j]? = some v → Value.okWide Try.prog W .any base t v := hval0
 have hW' := hW
 obtain ⟨p, q, hA0, hV, rfl, hfz, hnd⟩ := hW
 have hA : DataW.TrodAll enc Try.prog W 0 (fun _ => true) true Try.f5.params.toList args.toList ds p := hA0
 rw [Try.params5] at hA hval hsz
 obtain ⟨v0, vs0, d0, ds0, p0, q0, hargs, rfl, rfl, h0, r0⟩ := trodAll_cons hA
 obtain ⟨v1, vs1, d1, ds1, p1, q1, rfl, rfl, rfl, h1, r1⟩ := trodAll_cons r0
 obtain ⟨v2, vs2, d2, ds2, p2, q2, rfl, rfl, rfl, h2, r2⟩ := trodAll_cons r1
 obtain ⟨rfl, rfl, rfl⟩ := trodAll_nil r2
 obtain rfl : args = #[v0, v1, v2] := by cases args; simp_all
 obtain ⟨rfl, rfl⟩ := trodVars_none hV
 obtain ⟨a0, len0, cap0, rfl⟩ := okWide_slice Try.underlying22 (hval 0 22 v0 rfl rfl)
 have k0 := h0
 have lt0 : ∀ x ∈ p0, x.block < W.heap.size := by obtain ⟨m, hm⟩ := k0; exact DataW.trod_lt m _ _ _ hm
 have y0 : len0 * 16 ≤ 140737488351232 := sized_strs hsz (j := 0) (t := 22) rfl rfl Try.underlying22 Try.underlying9 (by kernel_rfl) (by kernel_rfl) h0
 obtain ⟨l0, c0, b0, e0⟩ := open_srow Try.underlying22 Try.underlying9 (by kernel_rfl) (by omega) h0
 obtain rfl := c0.1.symm
 have k1 := h1
 have lt1 : ∀ x ∈ p1, x.block < W.heap.size := by obtain ⟨m, hm⟩ := k1; exact DataW.trod_lt m _ _ _ hm
 obtain ⟨m1, A1, c1, B1, e1, rfl, g1, i1⟩ := open_metric (hval 1 26 v1 rfl rfl) h1
 obtain ⟨a2, len2, cap2, rfl⟩ := okWide_slice Try.underlying34 (hval 2 34 v2 rfl rfl)
 have k2 := h2
 have lt2 : ∀ x ∈ p2, x.block < W.heap.size := by obtain ⟨m, hm⟩ := k2; exact DataW.trod_lt m _ _ _ hm
 have y2 : len2 * 1 ≤ 140737488351232 := sized_ints hsz (j := 2) (t := 34) rfl rfl Try.underlying34 Try.underlying5 (by kernel_rfl) (by kernel_rfl) h2
 obtain ⟨l2, c2, b2, e2⟩ := open_row Try.underlying34 Try.underlying5 (by kernel_rfl) (by omega) h2
 obtain rfl := c2.1.symm
 clear hA0 hval0 hsz0 hsz
 refine (recBack_walk a0 cap0 l0 m1 A1 c1 B1 e1 a2 cap2 l2 W c0 b0 y0 e0 g1 i1 c2 b2 y2 e2).mono fun e W' ⟨he, bel⟩ => ?_
 subst he
 exact ⟨_, rfl, _, _, _, [], _, [], hW', trodAll_mk1 (shut_bool Try.underlying4 _), (trodAll_cons_mk (Below.trod laidOut (by kernel_rfl) (of_decide_eq_true (by kernel_rfl)) k0 bel lt0) (trodAll_cons_mk (Below.trod laidOut (by kernel_rfl) (of_decide_eq_true (by kernel_rfl)) k1 bel lt1) (trodAll_cons_mk (Below.trod laidOut (by kernel_rfl) (of_decide_eq_true (by kernel_rfl)) k2 bel lt2) trodAll_mk0))), rfl, bel.frame _, fun h => by cases h⟩
theorem over : Rows.recBackRow.holds Try.pinned (OpenSpec.ofChange Rows.recBackSpec) :=
 OpenClaim.holds_of_wide 5 Try.f5 rfl rfl rfl rfl rfl rfl rfl ⟨rfl, rfl, rfl, rfl, rfl⟩ rfl rfl rfl rfl rfl (by kernel_rfl) Try.func5 (by kernel_rfl)
  (of_decide_eq_true (by kernel_rfl)) (by unfold Func.isWrapper; first | (rw [if_pos (by decide +kernel)]; kernel_rfl) | (rw [if_neg (by decide +kernel)]; exact ⟨rfl, rfl⟩))
  (fun os started H enc _ => lifted os started H enc)
theorem proved : Rows.RecBackSaid := over
end recBack
theorem recBack_holds : Rows.RecBackSaid := recBack.proved
#print axioms recBack_holds
end Go.Proofs.Ytclbmdblalgdjaa
