/- RecOnly: what is taken is in its one form, and put as just the bytes that were taken: its walk; for all words and every bytes, no condition. -/
import Derived.Test.YtclbmdblalgdjaaZMRecO
import Derived.Test.YtclbmdblalgdjaaZMTimes
import Derived.Test.YtclbmdblalgdjaaRows
import Derived.Test.YtclbmdblalgdjaaZMPEx10
namespace Go.Proofs.Ytclbmdblalgdjaa
open Go.RowKit Go.Proofs.YtclbmdblalgdjaaW.PrintWords Go.Proofs.YtclbmdblalgdjaaW.PrintLast Go.Proofs.YtclbmdblalgdjaaW.PrintMore Go.Proofs.Ytclbmdblalgdjaa.PE
set_option linter.unusedVariables false
set_option linter.unusedSimpArgs false
attribute [local go_sem high] eqFault
theorem metIn_of {m : MetS} (h0 : metBad m = 0) (hd : ∀ d ∈ m.f2, decIn d = true) : metIn m = true := by
 obtain ⟨⟨_, n2, _⟩, _, _, _, ⟨_, t2⟩, _⟩ := metParts h0
 unfold metIn
 simp only [Bool.and_eq_true, decide_eq_true_eq, List.all_eq_true]
 refine ⟨by omega, hd, fun t ht => ?_⟩
 obtain ⟨⟨_, a, _⟩, b, _⟩ := tagBad_ok (t2 t ht)
 unfold tagIn
 simp only [Bool.and_eq_true, decide_eq_true_eq]
 omega
set_option maxHeartbeats 16000000 in
set_option maxRecDepth 100000 in
theorem recOnly_walk (A0 : Option Addr) (c0 : Nat) (l : List ByteArray) (A1 : Option Addr) (c1 : Nat) (b : List Int) (w : World)
  (hC0 : Kd.string.C w A0 l.length l) (hwf0 : ∀ x ∈ l, x.size ≤ 9223372036854775807) (hsz0 : l.length * 16 ≤ 140737488351232) (hcap0 : l.length ≤ c0)
  (hC1 : (Kd.int .u8).C w A1 b.length b) (hwf1 : ∀ x ∈ b, (Lit.int .u8 x).wf = true) (hsz1 : b.length * 1 ≤ 140737488351232) (hcap1 : b.length ≤ c1) :
  Calls Try.prog 6 #[.slice A0 l.length c0, .slice A1 b.length c1] w fun e w' => e = .returned (.bool true) ∧ Below w.heap.size w w' := by
 have HCW := Aside0.mk hC0
 have HC1 := Aside0.mk hC1
 have HLB := Aside0.mk (bytes_of_wf hwf1)
 have HCAP := Aside0.mk hcap1
 obtain ⟨fb, hfe, hfl⟩ := few16_calls A0 c0 l w hC0 hcap0
 have HFE := Aside0.mk hfe
 have HB := Aside0.mk (Below.refl w.heap.size w)
 clear hC0 hwf0 hsz0 hC1 hwf1 hsz1 hcap1 hfe
 cases fb with
 | false =>
  clear hfl
  go_enter Try.func6, Try.ntmps6
  go_wp2_with fail
  with_reducible refine Calls.stepB (Calls.dB HFE.out) ⟨(by repeat (first | (with_reducible first | exact HB.out | apply below_alloc | apply pw_below_drewN | apply below_drew1) | exact HB.out))⟩ ?_
  clear HB
  intro w_ HK HB
  clear HK
  go_wp2_with fail
  with_reducible refine Calls.stepB (awake16_calls _) ⟨(by repeat (first | (with_reducible first | exact HB.out | apply below_alloc | apply pw_below_drewN | apply below_drew1) | exact HB.out))⟩ ?_
  clear HB
  intro w_ HK HB
  clear HK
  go_wp2
  go_ret
  exact ⟨rfl, (by repeat (first | (with_reducible first | exact HB.out | apply below_alloc | apply pw_below_drewN | apply below_drew1) | exact HB.out))⟩
 | true =>
  obtain ⟨hl40, hs250⟩ := hfl rfl
  have HSZ := Aside0.mk hs250
  clear hfl hs250
  by_cases h3 : 3000 < b.length
  ·go_enter Try.func6, Try.ntmps6
   go_wp2_with fail
   with_reducible refine Calls.stepB (Calls.dB HFE.out) ⟨(by repeat (first | (with_reducible first | exact HB.out | apply below_alloc | apply pw_below_drewN | apply below_drew1) | exact HB.out))⟩ ?_
   clear HB
   intro w_ HK HB
   clear HK
   go_wp2_with fail
   with_reducible refine Calls.stepB (awake16_calls _) ⟨(by repeat (first | (with_reducible first | exact HB.out | apply below_alloc | apply pw_below_drewN | apply below_drew1) | exact HB.out))⟩ ?_
   clear HB
   intro w_ HK HB
   clear HK
   go_wp2
   go_ret
   exact ⟨rfl, (by repeat (first | (with_reducible first | exact HB.out | apply below_alloc | apply pw_below_drewN | apply below_drew1) | exact HB.out))⟩
  have hb3 : b.length ≤ 3000 := by omega
  clear h3
  go_enter Try.func6, Try.ntmps6
  go_wp2_with fail
  refine HFE.out.mono ?_
  rintro e wf ⟨rfl, hd⟩
  have n0 := Aside0.mk (below_step HB.out hd.below)
  clear HB hd
  have HB := n0
  clear n0
  go_wp2_with fail
  refine (with16_calls A0 c0 l wf (Kd.C_below HCW.out HB.out) hl40 HSZ.out).mono ?_
  rintro e w1 ⟨g1, gm1, u1, gr1, vr1, rfl, hdr, hb⟩
  have HR1 := Aside0.mk hdr
  have n0 := Aside0.mk (below_step HB.out hb)
  have HZ0 := Aside0.mk (show w.heap.size ≤ wf.heap.size from HB.out.size)
  clear HB hdr hb
  have HB := n0
  clear n0
  go_wp2_with fail
  refine (with16_calls A0 c0 l w1 (Kd.C_below HCW.out HB.out) hl40 HSZ.out).mono ?_
  rintro e w2 ⟨g2, gm2, u2, gr2, vr2, rfl, hdr, hb⟩
  have HR2 := Aside0.mk hdr
  have HZ1 := Aside0.mk (show w.heap.size ≤ w1.heap.size from HB.out.size)
  have n0 := Aside0.mk (below_step HB.out hb)
  have n1 := Aside0.mk (HR1.out.dic.below hb)
  clear HB hdr hb
  have HB := n0
  have HD1 := n1
  clear n0 n1
  obtain ⟨ws, hws⟩ : ∃ ws, putsW [] l = ws := ⟨_, rfl⟩
  have HWL : Aside0 (ws.length ≤ 40) := ⟨by have h := putsW_len [] l; rw [hws, List.length_nil] at h; omega⟩
  rw [hws] at HR1 HR2 HD1
  clear hws
  have HW : Aside0 (WsOk ws) := ⟨⟨HD1.out.nd, HD1.out.short, HD1.out.few⟩⟩
  go_wp2_with fail
  with_reducible refine Calls.stepCur (Kd.C_below HC1.out HB.out) HLB.out (by omega) HB ?_
  intro ok gc A' c' w3 HCu hlo HOK hb9 HB9
  obtain ⟨s0, hs0⟩ : ∃ s0 : Cu, (⟨A', c', b, 0, 0, 0, false⟩ : Cu) = s0 := ⟨_, rfl⟩
  have HS0 := Aside0.mk hs0
  rw [hs0] at HCu
  have HX : Aside0 (RO ok gc ⟨g1, gm1, u1, ws⟩ ⟨g2, gm2, u2, ws⟩ s0 w w3) := ⟨by
   refine ⟨HCu.out, HD1.out.below hb9.out, HR2.out.dic.below hb9.out, ?_, ?_, ?_, ?_, ?_, HOK.out, HB9.out⟩
   ·intro k h1 h2
    have a := HR1.out.dic.lt k h1
    have c := HR2.out.df k h2
    omega
   ·intro k hk h1
    have a := hlo.out k hk
    have c := HD1.out.lt k h1
    omega
   ·intro k hk h1
    have a := hlo.out k hk
    have c := HR2.out.dic.lt k h1
    omega
   ·intro k h1
    have a := HR1.out.df k h1
    have c := HZ0.out
    omega
   ·intro k h1
    have a := HR2.out.df k h1
    have c := HZ1.out
    omega⟩
  obtain ⟨⟨m, s', ws'⟩, hr⟩ : ∃ r, gmet ws s0 = r := ⟨_, rfl⟩
  have HGR := Aside0.mk hr
  have HS0S : Aside0 s0.sane := ⟨by rw [← hs0]; exact sane0 ..⟩
  have HSS : Aside0 s'.sane := ⟨by have h := gmet_sane (ws := ws) HS0S.out; rw [hr] at h; exact h⟩
  have HGET := Aside0.mk (HX.out.get HS0S.out hr)
  have HZ3 := Aside0.mk (show ∀ k, (⟨g2, gm2, u2, ws⟩ : Dic).F k → k < w3.heap.size from fun k hk => HX.out.db.lt k hk)
  clear HCu hlo HOK hb9 HB HB9 HD1 HR1 HR2 HX hs0 hr
  go_wp2_with fail
  refine HGET.out.mono ?_
  rintro e w4 ⟨A2, c2, A4, c4, v1, rfl, hR2, hR4, hx⟩
  have HR2 := Aside0.mk hR2
  have HR4 := Aside0.mk hR4
  have HX := Aside0.mk hx
  clear HGET hR2 hR4 hx
  go_wp2_with fail
  have hal : Below w4.heap.size w4 (w4.alloc (.cells #[.string m.f0, .int .i64 m.f1, .slice A2 m.f2.length c2, .int .i64 m.f3, .slice A4 m.f4.length c4, .int .i64 m.f5] 26)) := below_alloc (Below.refl _ _) _
  have hbox := blk_new w4 (.cells #[.string m.f0, .int .i64 m.f1, .slice A2 m.f2.length c2, .int .i64 m.f3, .slice A4 m.f4.length c4, .int .i64 m.f5] 26)
  generalize hwt : w4.alloc (.cells #[.string m.f0, .int .i64 m.f1, .slice A2 m.f2.length c2, .int .i64 m.f3, .slice A4 m.f4.length c4, .int .i64 m.f5] 26) = w5 at hal hbox ⊢
  obtain ⟨b10, hb10⟩ : ∃ b10, w4.heap.size = b10 := ⟨_, rfl⟩
  rw [hb10] at hbox ⊢
  have BK := Aside0.mk hbox
  have n0 := Aside0.mk (HX.out.below hal)
  have n1 := Aside0.mk (Kd.R_below HR2.out hal)
  have n2 := Aside0.mk (Kd.R_below HR4.out hal)
  clear HX HR2 HR4 hal hbox hwt hb10
  have HX := n0
  have HR2 := n1
  have HR4 := n2
  clear n0 n1 n2
  refine (curfault_at gc s' s'.code s'.fat w5 HX.out.cur rfl rfl).mono ?_
  rintro e w6 ⟨rfl, hb⟩
  have n0 := Aside0.mk (HX.out.below hb)
  have n1 := Aside0.mk (Kd.R_below HR2.out hb)
  have n2 := Aside0.mk (Kd.R_below HR4.out hb)
  have n3 := Aside0.mk (blk_below BK.out hb)
  clear HX HR2 HR4 BK hb
  have HX := n0
  have HR2 := n1
  have HR4 := n2
  have BK := n3
  clear n0 n1 n2 n3
  have z0 : w6.cell? ⟨b10, 0, none⟩ = some (.string m.f0) := (blk_cell BK.out 0).trans rfl
  have z1 : w6.cell? ⟨b10, 1, none⟩ = some (.int .i64 m.f1) := (blk_cell BK.out 1).trans rfl
  have z2 : w6.cell? ⟨b10, 2, none⟩ = some (.slice A2 m.f2.length c2) := (blk_cell BK.out 2).trans rfl
  have z3 : w6.cell? ⟨b10, 3, none⟩ = some (.int .i64 m.f3) := (blk_cell BK.out 3).trans rfl
  have z4 : w6.cell? ⟨b10, 4, none⟩ = some (.slice A4 m.f4.length c4) := (blk_cell BK.out 4).trans rfl
  have z5 : w6.cell? ⟨b10, 5, none⟩ = some (.int .i64 m.f5) := (blk_cell BK.out 5).trans rfl
  rcases HSS.out.cases with ⟨hf1, hf2, hf3⟩ | ⟨hf1, hf2⟩
  ·have hcb : (s'.code == 0) = true := by rw [hf2]; rfl
   have hfb : (s'.fat == 0) = true := by rw [hf3]; rfl
   have htk := gmet_took (ws := ws) (s := s0) (by rw [← HS0.out]; rfl) (by rw [← HS0.out]; exact HLB.out) HW.out (by rw [HGR.out]; exact hf1)
   rw [HGR.out] at htk
   obtain ⟨h0, ht, hdi, hT, hw2⟩ := htk
   simp only at h0 ht hdi hT hw2
   obtain ⟨p, hp⟩ : ∃ p, (pmet ws m).1 = p := ⟨_, rfl⟩
   have hpm : pmet ws m = (p, ws') := by rw [hw2, ← hp]
   rw [hp] at hT
   have hmi := metIn_of h0 hdi
   have hpc : pcode ws m = 0 := by
    unfold pcode
    rw [if_pos h0, if_pos ht, if_neg (by have := HWL.out; omega)]
   obtain ⟨hmf, hok⟩ := metF_of HR2.out HR4.out hmi
   have HMF := Aside0.mk hmf
   have HOKM := Aside0.mk (show ∀ k, okM A2 m.f2.length c2 A4 m.f4.length c4 k → ¬ (⟨g2, gm2, u2, ws⟩ : Dic).F k from fun k hk hF => by have a := (hok k hk).1; have c := HZ3.out k hF; omega)
   have HPUT := Aside0.mk (HX.out.put hmf HOKM.out (fun k hk => (hok k hk).2) hpc hpm)
   have HIS := Aside0.mk (fun (W : World) (hW : MetC m A2 c2 A4 c4 W) => mis_true m A2 c2 A4 c4 W hW hmi (by have := (metParts h0).2.2.2.2.1.1; omega))
   rw [decide_eq_true h0, ht, Bool.true_and] at HIS
   obtain ⟨t1, t2, t3⟩ := hT
   obtain ⟨n, hn⟩ : ∃ n, s'.pos = n := ⟨_, rfl⟩
   have hnp : n = p.length := by rw [← hn, t1, ← HS0.out]; show 0 + p.length = _; omega
   have hnb : n ≤ b.length := by rw [← HS0.out] at t2; have : 0 + p.length ≤ b.length := t2; omega
   have hnt : b.take n = p := by rw [← HS0.out] at t3; rw [hnp]; exact t3
   have HAT := Aside0.mk (fun (W : World) (hW : CurAt ok gc s' W) => curat_calls gc s' W hW)
   rw [hn] at HAT
   have hn0 : decide (0 ≤ (n : Int)) = true := decide_eq_true (by omega)
   have hn1 : decide ((n : Int) ≤ (b.length : Int)) = true := decide_eq_true (by omega)
   have hn2 : (n ≤ b.length) = True := eq_true hnb
   have hn3 : (n ≤ c1) = True := eq_true (Nat.le_trans hnb HCAP.out)
   have HN := Aside0.mk (And.intro hnp (And.intro hnb hnt))
   clear hf1 hf2 hf3 h0 ht hdi hw2 hp hpm hmi hpc hmf hok t1 t2 t3 hn hnp hnb hnt
   go_wp2_with fail
   refine HPUT.out.mono ?_
   rintro e w7 ⟨A7, c7, u3, rfl, hR, hx, hg⟩
   have n0 := Aside0.mk (dic_blk (by decide) (by decide) HX.out.db hg BK.out)
   have n1 := Aside0.mk (HMF.out.step hg (fun k hk ho => HOKM.out k ho hk))
   have n2 := Aside0.mk hx
   have HR7 := Aside0.mk hR
   clear BK HMF HX HR2 HR4 HPUT hR hx hg z0 z1 z2 z3 z4 z5 HOKM HZ3
   have BK := n0
   have HMF := n1
   have HX := n2
   clear n0 n1 n2
   have z0 : w7.cell? ⟨b10, 0, none⟩ = some (.string m.f0) := (blk_cell BK.out 0).trans rfl
   have z1 : w7.cell? ⟨b10, 1, none⟩ = some (.int .i64 m.f1) := (blk_cell BK.out 1).trans rfl
   have z2 : w7.cell? ⟨b10, 2, none⟩ = some (.slice A2 m.f2.length c2) := (blk_cell BK.out 2).trans rfl
   have z3 : w7.cell? ⟨b10, 3, none⟩ = some (.int .i64 m.f3) := (blk_cell BK.out 3).trans rfl
   have z4 : w7.cell? ⟨b10, 4, none⟩ = some (.slice A4 m.f4.length c4) := (blk_cell BK.out 4).trans rfl
   have z5 : w7.cell? ⟨b10, 5, none⟩ = some (.int .i64 m.f5) := (blk_cell BK.out 5).trans rfl
   go_wp2_with fail
   refine (HIS.out w7 HMF.out.metC).mono ?_
   rintro e w8 ⟨rfl, hb⟩
   have n0 := Aside0.mk (HX.out.below hb)
   have n1 := Aside0.mk (Kd.R_below HR7.out hb)
   clear HX HR7 BK HMF HIS hb z0 z1 z2 z3 z4 z5
   have HX := n0
   have HR7 := n1
   clear n0 n1
   go_wp2_with fail
   refine (HAT.out w8 HX.out.cur).mono ?_
   rintro e w9 ⟨rfl, hd⟩
   have n0 := Aside0.mk (HX.out.below hd.below)
   have n1 := Aside0.mk (Kd.R_below HR7.out hd.below)
   clear HX HR7 hd
   have HX := n0
   have HR7 := n1
   clear n0 n1
   go_wp2_with fail
   refine (HAT.out w9 HX.out.cur).mono ?_
   rintro e wa ⟨rfl, hd⟩
   have n0 := Aside0.mk (HX.out.below hd.below)
   have n1 := Aside0.mk (Kd.R_below HR7.out hd.below)
   clear HX HR7 hd
   have HX := n0
   have HR7 := n1
   clear n0 n1
   go_wp2_with fail
   refine (HAT.out wa HX.out.cur).mono ?_
   rintro e wb ⟨rfl, hd⟩
   have n0 := Aside0.mk (HX.out.below hd.below)
   have n1 := Aside0.mk (Kd.R_below HR7.out hd.below)
   clear HX HR7 hd
   have HX := n0
   have HR7 := n1
   clear n0 n1
   have HSM : Aside0 (Calls Try.prog 16 #[.slice A7 p.length c7, .slice A1 n c1] wb fun e w' => e = .returned (.bool true) ∧ Drawn0 wb w') := ⟨by
    obtain ⟨A, c, e, hle, hC⟩ := Kd.R_reads HR7.out
    injection e with e1 e2 e3
    subst e1 e3
    have hCt := C_take (Kd.C_below HC1.out HX.out.bel) n HN.out.2.1
    have h := forebaylaw16_same.calls A7 c7 p A1 c1 p true wb hC hle (by rw [← HN.out.1, ← HN.out.2.2]; rw [HN.out.2.2] at *; exact hCt) (by rw [← HN.out.1]; exact Nat.le_trans HN.out.2.1 HCAP.out) (by unfold forebaylaw16_same.f; simp)
    rw [← HN.out.1] at h
    rw [← HN.out.1]
    exact h⟩
   go_wp2_with fail
   refine HSM.out.mono ?_
   rintro e wc ⟨rfl, hd⟩
   have n0 := Aside0.mk (HX.out.below hd.below)
   clear HX HR7 HSM HN hn0 hn1 hn2 hn3 hd HAT
   have HX := n0
   clear n0
   have HLW : Aside0 (ws'.length ≤ 1000000) := ⟨by have := HX.out.da.few; have h2 : ws'.length ≤ 65536 := this; omega⟩
   go_wp2_with fail
   refine (dicwords_calls ⟨g1, gm1, v1, ws'⟩ wc HX.out.da).mono ?_
   rintro e wd ⟨x1, rfl, hr, hb⟩
   obtain ⟨B1, e1, rfl, hle1, hC⟩ := Kd.R_reads hr
   have HB1 := Aside0.mk hC
   have HE1 := Aside0.mk hle1
   have n0 := Aside0.mk (HX.out.below hb)
   clear HX hr hle1 hC hb
   have HX := n0
   clear n0
   go_wp2_with fail
   refine (dicwords_calls ⟨g2, gm2, u3, ws'⟩ wd HX.out.db).mono ?_
   rintro e we ⟨x2, rfl, hr, hb⟩
   obtain ⟨B2, e2, rfl, hle2, hC⟩ := Kd.R_reads hr
   have HTX := Aside0.mk (texts_same B1 e1 B2 e2 ws' we (Kd.C_below HB1.out hb) HE1.out hC hle2 HLW.out)
   have HBL := Aside0.mk (HX.out.below hb).bel
   clear HX hr hle2 hC hb HB1 HE1
   go_wp2_with fail
   refine HTX.out.mono ?_
   rintro e wg ⟨rfl, hd⟩
   have n0 := Aside0.mk (below_step HBL.out hd.below)
   clear HBL HTX hd
   go_wp2_with fail
   refine (awake16_calls wg).mono ?_
   rintro e wh ⟨rfl, hb⟩
   have n1 := Aside0.mk (below_step n0.out hb)
   clear n0 hb
   go_wp2
   go_ret
   exact ⟨rfl, n1.out⟩
  ·have hcb : (s'.code == 0) = false := beq_eq_false_iff_ne.mpr hf2
   have hm : m = recZ := by have h := gmet_no (ws := ws) (s := s0) (by rw [HGR.out]; exact hf1); rw [HGR.out] at h; exact h
   obtain ⟨hmf, hok⟩ := metF_of HR2.out HR4.out (by rw [hm]; decide +kernel)
   have HEQ := Aside0.mk (mequal16 m recZ A2 c2 A4 c4 none 0 none 0 w6 hmf.metC ⟨Kd.C_nil _ _, Nat.le_refl _, Kd.C_nil _ _, Nat.le_refl _, fun x hx => absurd hx (by simp [recZ]), fun x hx => absurd hx (by simp [recZ]), by decide⟩ (by rw [hm]; decide) (by rw [hm]; decide) hm)
   have HBL := Aside0.mk HX.out.bel
   clear hf1 hf2 hm hmf hok HX
   go_wp2_with fail
   refine HEQ.out.mono ?_
   rintro e w7 ⟨rfl, hb⟩
   have n0 := Aside0.mk (below_step HBL.out hb)
   clear hb HBL HEQ z0 z1 z2 z3 z4 z5 BK
   go_wp2_with fail
   refine (awake16_calls w7).mono ?_
   rintro e w8 ⟨rfl, hb⟩
   have n1 := Aside0.mk (below_step n0.out hb)
   clear hb n0
   go_wp2
   go_ret
   exact ⟨rfl, n1.out⟩
namespace recOnly
open Go.ChangeShapes Go.WideShapes Go.ChangeAt Go.RowKit
open Go.ChangeMaps (open_string shut_string)
theorem own : ownKnob Try.prog.godebug = none := by kernel_rfl
theorem laidOut : laidOutB Try.prog = true := by kernel_rfl
set_option maxRecDepth 100000 in
theorem lifted (os : Os) (started : os.Started) (H : Type) (enc : TypeId × Value → H) :
  ReturnsInHanded {} Try.checked os 6 .any (Rows.recOnlySpec.pre6 enc Try.prog Try.f6 Rows.recOnlyRow.domain false) (Rows.recOnlySpec.post enc Try.prog Try.f6 false true false false) := by
 refine returnsInHanded_of_change_sized (C := Try.checked) own started (by kernel_rfl) Try.func6
  (ChangeSpec.witness6 (enc := enc) (C := Try.checked) false ⟨#[], #[.slice none 0 0, .slice none 0 0], []⟩ 8 (by kernel_rfl) (by kernel_rfl) (by kernel_rfl) (by kernel_rfl)) ?_
 intro W base args ds gs before hval0 hW hcnd hsz0 _
 have hsz : (DataW.weightsEach Try.prog (Try.f6.params.toList ++ Rows.recOnlySpec.plain.varTypes Try.prog) (ds ++ gs)).all (· ≤ reachBytes) = true := hsz0
 have hval : ∀ (j : Nat) t v, Try.f6.params[j]? = some t → args[j]? = some v → Value.okWide Try.prog W .any base t v := hval0
 have hW' := hW
 obtain ⟨p, q, hA0, hV, rfl, hfz, hnd⟩ := hW
 have hA : DataW.TrodAll enc Try.prog W 0 (fun _ => true) true Try.f6.params.toList args.toList ds p := hA0
 rw [Try.params6] at hA hval hsz
 obtain ⟨v0, vs0, d0, ds0, p0, q0, hargs, rfl, rfl, h0, r0⟩ := trodAll_cons hA
 obtain ⟨v1, vs1, d1, ds1, p1, q1, rfl, rfl, rfl, h1, r1⟩ := trodAll_cons r0
 obtain ⟨rfl, rfl, rfl⟩ := trodAll_nil r1
 obtain rfl : args = #[v0, v1] := by cases args; simp_all
 obtain ⟨rfl, rfl⟩ := trodVars_none hV
 obtain ⟨a0, len0, cap0, rfl⟩ := okWide_slice Try.underlying22 (hval 0 22 v0 rfl rfl)
 have k0 := h0
 have lt0 : ∀ x ∈ p0, x.block < W.heap.size := by obtain ⟨m, hm⟩ := k0; exact DataW.trod_lt m _ _ _ hm
 have y0 : len0 * 16 ≤ 140737488351232 := sized_strs hsz (j := 0) (t := 22) rfl rfl Try.underlying22 Try.underlying9 (by kernel_rfl) (by kernel_rfl) h0
 obtain ⟨l0, c0, b0, e0⟩ := open_srow Try.underlying22 Try.underlying9 (by kernel_rfl) (by omega) h0
 obtain rfl := c0.1.symm
 obtain ⟨a1, len1, cap1, rfl⟩ := okWide_slice Try.underlying34 (hval 1 34 v1 rfl rfl)
 have k1 := h1
 have lt1 : ∀ x ∈ p1, x.block < W.heap.size := by obtain ⟨m, hm⟩ := k1; exact DataW.trod_lt m _ _ _ hm
 have y1 : len1 * 1 ≤ 140737488351232 := sized_ints hsz (j := 1) (t := 34) rfl rfl Try.underlying34 Try.underlying5 (by kernel_rfl) (by kernel_rfl) h1
 obtain ⟨l1, c1, b1, e1⟩ := open_row Try.underlying34 Try.underlying5 (by kernel_rfl) (by omega) h1
 obtain rfl := c1.1.symm
 clear hA0 hval0 hsz0 hsz
 refine (recOnly_walk a0 cap0 l0 a1 cap1 l1 W c0 b0 y0 e0 c1 b1 y1 e1).mono fun e W' ⟨he, bel⟩ => ?_
 subst he
 exact ⟨_, rfl, _, _, _, [], _, [], hW', trodAll_mk1 (shut_bool Try.underlying4 _), (trodAll_cons_mk (Below.trod laidOut (by kernel_rfl) (of_decide_eq_true (by kernel_rfl)) k0 bel lt0) (trodAll_cons_mk (Below.trod laidOut (by kernel_rfl) (of_decide_eq_true (by kernel_rfl)) k1 bel lt1) trodAll_mk0)), rfl, bel.frame _, fun h => by cases h⟩
theorem over : Rows.recOnlyRow.holds Try.pinned (OpenSpec.ofChange Rows.recOnlySpec) :=
 OpenClaim.holds_of_wide 6 Try.f6 rfl rfl rfl rfl rfl rfl rfl ⟨rfl, rfl, rfl, rfl, rfl⟩ rfl rfl rfl rfl rfl (by kernel_rfl) Try.func6 (by kernel_rfl)
  (of_decide_eq_true (by kernel_rfl)) (by unfold Func.isWrapper; first | (rw [if_pos (by decide +kernel)]; kernel_rfl) | (rw [if_neg (by decide +kernel)]; exact ⟨rfl, rfl⟩))
  (fun os started H enc _ => lifted os started H enc)
theorem proved : Rows.RecOnlySaid := over
end recOnly
theorem recOnly_holds : Rows.RecOnlySaid := recOnly.proved
#print axioms recOnly_holds
end Go.Proofs.Ytclbmdblalgdjaa
