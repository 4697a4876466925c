/- The document's dictionary: Get: what it tells and turns; no condition. -/
import Derived.Test.YtmbfjaogimkncaaRefCur
namespace Go.Proofs.Ytmbfjaogimkncaa
open Go.RowKit Go.Proofs.YtmbfjaogimkncaaW.PrintWords Go.Proofs.YtmbfjaogimkncaaW.PrintLast Go.Proofs.YtmbfjaogimkncaaW.PrintMore
set_option linter.unusedVariables false
set_option linter.unusedSimpArgs false
/-- The document's Cur and dictionary, apart. -/
structure RG (B g : Nat) (d : RDic) (s : Cu) (w W : World) : Prop where
  cur : RCuAt B g s W
  dic : RDicAt d W
  chg : Chg (fun k => k = g) w W
  ap : ¬ d.F g
  lo : ∀ k, d.F k → B ≤ k
section
variable {B g : Nat} {d : RDic} {s s' : Cu} {w W W' : World}
theorem RG.turn (h : RG B g d s w W) (hc : RCuAt B g s' W') (hg : Chg (fun k => k = g) W W') : RG B g d s' w W' :=
  ⟨hc, h.dic.step hg (fun k hk (e : k = g) => h.ap (e ▸ hk)), h.chg.trans hg (fun _ h => .inl h), h.ap, h.lo⟩
theorem RG.below (h : RG B g d s w W) (hb : Below W.heap.size W W') : RG B g d s w W' := ⟨h.cur.below hb, h.dic.below hb, h.chg.below hb, h.ap, h.lo⟩
end
def RGetPost (B g : Nat) (d : RDic) (r : ByteArray × Cu × List ByteArray) (w : World) (e : Ending) (w' : World) : Prop :=
  e = .returned (.string r.1) ∧ RCuAt B g r.2.1 w' ∧ ∃ v', RDicAt ⟨d.g, v', r.2.2⟩ w' ∧ Chg (fun k => k = g ∨ d.F k) w w' ∧ (v'.ownBlock = d.v.ownBlock ∨ ∃ k, v'.ownBlock = some k ∧ w.heap.size ≤ k)
theorem RG.post_at {B g : Nat} {d : RDic} {s : Cu} {w W : World} (h : RG B g d s w W) {t : ByteArray} {r : ByteArray × Cu × List ByteArray} (hr : r = (t, s, d.ws)) {e : Ending} (he : e = .returned (.string t)) : RGetPost B g d r w e W := by
  subst hr
  subst he
  exact ⟨rfl, h.cur, d.v, h.dic, h.chg.mono (fun _ _ h => .inl h), .inl rfl⟩
theorem number2 {B : Nat} (g : Nat) {s s' : Cu} {n : Nat} {w : World} (h : RCuAt B g s w) (hs : s.sane) (hv : s.vread = (n, s')) : Calls Try.prog 65 #[.pointer (some ⟨g, 0, none⟩)] w fun e w' => e = .returned (.int .u64 (n : Nat)) ∧ RCuAt B g s' w' ∧ Chg (fun k => k = g) w w' := by
  have h2 := number_calls g s w h hs
  rw [hv] at h2
  exact h2
theorem rtake_at {B : Nat} (g : Nat) (s : Cu) (n : Nat) (hn : n ≤ 200) (w : World) (h : RCuAt B g s w) (hs : s.fine = true) {s3 : Cu} (h3 : s.take n = s3) {t : ByteArray} (ht : strOfNums (s.takeL n) = t) : Calls Try.prog 67 #[.pointer (some ⟨g, 0, none⟩), .int .i64 n] w fun e w' => ∃ A m c, e = .returned (.slice A m c) ∧ (convert 22 9 (.slice A m c)).run Try.prog w' = .ok (.string t) w' ∧ RCuAt B g s3 w' ∧ Chg (fun k => k = g) w w' := by
  refine (rtake_calls g s n hn w h hs).mono ?_
  rintro e w' ⟨v, rfl, hv, hc, hg⟩
  obtain ⟨A, c, rfl, _, hC⟩ := Kd.R_reads hv
  rw [h3] at hc
  refine ⟨A, _, c, rfl, ?_, hc, hg⟩
  rw [← ht]
  exact Kd.C_string uB (by kernel_rfl) (by kernel_rfl) hC
set_option maxHeartbeats 8000000 in
set_option maxRecDepth 100000 in
theorem rget_calls {B : Nat} (d : RDic) (g : Nat) (s : Cu) (kind num : Int) (hnum : (betB kind 1 4 = false ∧ num = 0) ∨ (betB kind 1 4 = true ∧ num = kind)) (w : World) (h : RG B g d s w w) (hs : s.sane) (hsh : ∀ x ∈ d.ws, x.size ≤ 200) :
    Calls Try.prog 37 #[.pointer (some ⟨d.g, 0, none⟩), .pointer (some ⟨g, 0, none⟩), .int .i64 num] w (RGetPost B g d (dget d.ws s kind) w) := by
  have HG := Aside0.mk h
  have HS := Aside0.mk hs
  have HSH := Aside0.mk hsh
  have c1 := (blk_cell h.cur.blk 1).trans rfl
  have c2 := (blk_cell h.cur.blk 2).trans rfl
  clear h hsh
  rcases hs.cases with ⟨hf1, hf2, hf3⟩ | ⟨hf1, hf2⟩
  · have HF1 := Aside0.mk hf1
    have b1 : (s.code != 0) = false := by simp [hf2]
    clear hf1 hf2 hf3 hs
    rcases hnum with ⟨hk, hn0⟩ | ⟨hk, hnk⟩
    · have HE := Aside0.mk (show dget d.ws s kind = (ByteArray.empty, s.fail 1 s.pos, d.ws) by unfold dget; rw [if_neg (by rw [HF1.out]; decide), if_pos hk])
      have b2 : (num == 0) = true := by simp [hn0]
      clear hk hn0
      go_enter Try.func37, Try.ntmps37
      go_wp2_with fail
      with_reducible refine (rfail_calls g s 1 s.pos _ HG.out.cur HS.out).mono ?_
      rintro e w_ ⟨rfl, hc, hg⟩
      have n0 := Aside0.mk (RG.turn HG.out hc hg)
      clear HG hc hg
      have HG := n0
      clear n0
      go_wp2
      go_ret
      exact HG.out.post_at HE.out rfl
    · subst hnk
      have HK := Aside0.mk hk
      have hkr : 1 ≤ num ∧ num ≤ 4 := by have := hk; simp only [betB, Bool.and_eq_true, decide_eq_true_eq] at this; exact this
      have HKR := Aside0.mk (show 0 ≤ num ∧ num ≤ 4 by omega)
      have b2 : (num == 0) = false := beq_eq_false_iff_ne.mpr (by omega)
      obtain ⟨n, hn⟩ : ∃ n, s.vread.1 = n := ⟨_, rfl⟩
      obtain ⟨s1, hs1⟩ : ∃ s1, s.vread.2 = s1 := ⟨_, rfl⟩
      have HN := Aside0.mk hn
      have HS1 := Aside0.mk hs1
      have HR := Aside0.mk (show s.vread = (n, s1) by rw [← hn, ← hs1])
      have hn64 := vread_lt s HG.out.cur.bytes
      have hsane1 := HS.out.vread
      rw [hn] at hn64
      rw [hs1] at hsane1
      have HSA := Aside0.mk hsane1
      clear hn hs1 hsane1 hk hkr
      go_enter Try.func37, Try.ntmps37
      go_wp2_with fail
      with_reducible refine (number2 g HG.out.cur HS.out HR.out).mono ?_
      rintro e w_ ⟨rfl, hc, hg⟩
      have n0 := Aside0.mk (RG.turn HG.out hc hg)
      clear HG hc hg
      have HG := n0
      clear n0
      clear c1 c2
      have c1 := (blk_cell HG.out.cur.blk 1).trans rfl
      have c2 := (blk_cell HG.out.cur.blk 2).trans rfl
      rcases HSA.out.cases with ⟨hf1, hf2, hf3⟩ | ⟨hf1, hf2⟩
      · have HG1 := Aside0.mk hf1
        have b3 : (s1.code != 0) = false := by simp [hf2]
        clear hf1 hf2 hf3
        obtain ⟨A, c, hv, hc, hC⟩ := HG.out.dic.slice
        have HV := Aside0.mk hv
        have HC := Aside0.mk hC
        have d0 := (blk_cell HG.out.dic.blk 0).trans rfl
        rw [hv] at d0
        have hlen := HG.out.dic.few
        have hlu : IntKind.u64.wrap (d.ws.length : Int) = (d.ws.length : Int) := wrap_u64_nat (by omega)
        clear hv hC
        by_cases hn0 : 0 < n
        · have HN0 := Aside0.mk (show ¬ n = 0 by omega)
          by_cases hgt : d.ws.length < n
          · have HE := Aside0.mk (show dget d.ws s num = (ByteArray.empty, s1.fail 25 s.pos, d.ws) by unfold dget; rw [if_neg (by rw [HF1.out]; decide), if_neg (by rw [HK.out]; decide), HS1.out, if_neg (by rw [HG1.out]; decide), HN.out, if_neg HN0.out, if_pos hgt])
            go_wp2_with fail
            with_reducible refine (rfail_calls g s1 25 s.pos _ HG.out.cur HSA.out).mono ?_
            rintro e w_ ⟨rfl, hc, hg⟩
            have n0 := Aside0.mk (RG.turn HG.out hc hg)
            clear HG hc hg
            have HG := n0
            clear n0
            go_wp2
            go_ret
            exact HG.out.post_at HE.out rfl
          · have hle : n ≤ d.ws.length := by omega
            have HGT := Aside0.mk hgt
            obtain ⟨ad, e, hx⟩ := str_at HC.out ((n : Int) - 1) (by omega) (by omega)
            cases e
            rw [show ((n : Int) - 1).toNat = n - 1 by omega] at hx
            obtain ⟨t, ht⟩ : ∃ t, d.ws.getD (n - 1) ByteArray.empty = t := ⟨_, rfl⟩
            rw [ht] at hx
            have HT := Aside0.mk ht
            have HX := Aside0.mk hx
            have hwi : IntKind.u64.wrap ((n : Int) - 1) = (n : Int) - 1 := IntWalk.u64_in _ (by omega)
            have hix : ((n : Int) - 1).toNat = n - 1 := by omega
            have hi0 : 0 ≤ (n : Int) - 1 := by omega
            have hi1 : (n : Int) - 1 < (d.ws.length : Int) := by omega
            have hts : t.size ≤ 200 := by
              rw [← ht, List.getD_eq_getElem?_getD, List.getElem?_eq_getElem (by omega)]
              exact HSH.out _ (List.getElem_mem _)
            have HBD := Aside0.mk (fun W : World => refbad_calls num t W HKR.out (by omega))
            obtain ⟨bi, hbi⟩ : ∃ bi, badI (clsB num) t = bi := ⟨_, rfl⟩
            rw [hbi] at HBD
            have HBI := Aside0.mk hbi
            clear ht hgt hbi
            by_cases hbad : 0 ≤ bi
            · have HE := Aside0.mk (show dget d.ws s num = (ByteArray.empty, s1.fail 14 s.pos, d.ws) by unfold dget; rw [if_neg (by rw [HF1.out]; decide), if_neg (by rw [HK.out]; decide), HS1.out, if_neg (by rw [HG1.out]; decide), HN.out, if_neg HN0.out, if_neg (by have := HGT.out; omega), HT.out, HBI.out, if_pos hbad])
              go_wp2_with fail
              with_reducible refine (Calls.dB (HBD.out _)).mono ?_
              rintro e w_ ⟨rfl, hb⟩
              have n0 := Aside0.mk (RG.below HG.out hb)
              clear HG hb
              have HG := n0
              clear n0
              go_wp2_with fail
              with_reducible refine (rfail_calls g s1 14 s.pos _ HG.out.cur HSA.out).mono ?_
              rintro e w_ ⟨rfl, hc, hg⟩
              have n0 := Aside0.mk (RG.turn HG.out hc hg)
              clear HG hc hg
              have HG := n0
              clear n0
              go_wp2
              go_ret
              exact HG.out.post_at HE.out rfl
            · have HE := Aside0.mk (show dget d.ws s num = (t, s1, d.ws) by unfold dget; rw [if_neg (by rw [HF1.out]; decide), if_neg (by rw [HK.out]; decide), HS1.out, if_neg (by rw [HG1.out]; decide), HN.out, if_neg HN0.out, if_neg (by have := HGT.out; omega), HT.out, HBI.out, if_neg hbad])
              go_wp2_with fail
              with_reducible refine (Calls.dB (HBD.out _)).mono ?_
              rintro e w_ ⟨rfl, hb⟩
              have n0 := Aside0.mk (RG.below HG.out hb)
              have hx9 := pw_cell_below hb HX.out
              have d9 := (blk_cell n0.out.dic.blk 0).trans rfl
              rw [HV.out] at d9
              clear HG hb d0 hx c1 c2
              have HG := n0
              clear n0
              go_wp2
              go_ret
              exact HG.out.post_at HE.out rfl
        · have hnz : n = 0 := by omega
          subst hnz
          have HE0 := Aside0.mk (show dget d.ws s num = dfresh d.ws s1 num s.pos by unfold dget; rw [if_neg (by rw [HF1.out]; decide), if_neg (by rw [HK.out]; decide), HS1.out, if_neg (by rw [HG1.out]; decide), HN.out, if_pos rfl])
          by_cases hfull : 65536 ≤ d.ws.length
          · have HE := Aside0.mk (show dget d.ws s num = (ByteArray.empty, s1.fail 12 s.pos, d.ws) by rw [HE0.out]; unfold dfresh; rw [if_pos hfull])
            have b4 : ((d.ws.length : Int) == 65536) = true := by simp; omega
            clear hfull
            go_wp2_with fail
            with_reducible refine (rfail_calls g s1 12 s.pos _ HG.out.cur HSA.out).mono ?_
            rintro e w_ ⟨rfl, hc, hg⟩
            have n0 := Aside0.mk (RG.turn HG.out hc hg)
            clear HG hc hg
            have HG := n0
            clear n0
            go_wp2
            go_ret
            exact HG.out.post_at HE.out rfl
          · have b4 : ((d.ws.length : Int) == 65536) = false := by simp; omega
            have HFU := Aside0.mk hfull
            have HFL := Aside0.mk (show d.ws.length < 65536 by omega)
            obtain ⟨m, hm⟩ : ∃ m, s1.vread.1 = m := ⟨_, rfl⟩
            obtain ⟨s2, hs2⟩ : ∃ s2, s1.vread.2 = s2 := ⟨_, rfl⟩
            have HR2 := Aside0.mk (show s1.vread = (m, s2) by rw [← hm, ← hs2])
            have hm64 := vread_lt s1 HG.out.cur.bytes
            have hsane2 := HSA.out.vread
            rw [hm] at hm64
            rw [hs2] at hsane2
            have HSA2 := Aside0.mk hsane2
            clear hm hs2 hsane2 hfull
            go_wp2_with fail
            with_reducible refine (number2 g HG.out.cur HSA.out HR2.out).mono ?_
            rintro e w_ ⟨rfl, hc, hg⟩
            have n0 := Aside0.mk (RG.turn HG.out hc hg)
            clear HG hc hg
            have HG := n0
            clear n0
            clear c1 c2 d0 HC
            have c1 := (blk_cell HG.out.cur.blk 1).trans rfl
            have c2 := (blk_cell HG.out.cur.blk 2).trans rfl
            rcases HSA2.out.cases with ⟨hf1, hf2, hf3⟩ | ⟨hf1, hf2⟩
            · have HG2 := Aside0.mk hf1
              have b5 : (s2.code != 0) = false := by simp [hf2]
              have b6 : (s2.code == 0) = true := by simp [hf2]
              clear hf1 hf2 hf3
              by_cases h200 : 200 < m
              · have b7 : decide (200 < (m : Int)) = true := decide_eq_true (by omega)
                obtain ⟨s3, hs3⟩ : ∃ s3, s2.fail 12 s1.pos = s3 := ⟨_, rfl⟩
                have hnf : s3.fine = false := by rw [← hs3]; exact fail_fine HG2.out (by decide)
                have hsane3 := HSA2.out.fail 12 s1.pos
                rw [hs3] at hsane3
                have HS3 := Aside0.mk hs3
                have HE := Aside0.mk (show dget d.ws s num = (ByteArray.empty, s3, d.ws) by
                  rw [HE0.out]
                  have e2 : dfs2 s1 = s3 := by unfold dfs2; rw [HR2.out, if_pos h200]; exact hs3
                  have e3 : dfs3 s1 = s3 := by unfold dfs3; rw [e2, nf_take hnf]
                  unfold dfresh
                  rw [e3, if_neg HFU.out, if_pos hnf])
                have b8 : (s3.code != 0) = true := by
                  rcases hsane3 with h | h
                  · rw [hnf] at h; cases h
                  · exact bne_iff_ne.mpr h
                clear hs3 hnf hsane3 h200
                go_wp2_with fail
                with_reducible refine (rfail_calls g s2 12 s1.pos _ HG.out.cur HSA2.out).mono ?_
                rintro e w_ ⟨rfl, hc, hg⟩
                have n0 := Aside0.mk (RG.turn HG.out hc hg)
                clear HG hc hg
                have HG := n0
                clear n0
                rw [HS3.out] at HG
                clear c1 c2
                have c2 := (blk_cell HG.out.cur.blk 2).trans rfl
                go_wp2
                go_ret
                exact HG.out.post_at HE.out rfl
              · have b7 : decide (200 < (m : Int)) = false := decide_eq_false (by omega)
                have E2 := Aside0.mk (show dfs2 s1 = s2 by unfold dfs2; rw [HR2.out, if_neg h200])
                have E3 := Aside0.mk (show dfs3 s1 = s2.take m by unfold dfs3; rw [E2.out, HR2.out, Nat.min_eq_left (by omega)])
                have ET := Aside0.mk (show dfT s1 = strOfNums (s2.takeL m) by unfold dfT; rw [E2.out, HR2.out, Nat.min_eq_left (by omega)])
                have h200b : m ≤ 200 := by omega
                have HM2 := Aside0.mk h200b
                have hwm : wrap64 (m : Int) = (m : Int) := IntWalk.wrap64_in _ (by omega)
                have hsp : (s2.pos : Int) ≤ 140737488355328 := by have := HG.out.cur.le; have := HG.out.cur.big; omega
                have hwm2 : IntKind.i64.wrap (m : Int) = (m : Int) := IntWalk.i64_in _ (by omega)
                clear h200
                obtain ⟨s3, hs3⟩ : ∃ s3, s2.take m = s3 := ⟨_, rfl⟩
                obtain ⟨t, ht⟩ : ∃ t, strOfNums (s2.takeL m) = t := ⟨_, rfl⟩
                have HTS := Aside0.mk (show t.size ≤ 200 by rw [← ht]; exact str_take_size2 s2 m h200b)
                have hsane := HSA2.out.take m
                rw [hs3] at hsane E3
                rw [ht] at ET
                have HS3 := Aside0.mk hs3
                have HT := Aside0.mk ht
                have HSA3 := Aside0.mk hsane
                have HBD := Aside0.mk (fun W : World => refbad_calls num t W HKR.out (by have := HTS.out; omega))
                clear hs3 ht hsane
                go_wp2_with fail
                with_reducible refine (rtake_at g s2 m HM2.out _ HG.out.cur HG2.out HS3.out HT.out).mono ?_
                rintro e w_ ⟨A3, m3, c3, rfl, hcv, hc3, hg3⟩
                have n0 := Aside0.mk (RG.turn HG.out hc3 hg3)
                clear HG hc3 hg3
                have HG := n0
                clear n0 c1 c2
                have c2 := (blk_cell HG.out.cur.blk 2).trans rfl
                rcases HSA3.out.cases with ⟨hf1, hf2, hf3⟩ | ⟨hf1, hf2⟩
                · have HG3 := Aside0.mk hf1
                  have b8 : (s3.code != 0) = false := by simp [hf2]
                  clear hf1 hf2 hf3
                  obtain ⟨bi, hbi⟩ : ∃ bi, badI (clsB num) t = bi := ⟨_, rfl⟩
                  have hble : bi ≤ 200 := by
                    have := badI_le (clsB num) t
                    have := HTS.out
                    omega
                  rw [hbi] at HBD
                  have HBI := Aside0.mk hbi
                  clear hbi
                  by_cases hbad : 0 ≤ bi
                  · have HE := Aside0.mk (show dget d.ws s num = (ByteArray.empty, s3.fail 14 ((s2.pos : Int) + bi), d.ws) by rw [HE0.out]; unfold dfresh; rw [E3.out, ET.out, E2.out, if_neg HFU.out, if_neg (by rw [HG3.out]; decide), HBI.out, if_pos hbad])
                    go_wp2_with fail
                    with_reducible refine (Calls.dB (HBD.out _)).mono ?_
                    rintro e w_ ⟨rfl, hb⟩
                    have n0 := Aside0.mk (RG.below HG.out hb)
                    clear HG hb
                    have HG := n0
                    clear n0
                    go_wp2_with fail
                    with_reducible refine (rfail_calls g s3 14 ((s2.pos : Int) + bi) _ HG.out.cur HSA3.out).mono ?_
                    rintro e w_ ⟨rfl, hc, hg⟩
                    have n0 := Aside0.mk (RG.turn HG.out hc hg)
                    clear HG hc hg
                    have HG := n0
                    clear n0
                    go_wp2
                    go_ret
                    exact HG.out.post_at HE.out rfl
                  · have HBD2 := Aside0.mk hbad
                    go_wp2_with fail
                    with_reducible refine (Calls.dB (HBD.out _)).mono ?_
                    rintro e w_ ⟨rfl, hb⟩
                    have n0 := Aside0.mk (RG.below HG.out hb)
                    clear HG hb c2 hcv
                    have HG := n0
                    clear n0
                    obtain ⟨kf, hkf⟩ : ∃ kf, findW d.ws t = kf := ⟨_, rfl⟩
                    have HP := Aside0.mk (find_pos d.ws t)
                    have hkl : kf ≤ d.ws.length := by rw [← hkf]; exact find_le _ _
                    have HFD := Aside0.mk (fun W (h : RDicAt d W) => rfind_calls d t W h)
                    rw [hkf] at HP HFD
                    have HKF := Aside0.mk hkf
                    clear hkf
                    go_wp2_with fail
                    with_reducible refine (Calls.dB (HFD.out _ HG.out.dic)).mono ?_
                    rintro e w_ ⟨rfl, hb⟩
                    have n0 := Aside0.mk (RG.below HG.out hb)
                    clear HG hb
                    have HG := n0
                    clear n0
                    by_cases h0 : 0 < kf
                    · have HE := Aside0.mk (show dget d.ws s num = (ByteArray.empty, s3.fail 21 s.pos, d.ws) by rw [HE0.out]; unfold dfresh; rw [E3.out, ET.out, E2.out, if_neg HFU.out, if_neg (by rw [HG3.out]; decide), HBI.out, if_neg (by have := HBD2.out; omega), HKF.out, if_pos h0])
                      go_wp2_with fail
                      with_reducible refine (rfail_calls g s3 21 s.pos _ HG.out.cur HSA3.out).mono ?_
                      rintro e w_ ⟨rfl, hc, hg⟩
                      have n0 := Aside0.mk (RG.turn HG.out hc hg)
                      clear HG hc hg
                      have HG := n0
                      clear n0
                      go_wp2
                      go_ret
                      exact HG.out.post_at HE.out rfl
                    · have HE := Aside0.mk (show dget d.ws s num = (t, s3, d.ws ++ [t]) by rw [HE0.out]; unfold dfresh; rw [E3.out, ET.out, E2.out, if_neg HFU.out, if_neg (by rw [HG3.out]; decide), HBI.out, if_neg (by have := HBD2.out; omega), HKF.out, if_neg h0])
                      have hR := HG.out.dic.row
                      rw [HV.out] at hR
                      have HRW := Aside0.mk hR
                      have c0 := (blk_cell HG.out.dic.blk 0).trans rfl
                      rw [HV.out] at c0
                      obtain ⟨n1, hn1⟩ : ∃ n1, n1 = d.ws.length + 1 := ⟨_, rfl⟩
                      have hn2 : n1 ≤ 65536 := by have := HFL.out; omega
                      have HN1 := Aside0.mk hn1
                      clear hn1 hR
                      obtain ⟨wa, rfl⟩ : ∃ wa : World, wa = w_ := ⟨_, rfl⟩
                      go_wp2_with (first | ((with_reducible refine gate_dst (N := 145) rfl ?_); at_builtin; go_must (refine R_app_str (v := .slice A d.ws.length c) rfl rfl rfl rfl uSs iSs HRW.out (Nat.zero_le _) (by have := HFL.out; omega) HN1.out ?_); intro g1 c1' w1 hr1 hg1 hat1 hlt1; have HR1 := Aside0.mk hr1; have HGR := Aside0.mk hg1; have HAT := Aside0.mk hat1; have hblk := (hg1.block _ (blk_lt HG.out.dic.blk) (by have h := HG.out.dic.own_g; rwa [HV.out] at h)).trans HG.out.dic.blk; have HBLK := Aside0.mk hblk; have f0 := blk_frozen hblk 0; have c01 := (blk_cell hblk 0).trans rfl; clear hr1 hg1 hat1 hblk))
                      have HBS := Aside0.mk ((blk_put HBLK.out 0 (.slice (some ⟨g1, 0, none⟩) n1 c1') rfl).trans rfl)
                      have hg1 : g1 ≠ d.g := by
                        have e1 := HG.out.dic.own_g
                        have e2 := blk_lt HG.out.dic.blk
                        rcases HAT.out with hat | hat
                        · rw [HV.out, ← hat] at e1
                          exact fun e => e1 (by rw [e])
                        · omega
                      have HD2 := Aside0.mk (show RDicAt ⟨d.g, .slice (some ⟨g1, 0, none⟩) n1 c1', d.ws ++ [t]⟩ (w1.setCell ⟨d.g, 0, none⟩ (.slice (some ⟨g1, 0, none⟩) n1 c1')) from by
                        refine ⟨HBS.out, Kd.R_step HR1.out (fun k hk hl => ?_), ?_⟩
                        · have e : k = g1 := by injection hk
                          subst e
                          exact Below.heap_setCell w1 _ _ k hg1
                        · rw [List.length_append]
                          have := HFL.out
                          show d.ws.length + 1 ≤ 65536
                          omega)
                      have hC1 : Chg d.F wa (w1.setCell ⟨d.g, 0, none⟩ (.slice (some ⟨g1, 0, none⟩) n1 c1')) := (Chg.of_grown HGR.out (fun k hk => .inr (by rw [HV.out, hk]))).setCell (.inl (.inl rfl)) _
                      go_wp2
                      go_ret
                      rw [HE.out]
                      have hsz := HG.out.chg.size
                      refine ⟨rfl, HG.out.cur.step hC1 (fun k hk => HG.out.lo k hk) HG.out.ap, _, HD2.out, ?_, ?_⟩
                      · exact (HG.out.chg.mono (fun k _ h => Or.inl h)).trans (hC1.mono (fun k _ h => Or.inr h)) (fun k h => .inl h)
                      · rcases HAT.out with hat | hat
                        · left
                          rw [HV.out, ← hat]
                          rfl
                        · exact .inr ⟨g1, rfl, Nat.le_trans hsz hat⟩
                · have HE := Aside0.mk (show dget d.ws s num = (ByteArray.empty, s3, d.ws) by rw [HE0.out]; unfold dfresh; rw [E3.out, if_neg HFU.out, if_pos hf1])
                  have b8 : (s3.code != 0) = true := bne_iff_ne.mpr hf2
                  clear hf1 hf2
                  go_wp2
                  go_ret
                  exact HG.out.post_at HE.out rfl
            · have b5 : (s2.code != 0) = true := bne_iff_ne.mpr hf2
              have b6 : (s2.code == 0) = false := beq_eq_false_iff_ne.mpr hf2
              have HE := Aside0.mk (show dget d.ws s num = (ByteArray.empty, s2, d.ws) by
                rw [HE0.out]
                have e2 : dfs2 s1 = s2 := by
                  unfold dfs2
                  rw [HR2.out]
                  split
                  · exact fail_off hf1 _ _
                  · rfl
                have e3 : dfs3 s1 = s2 := by unfold dfs3; rw [e2, nf_take hf1]
                unfold dfresh
                rw [e3, if_neg HFU.out, if_pos hf1])
              clear hf1 hf2
              go_wp2
              go_ret
              exact HG.out.post_at HE.out rfl
      · have HE := Aside0.mk (show dget d.ws s num = (ByteArray.empty, s1, d.ws) by unfold dget; rw [if_neg (by rw [HF1.out]; decide), if_neg (by rw [HK.out]; decide), HS1.out, if_pos hf1])
        have b3 : (s1.code != 0) = true := bne_iff_ne.mpr hf2
        clear hf1 hf2
        go_wp2
        go_ret
        exact HG.out.post_at HE.out rfl
  · have HE := Aside0.mk (show dget d.ws s kind = (ByteArray.empty, s, d.ws) by unfold dget; rw [if_pos hf1])
    have b1 : (s.code != 0) = true := bne_iff_ne.mpr hf2
    clear hf1 hf2 hs hnum
    go_enter Try.func37, Try.ntmps37
    go_wp2
    go_ret
    exact HG.out.post_at HE.out rfl
end Go.Proofs.Ytmbfjaogimkncaa
