/- DictGets: what the dictionary gets, the document's gets; and both have the same words then: its walk; no condition. -/
import Derived.Test.YtmbfjaogimkncaaGetsW
import Derived.Test.YtmbfjaogimkncaaLawKit
import Derived.Test.YtmbfjaogimkncaaRows
namespace Go.Proofs.Ytmbfjaogimkncaa
open Go.RowKit Go.Proofs.YtmbfjaogimkncaaW.PrintWords Go.Proofs.YtmbfjaogimkncaaW.PrintLast Go.Proofs.YtmbfjaogimkncaaW.PrintMore
set_option linter.unusedVariables false
set_option linter.unusedSimpArgs false
theorem cell_low {w : World} {a : Addr} {v : Value} (h : w.cell? a = some v) : a.block < w.heap.size := by
  rcases Nat.lt_or_ge a.block w.heap.size with hb | hb
  · exact hb
  · rw [World.cell?, Array.getElem?_eq_none hb] at h
    exact absurd h (by simp)
theorem C_low {w : World} {A : Option Addr} {n : Nat} {xs : List Int} (h : (Kd.int .u8).C w A n xs) : ∀ ad, A = some ad → 0 < n → ad.block < w.heap.size := by
  intro ad e hn
  obtain ⟨ad2, e2, hx⟩ := Kd.at_int h 0 (by omega) (by omega)
  rw [e] at e2
  injection e2 with e3
  subst e3
  have := cell_low hx
  rw [add_block] at this
  exact this
theorem at_w {w : World} {A : Option Addr} {n : Nat} {xs : List Int} (h : (Kd.int .i64).C w A n xs) (i : Int) (h0 : 0 ≤ i) (h1 : i < n) : ∃ ad, A = some ad ∧ ∀ W, Below w.heap.size w W → W.cell? (ad.add i.toNat) = some (.int .i64 (rd xs i)) := by
  obtain ⟨ad, e, hx⟩ := Kd.at_int h i h0 h1
  refine ⟨ad, e, fun W hb => ?_⟩
  exact pw_cell_below hb hx
attribute [local go_sem high] eqFault
set_option maxHeartbeats 16000000 in
set_option maxRecDepth 100000 in
theorem dictGets_walk (A0 : Option Addr) (c0 : Nat) (l : List ByteArray) (A1 : Option Addr) (c1 : Nat) (b : List Int) (A2 : Option Addr) (c2 : Nat) (ks : List Int) (w : World)
    (hC0 : Kd.string.C w A0 l.length l) (hwf0 : ∀ x ∈ l, x.size ≤ 9223372036854775807) (hsz0 : l.length * 16 ≤ 140737488351232) (hcap0 : l.length ≤ c0)
    (hC1 : (Kd.int .u8).C w A1 b.length b) (hwf1 : ∀ x ∈ b, (Lit.int .u8 x).wf = true) (hsz1 : b.length * 1 ≤ 140737488351232) (hcap1 : b.length ≤ c1)
    (hC2 : (Kd.int .i64).C w A2 ks.length ks) (hwf2 : ∀ x ∈ ks, (Lit.int .i64 x).wf = true) (hsz2 : ks.length * 8 ≤ 140737488351232) (hcap2 : ks.length ≤ c2) :
    Calls Try.prog 8 #[.slice A0 l.length c0, .slice A1 b.length c1, .slice A2 ks.length c2] w fun e w' => e = .returned (.bool true) ∧ Below w.heap.size w w' := by
  have HCW := Aside0.mk hC0
  have HC1 := Aside0.mk hC1
  have HC2 := Aside0.mk hC2
  have HLB := Aside0.mk (bytes_of_wf hwf1)
  have HFE := Aside0.mk (few15_calls A0 c0 l w hC0 hwf0)
  have HCAP := Aside0.mk hcap1
  have HLOW := Aside0.mk (C_low hC1)
  clear hC0 hwf0 hsz0 hC1 hwf1 hC2 hwf2 hcap1
  have HB := Aside0.mk (Below.refl w.heap.size w)
  cases hfew : fewB l with
  | false =>
    rw [hfew] at HFE
    clear hfew
    go_enter Try.func8, Try.ntmps8
    go_wp2_with fail
    with_reducible refine Calls.stepB (Calls.dB HFE.out) ⟨(by repeat (first | (with_reducible first | exact HB.out | apply below_alloc | apply pw_below_drewN | apply below_drew1) | exact HB.out))⟩ ?_
    clear HB
    intro w_ HK HB
    clear HK
    go_wp2_with fail
    with_reducible refine Calls.stepB (awake15_calls _) ⟨(by repeat (first | (with_reducible first | exact HB.out | apply below_alloc | apply pw_below_drewN | apply below_drew1) | exact HB.out))⟩ ?_
    clear HB
    intro w_ HK HB
    clear HK
    go_wp2
    go_ret
    exact ⟨rfl, (by repeat (first | (with_reducible first | exact HB.out | apply below_alloc | apply pw_below_drewN | apply below_drew1) | exact HB.out))⟩
  | true =>
    rw [hfew] at HFE
    have hfew2 : l.length ≤ 80 ∧ ∀ s ∈ l, s.size ≤ 300 := of_decide_eq_true hfew
    have hl80 := hfew2.1
    have HSZ := Aside0.mk hfew2.2
    clear hfew hfew2
    by_cases h400 : 400 < b.length
    · go_enter Try.func8, Try.ntmps8
      go_wp2_with fail
      with_reducible refine Calls.stepB (Calls.dB HFE.out) ⟨(by repeat (first | (with_reducible first | exact HB.out | apply below_alloc | apply pw_below_drewN | apply below_drew1) | exact HB.out))⟩ ?_
      clear HB
      intro w_ HK HB
      clear HK
      go_wp2_with fail
      with_reducible refine Calls.stepB (awake15_calls _) ⟨(by repeat (first | (with_reducible first | exact HB.out | apply below_alloc | apply pw_below_drewN | apply below_drew1) | exact HB.out))⟩ ?_
      clear HB
      intro w_ HK HB
      clear HK
      go_wp2
      go_ret
      exact ⟨rfl, (by repeat (first | (with_reducible first | exact HB.out | apply below_alloc | apply pw_below_drewN | apply below_drew1) | exact HB.out))⟩
    by_cases h40 : 40 < ks.length
    · go_enter Try.func8, Try.ntmps8
      go_wp2_with fail
      with_reducible refine Calls.stepB (Calls.dB HFE.out) ⟨(by repeat (first | (with_reducible first | exact HB.out | apply below_alloc | apply pw_below_drewN | apply below_drew1) | exact HB.out))⟩ ?_
      clear HB
      intro w_ HK HB
      clear HK
      go_wp2_with fail
      with_reducible refine Calls.stepB (awake15_calls _) ⟨(by repeat (first | (with_reducible first | exact HB.out | apply below_alloc | apply pw_below_drewN | apply below_drew1) | exact HB.out))⟩ ?_
      clear HB
      intro w_ HK HB
      clear HK
      go_wp2
      go_ret
      exact ⟨rfl, (by repeat (first | (with_reducible first | exact HB.out | apply below_alloc | apply pw_below_drewN | apply below_drew1) | exact HB.out))⟩
    have hb4 : b.length ≤ 400 := by omega
    have hk4 : ks.length ≤ 40 := by omega
    clear h400 h40
    go_enter Try.func8, Try.ntmps8
    go_wp2_with fail
    with_reducible refine Calls.stepB (Calls.dB HFE.out) ⟨(by repeat (first | (with_reducible first | exact HB.out | apply below_alloc | apply pw_below_drewN | apply below_drew1) | exact HB.out))⟩ ?_
    clear HB
    intro w_ HK HB
    clear HK
    go_wp2_with fail
    with_reducible refine Calls.stepNew HB ?_
    clear HB
    intro g gm w1 HD hnew HF hb1 HB
    have HDR := Aside0.mk (show DR ⟨g, gm, .slice none 0 0, []⟩ ⟨w1.heap.size, .slice none 0 0, []⟩ w (w1.alloc (.cells #[.slice none 0 0] 68)) from
      by
      refine ⟨HD.out.alloc _, ⟨blk_new _ _, Kd.R_nil _ _ _ _ _, by simp⟩, HF.out, ?_, ?_⟩
      · rintro k (rfl | hk)
        · exact below_size HB.out
        · cases hk
      · rintro k (rfl | hk) hF
        · have := HD.out.lt _ hF
          have e : w1.heap.size < w1.heap.size := this
          omega
        · cases hk)
    clear hnew hb1 HD HF
    go_wp2
    go_loopw [9] (fun v9 w' => ∃ (i : Int) (vd vr : Value), v9 = .int .i64 i ∧ 0 ≤ i ∧ i ≤ (l.length : Int) ∧ Aside0 (DR ⟨g, gm, vd, putsW [] (l.take i.toNat)⟩ ⟨w1.heap.size, vr, putsW [] (l.take i.toNat)⟩ w w') ∧ Aside0 (Below w.heap.size w w')) (fun v9 _ => l.length - (intOf v9).toNat)
    case atStart => exact ⟨0, _, _, rfl, by omega, by omega, HDR, ⟨below_alloc HB.out _⟩⟩
    case round =>
      clear HB HDR
      obtain ⟨i, vd, vr, rfl, hi0, hi, HDR, HB⟩ := hrel
      obtain ⟨ws, hws⟩ : ∃ ws, putsW [] (l.take i.toNat) = ws := ⟨_, rfl⟩
      rw [hws] at HDR
      have HWS := Aside0.mk hws
      clear hws
      obtain ⟨wo, rfl⟩ : ∃ wo : World, wo = wr := ⟨_, rfl⟩
      by_cases hlt : i < (l.length : Int)
      · obtain ⟨ad, e, hx0⟩ := str_at HCW.out i hi0 hlt
        cases e
        obtain ⟨s0, hs0⟩ : ∃ s, l.getD i.toNat ByteArray.empty = s := ⟨_, rfl⟩
        rw [hs0] at hx0
        have hs300 := HSZ.out s0 (by rw [← hs0]; exact getD_mem (by omega))
        have HNX := Aside0.mk (show putsW [] (l.take (i + 1).toNat) = (dput ws s0).2.2 by rw [putsW_take hi0 hlt, HWS.out, hs0])
        obtain ⟨xs, code, ws', he⟩ : ∃ xs code ws', dput ws s0 = (xs, code, ws') := ⟨_, _, _, rfl⟩
        rw [he] at HNX
        have HE := Aside0.mk he
        have HX0 := Aside0.mk hx0
        have hx1 := pw_cell_below HB.out hx0
        clear hs0 he hx0
        go_wp2_with fail
        with_reducible refine Calls.stepPut HE.out (by omega) ⟨HDR.out.dic⟩ ⟨HDR.out.df⟩ HB ?_
        clear HB
        intro A3 c3 vd1 w2 HD1 HF1 HG1 HN1 HR1 HB
        have HRD := Aside0.mk (HDR.out.ref.step HG1.out HDR.out.ap)
        have HAP := Aside0.mk (show ∀ k, (⟨w1.heap.size, vr, ws⟩ : RDic).F k → ¬ (⟨g, gm, vd1, ws'⟩ : Dic).F k from fun k hk hF => (HN1.out k hF).elim (HDR.out.ap k hk) (fun h => by have := HDR.out.ref.lt k hk; omega))
        have HRF := Aside0.mk HDR.out.rf
        have hx2 := pw_cell_below HB.out HX0.out
        clear HDR HG1 HN1 hx1
        go_wp2_with fail
        with_reducible refine Calls.stepRPut HE.out (by omega) HRD HRF HB ?_
        clear HB
        intro A4 c4 vr2 w3 HRD2 HRF2 HG2 HN2 HR2 HB
        have n1 := Aside0.mk (HD1.out.step HG2.out (fun k hk hF => HAP.out k hF hk))
        have n2 := Aside0.mk (show ∀ k, (⟨w1.heap.size, vr2, ws'⟩ : RDic).F k → ¬ (⟨g, gm, vd1, ws'⟩ : Dic).F k from fun k hk hF => (HN2.out k hk).elim (fun h => HAP.out k h hF) (fun h => by have := HD1.out.lt k hF; omega))
        have HDR := Aside0.mk (show DR ⟨g, gm, vd1, ws'⟩ ⟨w1.heap.size, vr2, ws'⟩ w w3 from ⟨n1.out, HRD2.out, HF1.out, HRF2.out, n2.out⟩)
        clear HR1 HR2 HD1 HRD HAP HG2 HN2 HRD2 HF1 HRF HRF2 n1 n2 hx2
        go_wp2
        go_roundw
        case rel => exact ⟨i + 1, vd1, vr2, by go_num, by omega, by omega, by rw [HNX.out]; exact HDR, HB⟩
        case measure => simp [intOf]; omega
      · go_wp2_with fail
        clear hlt hi hi0 HWS
        with_reducible refine Calls.stepCur (Kd.C_below HC1.out HB.out) HLB.out (by omega) HB ?_
        intro ok gc A' c' w3 HCu hlo HOK hb1 HB3
        have HX := Aside0.mk (show Gx ok gc w3.heap.size ⟨A', c', b, 0, 0, 0, false⟩ (Cu.re A1 c1 ⟨A', c', b, 0, 0, 0, false⟩) ⟨g, gm, vd, ws⟩ ⟨w1.heap.size, vr, ws⟩ w (w3.alloc (.cells #[.slice A1 b.length c1, .int .i64 0, .int .i64 0, .int .i64 0] 71)) from by
          have hl3 : wo.heap.size ≤ w3.heap.size := below_size hb1.out
          have hlw : w.heap.size ≤ w3.heap.size := below_size HB3.out
          refine ⟨HCu.out.below (below_alloc (Below.refl _ _) _), ⟨blk_new _ _, Kd.C_below HC1.out (below_alloc HB3.out _), HLOW.out, hlw, HCAP.out, Nat.zero_le _, by show b.length ≤ 140737488355328; omega, HLB.out⟩, (HDR.out.dic.below hb1.out).alloc _, (HDR.out.ref.below hb1.out).alloc _, ?_, ?_, ?_, ?_, ?_, HDR.out.ap, ?_, HDR.out.df, HDR.out.rf, below_alloc HB3.out _⟩
          · intro k hk hF
            have := hlo.out k hk
            have := HDR.out.dic.lt k hF
            omega
          · intro k hk hF
            have := hlo.out k hk
            have := HDR.out.ref.lt k hF
            omega
          · intro hk
            have := (HOK.out _ hk).2
            omega
          · intro hF
            have := HDR.out.dic.lt _ hF
            omega
          · intro hF
            have := HDR.out.ref.lt _ hF
            omega
          · intro k hk
            have h := HOK.out k hk
            refine ⟨h.1, Nat.lt_of_lt_of_le h.2 ?_⟩
            exact (below_alloc (Below.refl w3.heap.size w3) _).size)
        clear HCu hlo HOK hb1 HB HB3 HDR
        go_wp2
        go_loopw [12] (fun v12 w' => ∃ (i : Int) (s : Cu) (vd vr : Value) (ws : List ByteArray), v12 = .int .i64 i ∧ 0 ≤ i ∧ i ≤ (ks.length : Int) ∧ Aside0 s.sane ∧ Aside0 (Gx ok gc w3.heap.size s (Cu.re A1 c1 s) ⟨g, gm, vd, ws⟩ ⟨w1.heap.size, vr, ws⟩ w w')) (fun v12 _ => ks.length - (intOf v12).toNat)
        case atStart => exact ⟨0, _, _, _, _, rfl, by omega, by omega, ⟨sane0 ..⟩, HX⟩
        case round =>
          clear HX
          obtain ⟨i, s, vd, vr, ws, rfl, hi0, hi, HS, HX⟩ := hrel
          obtain ⟨wo, rfl⟩ : ∃ wo : World, wo = wr := ⟨_, rfl⟩
          by_cases hlt : i < (ks.length : Int)
          · obtain ⟨ad, e, hkw⟩ := at_w HC2.out i hi0 hlt
            cases e
            obtain ⟨kind, hkind⟩ : ∃ k, rd ks i = k := ⟨_, rfl⟩
            rw [hkind] at hkw
            have HKW := Aside0.mk hkw
            have hre := re_dget A1 c1 ws s kind
            have hsn := dget_sane (kind := kind) (ws := ws) HS.out
            obtain ⟨t, s', ws', he⟩ : ∃ t s' ws', dget ws s kind = (t, s', ws') := ⟨_, _, _, rfl⟩
            rw [he] at hre hsn
            have HE := Aside0.mk he
            have HE2 := Aside0.mk (show dget ws (Cu.re A1 c1 s) kind = (t, Cu.re A1 c1 s', ws') from hre)
            have HSN := Aside0.mk hsn
            have HSH := Aside0.mk (show ∀ x ∈ ws, x.size ≤ 200 from HX.out.dic.short)
            have HS2 := Aside0.mk (show (Cu.re A1 c1 s).sane from HS.out)
            clear hkw he hre hsn hkind
            go_wp2
            refine start_ (n := 34) (S := fun w' => w'.cell? (ad.add i.toNat) = some (.int .i64 kind)) (ds := []) #[false, false, false, false, false, false, false, false, false, false, false, false, false, false, false, false, false, false, false, false, false, false, false, false, false, false, false, false, false, false, false, false, false, false] (by kernel_rfl) rfl rfl (HKW.out _ HX.out.drew.bel) (fun hHeld => ?_)
            refine pure_ (i := 0) (N := some 59) (v := ?_) (a' := ?_) #[true, false, false, false, false, false, false, false, false, false, false, false, false, false, false, false, false, false, false, false, false, false, false, false, false, false, false, false, false, false, false, false, false, false] rfl rfl (by kernel_rfl) (fun _ _ _ h => h) (Or.inl ⟨by rfl, ?_⟩) ?_ ?_
            rotate_left
            · intro w'
              go_simp
              with_reducible rfl
            rotate_left
            · simp only [Act.put, List.setIfInBounds_toArray, List.set_cons_zero, List.set_cons_succ, i64_w, i32_w]
              rfl
            refine pure_ (i := 1) (N := some 60) (v := ?_) (a' := ?_) #[true, true, false, false, false, false, false, false, false, false, false, false, false, false, false, false, false, false, false, false, false, false, false, false, false, false, false, false, false, false, false, false, false, false] rfl rfl (by kernel_rfl) (fun _ _ _ h => h) (Or.inl ⟨by rfl, ?_⟩) ?_ ?_
            rotate_left
            · intro w'
              go_simp
              with_reducible rfl
            rotate_left
            · simp only [Act.put, List.setIfInBounds_toArray, List.set_cons_zero, List.set_cons_succ, i64_w, i32_w]
              rfl
            refine pure_ (i := 2) (N := some 61) (v := ?_) (a' := ?_) #[true, true, true, false, false, false, false, false, false, false, false, false, false, false, false, false, false, false, false, false, false, false, false, false, false, false, false, false, false, false, false, false, false, false] rfl rfl (by kernel_rfl) (fun _ _ _ h => h) (Or.inl ⟨by rfl, ?_⟩) ?_ ?_
            rotate_left
            · intro w'
              go_simp
              with_reducible rfl
            rotate_left
            · simp only [Act.put, List.setIfInBounds_toArray, List.set_cons_zero, List.set_cons_succ, i64_w, i32_w]
              rfl
            refine pure_ (i := 3) (N := some 62) (v := ?_) (a' := ?_) #[true, true, true, true, false, false, false, false, false, false, false, false, false, false, false, false, false, false, false, false, false, false, false, false, false, false, false, false, false, false, false, false, false, false] rfl rfl (by kernel_rfl) (fun _ _ _ h => h) (Or.inl ⟨by rfl, ?_⟩) ?_ ?_
            rotate_left
            · intro w'
              go_simp
              with_reducible rfl
            rotate_left
            · simp only [Act.put, List.setIfInBounds_toArray, List.set_cons_zero, List.set_cons_succ, i64_w, i32_w]
              rfl
            refine pure_ (i := 4) (N := some 63) (v := ?_) (a' := ?_) #[true, true, true, true, true, false, false, false, false, false, false, false, false, false, false, false, false, false, false, false, false, false, false, false, false, false, false, false, false, false, false, false, false, false] rfl rfl (by kernel_rfl) (fun _ _ _ h => h) (Or.inl ⟨by rfl, ?_⟩) ?_ ?_
            rotate_left
            · intro w'
              go_simp
              with_reducible rfl
            rotate_left
            · simp only [Act.put, List.setIfInBounds_toArray, List.set_cons_zero, List.set_cons_succ, i64_w, i32_w]
              rfl
            refine pure_ (i := 7) (N := some 66) (v := ?_) (a' := ?_) #[true, true, true, true, true, false, false, true, false, false, false, false, false, false, false, false, false, false, false, false, false, false, false, false, false, false, false, false, false, false, false, false, false, false] rfl rfl (by kernel_rfl) (fun _ _ _ h => h) (Or.inl ⟨by rfl, ?_⟩) ?_ ?_
            rotate_left
            · intro w'
              go_simp
              with_reducible rfl
            rotate_left
            · simp only [Act.put, List.setIfInBounds_toArray, List.set_cons_zero, List.set_cons_succ, i64_w, i32_w]
              rfl
            refine pure_ (i := 8) (N := some 67) (v := ?_) (a' := ?_) #[true, true, true, true, true, false, false, true, true, false, false, false, false, false, false, false, false, false, false, false, false, false, false, false, false, false, false, false, false, false, false, false, false, false] rfl rfl (by kernel_rfl) (fun _ _ _ h => h) (Or.inl ⟨by rfl, ?_⟩) ?_ ?_
            rotate_left
            · intro w'
              go_simp
              with_reducible rfl
            rotate_left
            · simp only [Act.put, List.setIfInBounds_toArray, List.set_cons_zero, List.set_cons_succ, i64_w, i32_w]
              rfl
            refine pure_ (i := 9) (N := some 68) (v := ?_) (a' := ?_) #[true, true, true, true, true, false, false, true, true, true, false, false, false, false, false, false, false, false, false, false, false, false, false, false, false, false, false, false, false, false, false, false, false, false] rfl rfl (by kernel_rfl) (fun _ _ _ h => h) (Or.inl ⟨by rfl, ?_⟩) ?_ ?_
            rotate_left
            · intro w'
              go_simp
              with_reducible rfl
            rotate_left
            · simp only [Act.put, List.setIfInBounds_toArray, List.set_cons_zero, List.set_cons_succ, i64_w, i32_w]
              rfl
            refine pure_ (i := 10) (N := some 69) (v := ?_) (a' := ?_) #[true, true, true, true, true, false, false, true, true, true, true, false, false, false, false, false, false, false, false, false, false, false, false, false, false, false, false, false, false, false, false, false, false, false] rfl rfl (by kernel_rfl) (fun _ _ _ h => h) (Or.inl ⟨by rfl, ?_⟩) ?_ ?_
            rotate_left
            · intro w'
              go_simp
              with_reducible rfl
            rotate_left
            · simp only [Act.put, List.setIfInBounds_toArray, List.set_cons_zero, List.set_cons_succ, i64_w, i32_w]
              rfl
            refine pure_ (i := 11) (N := some 70) (v := ?_) (a' := ?_) #[true, true, true, true, true, false, false, true, true, true, true, true, false, false, false, false, false, false, false, false, false, false, false, false, false, false, false, false, false, false, false, false, false, false] rfl rfl (by kernel_rfl) (fun _ _ _ h => h) (Or.inl ⟨by rfl, ?_⟩) ?_ ?_
            rotate_left
            · intro w'
              go_simp
              with_reducible rfl
            rotate_left
            · simp only [Act.put, List.setIfInBounds_toArray, List.set_cons_zero, List.set_cons_succ, i64_w, i32_w]
              rfl
            refine take_ (i := 5) (N := some 64) (v := ?_) (a' := ?_) #[true, true, true, true, true, true, false, true, true, true, true, true, false, false, false, false, false, false, false, false, false, false, false, false, false, false, false, false, false, false, false, false, false, false] rfl rfl (by kernel_rfl) (fun _ _ _ h => h) (Or.inl ⟨by rfl, ?_⟩) hHeld ?_ ?_
            rotate_left
            · intro w' s0
              go_simp
              with_reducible rfl
            rotate_left
            · simp only [Act.put, List.setIfInBounds_toArray, List.set_cons_zero, List.set_cons_succ, i64_w, i32_w]
              rfl
            refine take_ (i := 12) (N := some 71) (v := ?_) (a' := ?_) #[true, true, true, true, true, true, false, true, true, true, true, true, true, false, false, false, false, false, false, false, false, false, false, false, false, false, false, false, false, false, false, false, false, false] rfl rfl (by kernel_rfl) (fun _ _ _ h => h) (Or.inl ⟨by rfl, ?_⟩) hHeld ?_ ?_
            rotate_left
            · intro w' s0
              go_simp
              with_reducible rfl
            rotate_left
            · simp only [Act.put, List.setIfInBounds_toArray, List.set_cons_zero, List.set_cons_succ, i64_w, i32_w]
              rfl
            refine one_ (i := 6) (N := some 65) #[true, true, true, true, true, true, true, true, true, true, true, true, true, false, false, false, false, false, false, false, false, false, false, false, false, false, false, false, false, false, false, false, false, false] rfl rfl (by kernel_rfl) (by decide) (fun K hK => ?_)
            refine goes_ Try.func33 (by kernel_rfl) rfl #[.pointer (some ⟨g, 0, none⟩), .pointer (some ⟨gc, 0, none⟩), .int .i64 kind] (by rfl) rfl rfl (by first | (simp only [List.map_toArray, List.map_cons, List.map_nil]; done) | (simp only [List.map_toArray, List.map_cons, List.map_nil]; rfl) | simp) ?_
            with_reducible refine (Gx.get HX.out.drew HS.out HE.out).mono ?_
            rintro e wA ⟨rfl, vd2, hy⟩
            have HY1 := Aside0.mk hy
            clear hy HX
            refine ⟨_, rfl, ?_⟩
            refine hK.out _ _ (HKW.out _ HY1.out.bel) (fun hHeld => ?_)
            clear hK K
            refine norm_ (a' := ?_) ?_ ?_
            rotate_left
            · show Act.put _ (some 65) _ = _
              simp only [Act.put, List.setIfInBounds_toArray, List.set_cons_zero, List.set_cons_succ, i64_w, i32_w]
              rfl
            refine one_ (i := 13) (N := some 72) #[true, true, true, true, true, true, true, true, true, true, true, true, true, true, false, false, false, false, false, false, false, false, false, false, false, false, false, false, false, false, false, false, false, false] rfl rfl (by kernel_rfl) (by decide) (fun K hK => ?_)
            refine goes_ Try.func38 (by kernel_rfl) rfl #[.int .i64 kind] (by rfl) rfl rfl (by first | (simp only [List.map_toArray, List.map_cons, List.map_nil]; done) | (simp only [List.map_toArray, List.map_cons, List.map_nil]; rfl) | simp) ?_
            with_reducible refine (Calls.dB (number15_calls kind _)).mono ?_
            rintro e wB ⟨rfl, hb⟩
            have HY2 := Aside0.mk (Gx.below HY1.out hb)
            clear hb HY1
            refine ⟨_, rfl, ?_⟩
            refine hK.out _ _ (HKW.out _ HY2.out.bel) (fun hHeld => ?_)
            clear hK K
            refine norm_ (a' := ?_) ?_ ?_
            rotate_left
            · show Act.put _ (some 72) _ = _
              simp only [Act.put, List.setIfInBounds_toArray, List.set_cons_zero, List.set_cons_succ, i64_w, i32_w]
              rfl
            refine one_ (i := 14) (N := some 73) #[true, true, true, true, true, true, true, true, true, true, true, true, true, true, true, false, false, false, false, false, false, false, false, false, false, false, false, false, false, false, false, false, false, false] rfl rfl (by kernel_rfl) (by decide) (fun K hK => ?_)
            refine goes_ Try.func37 (by kernel_rfl) rfl #[.pointer (some ⟨w1.heap.size, 0, none⟩), .pointer (some ⟨w3.heap.size, 0, none⟩), .int .i64 (numOf kind)] (by rfl) rfl rfl (by first | (simp only [List.map_toArray, List.map_cons, List.map_nil]; done) | (simp only [List.map_toArray, List.map_cons, List.map_nil]; rfl) | simp) ?_
            with_reducible refine (Gx.rget HY2.out HS2.out HSH.out rfl HE2.out).mono ?_
            rintro e wC ⟨rfl, vr2, hy⟩
            have HZ := Aside0.mk hy
            clear hy HY2
            have q1 : World.cell? _ ⟨w3.heap.size, 1, none⟩ = some (.int .i64 s'.pos) := (blk_cell HZ.out.rcur.blk 1).trans rfl
            have q2 : World.cell? _ ⟨w3.heap.size, 2, none⟩ = some (.int .i64 s'.code) := (blk_cell HZ.out.rcur.blk 2).trans rfl
            have q3 : World.cell? _ ⟨w3.heap.size, 3, none⟩ = some (.int .i64 s'.fat) := (blk_cell HZ.out.rcur.blk 3).trans rfl
            refine ⟨_, rfl, ?_⟩
            refine hK.out _ _ (HKW.out _ HZ.out.bel) (fun hHeld => ?_)
            clear hK K
            refine norm_ (a' := ?_) ?_ ?_
            rotate_left
            · show Act.put _ (some 73) _ = _
              simp only [Act.put, List.setIfInBounds_toArray, List.set_cons_zero, List.set_cons_succ, i64_w, i32_w]
              rfl
            refine pure_ (i := 15) (N := some 74) (v := ?_) (a' := ?_) #[true, true, true, true, true, true, true, true, true, true, true, true, true, true, true, true, false, false, false, false, false, false, false, false, false, false, false, false, false, false, false, false, false, false] rfl rfl (by kernel_rfl) (fun _ _ _ h => h) (Or.inl ⟨by rfl, ?_⟩) ?_ ?_
            rotate_left
            · intro w'
              go_simp
              with_reducible rfl
            rotate_left
            · simp only [Act.put, List.setIfInBounds_toArray, List.set_cons_zero, List.set_cons_succ, i64_w, i32_w]
              rfl
            refine pure_ (i := 16) (N := some 75) (v := ?_) (a' := ?_) #[true, true, true, true, true, true, true, true, true, true, true, true, true, true, true, true, true, false, false, false, false, false, false, false, false, false, false, false, false, false, false, false, false, false] rfl rfl (by kernel_rfl) (fun _ _ _ h => h) (Or.inl ⟨by rfl, ?_⟩) ?_ ?_
            rotate_left
            · intro w'
              go_simp
              with_reducible rfl
            rotate_left
            · simp only [Act.put, List.setIfInBounds_toArray, List.set_cons_zero, List.set_cons_succ, i64_w, i32_w]
              rfl
            refine pure_ (i := 17) (N := some 76) (v := ?_) (a' := ?_) #[true, true, true, true, true, true, true, true, true, true, true, true, true, true, true, true, true, true, false, false, false, false, false, false, false, false, false, false, false, false, false, false, false, false] rfl rfl (by kernel_rfl) (fun _ _ _ h => h) (Or.inl ⟨by rfl, ?_⟩) ?_ ?_
            rotate_left
            · intro w'
              go_simp
              with_reducible rfl
            rotate_left
            · simp only [Act.put, List.setIfInBounds_toArray, List.set_cons_zero, List.set_cons_succ, i64_w, i32_w]
              rfl
            refine pure_ (i := 19) (N := some 78) (v := ?_) (a' := ?_) #[true, true, true, true, true, true, true, true, true, true, true, true, true, true, true, true, true, true, false, true, false, false, false, false, false, false, false, false, false, false, false, false, false, false] rfl rfl (by kernel_rfl) (fun _ _ _ h => h) (Or.inl ⟨by rfl, ?_⟩) ?_ ?_
            rotate_left
            · intro w'
              go_simp
              with_reducible rfl
            rotate_left
            · simp only [Act.put, List.setIfInBounds_toArray, List.set_cons_zero, List.set_cons_succ, i64_w, i32_w]
              rfl
            refine pure_ (i := 20) (N := some 79) (v := ?_) (a' := ?_) #[true, true, true, true, true, true, true, true, true, true, true, true, true, true, true, true, true, true, false, true, true, false, false, false, false, false, false, false, false, false, false, false, false, false] rfl rfl (by kernel_rfl) (fun _ _ _ h => h) (Or.inl ⟨by rfl, ?_⟩) ?_ ?_
            rotate_left
            · intro w'
              go_simp
              with_reducible rfl
            rotate_left
            · simp only [Act.put, List.setIfInBounds_toArray, List.set_cons_zero, List.set_cons_succ, i64_w, i32_w]
              rfl
            refine pure_ (i := 21) (N := some 80) (v := ?_) (a' := ?_) #[true, true, true, true, true, true, true, true, true, true, true, true, true, true, true, true, true, true, false, true, true, true, false, false, false, false, false, false, false, false, false, false, false, false] rfl rfl (by kernel_rfl) (fun _ _ _ h => h) (Or.inl ⟨by rfl, ?_⟩) ?_ ?_
            rotate_left
            · intro w'
              go_simp
              with_reducible rfl
            rotate_left
            · simp only [Act.put, List.setIfInBounds_toArray, List.set_cons_zero, List.set_cons_succ, i64_w, i32_w]
              rfl
            refine join_ (σ := Unit) 11 #[true, true, true, true, true, true, true, true, true, true, true, true, true, true, true, true, true, true, true, true, true, true, true, false, false, false, false, false, false, false, false, false, false, false] (fun _ => [(77, .agg #[.int .i64 s'.code, .int .i64 s'.fat]), (81, .agg #[.int .i64 s'.code, .int .i64 s'.fat])]) (fun _ w' => (w'.cell? (ad.add i.toNat) = some (.int .i64 kind)) ∧ Gx ok gc w3.heap.size s' (Cu.re A1 c1 s') ⟨g, gm, vd2, ws'⟩ ⟨w1.heap.size, vr2, ws'⟩ w w') ?_ ?_
            rotate_left
            · intro hCont
              refine two_ (i := 18) (j := 22) (Ni := some 77) (Nj := some 81) #[true, true, true, true, true, true, true, true, true, true, true, true, true, true, true, true, true, true, true, true, true, true, false, false, false, false, false, false, false, false, false, false, false, false] #[true, true, true, true, true, true, true, true, true, true, true, true, true, true, true, true, true, true, false, true, true, true, true, false, false, false, false, false, false, false, false, false, false, false] rfl rfl rfl rfl (by kernel_rfl) (by decide) (by decide) (fun K hK => ?_) (fun K hK => ?_)
              · skip
                refine goes_ Try.func34 (by kernel_rfl) rfl #[.pointer (some ⟨gc, 0, none⟩)] (by rfl) rfl rfl (by first | (simp only [List.map_toArray, List.map_cons, List.map_nil]; done) | (simp only [List.map_toArray, List.map_cons, List.map_nil]; rfl) | simp) ?_
                with_reducible refine (curfault_at gc s' s'.code s'.fat _ (HZ.out).cur rfl rfl).mono ?_
                rintro e wB0 ⟨rfl, hb⟩
                have hy := Gx.below (HZ.out) hb
                clear hb
                have HY1 := Aside0.mk hy
                clear hy
                refine ⟨_, rfl, ?_⟩
                refine hK.out _ _ (HKW.out _ HY1.out.bel) (fun hHeld => ?_)
                clear hK K
                refine norm_ (a' := ?_) ?_ ?_
                rotate_left
                · show Act.put _ (some 77) _ = _
                  simp only [Act.put, List.setIfInBounds_toArray, List.set_cons_zero, List.set_cons_succ, i64_w, i32_w]
                  rfl
                refine one_ (i := 22) (N := some 81) #[true, true, true, true, true, true, true, true, true, true, true, true, true, true, true, true, true, true, true, true, true, true, true, false, false, false, false, false, false, false, false, false, false, false] rfl rfl (by kernel_rfl) (by decide) (fun K hK => ?_)
                have q2 : World.cell? _ ⟨w3.heap.size, 2, none⟩ = some (.int .i64 s'.code) := (blk_cell (HY1.out).rcur.blk 2).trans rfl
                have q3 : World.cell? _ ⟨w3.heap.size, 3, none⟩ = some (.int .i64 s'.fat) := (blk_cell (HY1.out).rcur.blk 3).trans rfl
                refine value_ (w1 := ?_) (v := ?_) (by rfl) rfl ?_ ?_
                rotate_left 2
                · go_simp
                  constructor
                  · rfl
                  · rfl
                have hy := HY1.out
                clear q2 q3
                have HY2 := Aside0.mk hy
                clear hy
                refine hK.out _ _ (HKW.out _ HY2.out.bel) (fun hHeld => ?_)
                clear hK K
                refine norm_ (a' := ?_) ?_ ?_
                rotate_left
                · show Act.put _ (some 81) _ = _
                  simp only [Act.put, List.setIfInBounds_toArray, List.set_cons_zero, List.set_cons_succ, i64_w, i32_w]
                  rfl
                exact norm_ (by simp only [putAll, Act.put, List.setIfInBounds_toArray, List.set_cons_zero, List.set_cons_succ]) (hCont () _ ⟨hHeld, HY2.out⟩)
              · skip
                have q2 : World.cell? _ ⟨w3.heap.size, 2, none⟩ = some (.int .i64 s'.code) := (blk_cell (HZ.out).rcur.blk 2).trans rfl
                have q3 : World.cell? _ ⟨w3.heap.size, 3, none⟩ = some (.int .i64 s'.fat) := (blk_cell (HZ.out).rcur.blk 3).trans rfl
                refine value_ (w1 := ?_) (v := ?_) (by rfl) rfl ?_ ?_
                rotate_left 2
                · go_simp
                  constructor
                  · rfl
                  · rfl
                have hy := HZ.out
                clear q2 q3
                have HY1 := Aside0.mk hy
                clear hy
                refine hK.out _ _ (HKW.out _ HY1.out.bel) (fun hHeld => ?_)
                clear hK K
                refine norm_ (a' := ?_) ?_ ?_
                rotate_left
                · show Act.put _ (some 81) _ = _
                  simp only [Act.put, List.setIfInBounds_toArray, List.set_cons_zero, List.set_cons_succ, i64_w, i32_w]
                  rfl
                refine one_ (i := 18) (N := some 77) #[true, true, true, true, true, true, true, true, true, true, true, true, true, true, true, true, true, true, true, true, true, true, true, false, false, false, false, false, false, false, false, false, false, false] rfl rfl (by kernel_rfl) (by decide) (fun K hK => ?_)
                refine goes_ Try.func34 (by kernel_rfl) rfl #[.pointer (some ⟨gc, 0, none⟩)] (by rfl) rfl rfl (by first | (simp only [List.map_toArray, List.map_cons, List.map_nil]; done) | (simp only [List.map_toArray, List.map_cons, List.map_nil]; rfl) | simp) ?_
                with_reducible refine (curfault_at gc s' s'.code s'.fat _ (HY1.out).cur rfl rfl).mono ?_
                rintro e wB1 ⟨rfl, hb⟩
                have hy := Gx.below (HY1.out) hb
                clear hb
                have HY2 := Aside0.mk hy
                clear hy
                refine ⟨_, rfl, ?_⟩
                refine hK.out _ _ (HKW.out _ HY2.out.bel) (fun hHeld => ?_)
                clear hK K
                refine norm_ (a' := ?_) ?_ ?_
                rotate_left
                · show Act.put _ (some 77) _ = _
                  simp only [Act.put, List.setIfInBounds_toArray, List.set_cons_zero, List.set_cons_succ, i64_w, i32_w]
                  rfl
                exact norm_ (by simp only [putAll, Act.put, List.setIfInBounds_toArray, List.set_cons_zero, List.set_cons_succ]) (hCont () _ ⟨hHeld, HY2.out⟩)
            rintro _ wg ⟨hS_, hy⟩
            clear HZ
            have HZ := Aside0.mk hy
            clear hy
            have hHeld := hS_
            refine norm_ (a' := ?_) ?_ ?_
            rotate_left
            · simp only [putAll, Act.put, List.setIfInBounds_toArray, List.set_cons_zero, List.set_cons_succ]
              rfl
            refine pure_ (i := 23) (N := some 82) (v := ?_) (a' := ?_) #[true, true, true, true, true, true, true, true, true, true, true, true, true, true, true, true, true, true, true, true, true, true, true, true, false, false, false, false, false, false, false, false, false, false] rfl rfl (by kernel_rfl) (fun _ _ _ h => h) (Or.inl ⟨by rfl, ?_⟩) ?_ ?_
            rotate_left
            · intro w'
              go_simp
              with_reducible rfl
            rotate_left
            · simp only [Act.put, List.setIfInBounds_toArray, List.set_cons_zero, List.set_cons_succ, i64_w, i32_w]
              rfl
            refine pure_ (i := 24) (N := some 83) (v := ?_) (a' := ?_) #[true, true, true, true, true, true, true, true, true, true, true, true, true, true, true, true, true, true, true, true, true, true, true, true, true, false, false, false, false, false, false, false, false, false] rfl rfl (by kernel_rfl) (fun _ _ _ h => h) (Or.inl ⟨by rfl, ?_⟩) ?_ ?_
            rotate_left
            · intro w'
              go_simp
              with_reducible rfl
            rotate_left
            · simp only [Act.put, List.setIfInBounds_toArray, List.set_cons_zero, List.set_cons_succ, i64_w, i32_w]
              rfl
            refine pure_ (i := 25) (N := some 84) (v := ?_) (a' := ?_) #[true, true, true, true, true, true, true, true, true, true, true, true, true, true, true, true, true, true, true, true, true, true, true, true, true, true, false, false, false, false, false, false, false, false] rfl rfl (by kernel_rfl) (fun _ _ _ h => h) (Or.inl ⟨by rfl, ?_⟩) ?_ ?_
            rotate_left
            · intro w'
              go_simp
              with_reducible rfl
            rotate_left
            · simp only [Act.put, List.setIfInBounds_toArray, List.set_cons_zero, List.set_cons_succ, i64_w, i32_w]
              rfl
            refine pure_ (i := 26) (N := some 85) (v := ?_) (a' := ?_) #[true, true, true, true, true, true, true, true, true, true, true, true, true, true, true, true, true, true, true, true, true, true, true, true, true, true, true, false, false, false, false, false, false, false] rfl rfl (by kernel_rfl) (fun _ _ _ h => h) (Or.inl ⟨by rfl, ?_⟩) ?_ ?_
            rotate_left
            · intro w'
              go_simp
              with_reducible rfl
            rotate_left
            · simp only [Act.put, List.setIfInBounds_toArray, List.set_cons_zero, List.set_cons_succ, i64_w, i32_w]
              rfl
            refine pure_ (i := 28) (N := some 87) (v := ?_) (a' := ?_) #[true, true, true, true, true, true, true, true, true, true, true, true, true, true, true, true, true, true, true, true, true, true, true, true, true, true, true, false, true, false, false, false, false, false] rfl rfl (by kernel_rfl) (fun _ _ _ h => h) (Or.inl ⟨by rfl, ?_⟩) ?_ ?_
            rotate_left
            · intro w'
              go_simp
              with_reducible rfl
            rotate_left
            · simp only [Act.put, List.setIfInBounds_toArray, List.set_cons_zero, List.set_cons_succ, i64_w, i32_w]
              rfl
            refine pure_ (i := 29) (N := some 88) (v := ?_) (a' := ?_) #[true, true, true, true, true, true, true, true, true, true, true, true, true, true, true, true, true, true, true, true, true, true, true, true, true, true, true, false, true, true, false, false, false, false] rfl rfl (by kernel_rfl) (fun _ _ _ h => h) (Or.inl ⟨by rfl, ?_⟩) ?_ ?_
            rotate_left
            · intro w'
              go_simp
              with_reducible rfl
            rotate_left
            · simp only [Act.put, List.setIfInBounds_toArray, List.set_cons_zero, List.set_cons_succ, i64_w, i32_w]
              rfl
            refine pure_ (i := 30) (N := some 89) (v := ?_) (a' := ?_) #[true, true, true, true, true, true, true, true, true, true, true, true, true, true, true, true, true, true, true, true, true, true, true, true, true, true, true, false, true, true, true, false, false, false] rfl rfl (by kernel_rfl) (fun _ _ _ h => h) (Or.inl ⟨by rfl, ?_⟩) ?_ ?_
            rotate_left
            · intro w'
              go_simp
              with_reducible rfl
            rotate_left
            · simp only [Act.put, List.setIfInBounds_toArray, List.set_cons_zero, List.set_cons_succ, i64_w, i32_w]
              rfl
            refine join_ (σ := Unit) 2 #[true, true, true, true, true, true, true, true, true, true, true, true, true, true, true, true, true, true, true, true, true, true, true, true, true, true, true, true, true, true, true, true, false, false] (fun _ => [(86, .int .i64 s'.pos), (90, .int .i64 s'.pos)]) (fun _ w' => (w'.cell? (ad.add i.toNat) = some (.int .i64 kind)) ∧ Gx ok gc w3.heap.size s' (Cu.re A1 c1 s') ⟨g, gm, vd2, ws'⟩ ⟨w1.heap.size, vr2, ws'⟩ w w') ?_ ?_
            rotate_left
            · intro hCont
              refine two_ (i := 27) (j := 31) (Ni := some 86) (Nj := some 90) #[true, true, true, true, true, true, true, true, true, true, true, true, true, true, true, true, true, true, true, true, true, true, true, true, true, true, true, true, true, true, true, false, false, false] #[true, true, true, true, true, true, true, true, true, true, true, true, true, true, true, true, true, true, true, true, true, true, true, true, true, true, true, false, true, true, true, true, false, false] rfl rfl rfl rfl (by kernel_rfl) (by decide) (by decide) (fun K hK => ?_) (fun K hK => ?_)
              · skip
                refine goes_ Try.func39 (by kernel_rfl) rfl #[.pointer (some ⟨gc, 0, none⟩)] (by rfl) rfl rfl (by first | (simp only [List.map_toArray, List.map_cons, List.map_nil]; done) | (simp only [List.map_toArray, List.map_cons, List.map_nil]; rfl) | simp) ?_
                with_reducible refine (Calls.dB (curat_calls gc s' _ (HZ.out).cur)).mono ?_
                rintro e wC0 ⟨rfl, hb⟩
                have hy := Gx.below (HZ.out) hb
                clear hb
                have HY1 := Aside0.mk hy
                clear hy
                refine ⟨_, rfl, ?_⟩
                refine hK.out _ _ (HKW.out _ HY1.out.bel) (fun hHeld => ?_)
                clear hK K
                refine norm_ (a' := ?_) ?_ ?_
                rotate_left
                · show Act.put _ (some 86) _ = _
                  simp only [Act.put, List.setIfInBounds_toArray, List.set_cons_zero, List.set_cons_succ, i64_w, i32_w]
                  rfl
                refine one_ (i := 31) (N := some 90) #[true, true, true, true, true, true, true, true, true, true, true, true, true, true, true, true, true, true, true, true, true, true, true, true, true, true, true, true, true, true, true, true, false, false] rfl rfl (by kernel_rfl) (by decide) (fun K hK => ?_)
                have q1 : World.cell? _ ⟨w3.heap.size, 1, none⟩ = some (.int .i64 s'.pos) := (blk_cell (HY1.out).rcur.blk 1).trans rfl
                refine value_ (w1 := ?_) (v := ?_) (by rfl) rfl ?_ ?_
                rotate_left 2
                · go_simp
                  constructor
                  · rfl
                  · rfl
                have hy := HY1.out
                clear q1
                have HY2 := Aside0.mk hy
                clear hy
                refine hK.out _ _ (HKW.out _ HY2.out.bel) (fun hHeld => ?_)
                clear hK K
                refine norm_ (a' := ?_) ?_ ?_
                rotate_left
                · show Act.put _ (some 90) _ = _
                  simp only [Act.put, List.setIfInBounds_toArray, List.set_cons_zero, List.set_cons_succ, i64_w, i32_w]
                  rfl
                exact norm_ (by simp only [putAll, Act.put, List.setIfInBounds_toArray, List.set_cons_zero, List.set_cons_succ]) (hCont () _ ⟨hHeld, HY2.out⟩)
              · skip
                have q1 : World.cell? _ ⟨w3.heap.size, 1, none⟩ = some (.int .i64 s'.pos) := (blk_cell (HZ.out).rcur.blk 1).trans rfl
                refine value_ (w1 := ?_) (v := ?_) (by rfl) rfl ?_ ?_
                rotate_left 2
                · go_simp
                  constructor
                  · rfl
                  · rfl
                have hy := HZ.out
                clear q1
                have HY1 := Aside0.mk hy
                clear hy
                refine hK.out _ _ (HKW.out _ HY1.out.bel) (fun hHeld => ?_)
                clear hK K
                refine norm_ (a' := ?_) ?_ ?_
                rotate_left
                · show Act.put _ (some 90) _ = _
                  simp only [Act.put, List.setIfInBounds_toArray, List.set_cons_zero, List.set_cons_succ, i64_w, i32_w]
                  rfl
                refine one_ (i := 27) (N := some 86) #[true, true, true, true, true, true, true, true, true, true, true, true, true, true, true, true, true, true, true, true, true, true, true, true, true, true, true, true, true, true, true, true, false, false] rfl rfl (by kernel_rfl) (by decide) (fun K hK => ?_)
                refine goes_ Try.func39 (by kernel_rfl) rfl #[.pointer (some ⟨gc, 0, none⟩)] (by rfl) rfl rfl (by first | (simp only [List.map_toArray, List.map_cons, List.map_nil]; done) | (simp only [List.map_toArray, List.map_cons, List.map_nil]; rfl) | simp) ?_
                with_reducible refine (Calls.dB (curat_calls gc s' _ (HY1.out).cur)).mono ?_
                rintro e wC1 ⟨rfl, hb⟩
                have hy := Gx.below (HY1.out) hb
                clear hb
                have HY2 := Aside0.mk hy
                clear hy
                refine ⟨_, rfl, ?_⟩
                refine hK.out _ _ (HKW.out _ HY2.out.bel) (fun hHeld => ?_)
                clear hK K
                refine norm_ (a' := ?_) ?_ ?_
                rotate_left
                · show Act.put _ (some 86) _ = _
                  simp only [Act.put, List.setIfInBounds_toArray, List.set_cons_zero, List.set_cons_succ, i64_w, i32_w]
                  rfl
                exact norm_ (by simp only [putAll, Act.put, List.setIfInBounds_toArray, List.set_cons_zero, List.set_cons_succ]) (hCont () _ ⟨hHeld, HY2.out⟩)
            rintro _ wh ⟨hS_, hy⟩
            clear HZ
            have HZ := Aside0.mk hy
            clear hy
            have hHeld := hS_
            refine norm_ (a' := ?_) ?_ ?_
            rotate_left
            · simp only [putAll, Act.put, List.setIfInBounds_toArray, List.set_cons_zero, List.set_cons_succ]
              rfl
            refine pure_ (i := 32) (N := some 91) (v := ?_) (a' := ?_) #[true, true, true, true, true, true, true, true, true, true, true, true, true, true, true, true, true, true, true, true, true, true, true, true, true, true, true, true, true, true, true, true, true, false] rfl rfl (by kernel_rfl) (fun _ _ _ h => h) (Or.inl ⟨by rfl, ?_⟩) ?_ ?_
            rotate_left
            · intro w'
              go_simp
              with_reducible rfl
            rotate_left
            · simp only [Act.put, List.setIfInBounds_toArray, List.set_cons_zero, List.set_cons_succ, i64_w, i32_w]
              rfl
            refine pure_ (i := 33) (N := some 92) (v := ?_) (a' := ?_) #[true, true, true, true, true, true, true, true, true, true, true, true, true, true, true, true, true, true, true, true, true, true, true, true, true, true, true, true, true, true, true, true, true, true] rfl rfl (by kernel_rfl) (fun _ _ _ h => h) (Or.inl ⟨by rfl, ?_⟩) ?_ ?_
            rotate_left
            · intro w'
              go_simp
              with_reducible rfl
            rotate_left
            · simp only [Act.put, List.setIfInBounds_toArray, List.set_cons_zero, List.set_cons_succ, i64_w, i32_w]
              rfl
            refine done_ (by kernel_rfl) ?_
            go_wp2
            go_roundw
            case rel => exact ⟨i + 1, s', vd2, vr2, ws', by go_num, by omega, by omega, HSN, HZ⟩
            case measure => simp [intOf]; omega
          · obtain ⟨Ar, cr, hvr, _, hCr⟩ := HX.out.ref.slice
            have hb0 := HX.out.ref.blk
            rw [hvr] at hb0
            have HBL := Aside0.mk hb0
            have HCR := Aside0.mk (show Kd.string.C wo Ar ws.length ws from hCr)
            have HDC := Aside0.mk HX.out.dic
            have HB := Aside0.mk HX.out.bel
            clear hvr hb0 hCr HX
            go_wp2
            refine start_ (n := 11) (S := fun w' => w'.cell? ⟨w1.heap.size, 0, none⟩ = some (.slice Ar ws.length cr)) (ds := []) #[false, false, false, false, false, false, false, false, false, false, false] (by kernel_rfl) rfl rfl ((blk_cell (blk_drew HBL.out) 0).trans rfl) (fun hHeld => ?_)
            refine pure_ (i := 0) (N := some 93) (v := ?_) (a' := ?_) #[true, false, false, false, false, false, false, false, false, false, false] rfl rfl (by kernel_rfl) (fun _ _ _ h => h) (Or.inl ⟨by rfl, ?_⟩) ?_ ?_
            rotate_left
            · intro w'
              go_simp
              with_reducible rfl
            rotate_left
            · simp only [Act.put, List.setIfInBounds_toArray, List.set_cons_zero, List.set_cons_succ, i64_w, i32_w]
              rfl
            refine pure_ (i := 2) (N := some 95) (v := ?_) (a' := ?_) #[true, false, true, false, false, false, false, false, false, false, false] rfl rfl (by kernel_rfl) (fun _ _ _ h => h) (Or.inl ⟨by rfl, ?_⟩) ?_ ?_
            rotate_left
            · intro w'
              go_simp
              with_reducible rfl
            rotate_left
            · simp only [Act.put, List.setIfInBounds_toArray, List.set_cons_zero, List.set_cons_succ, i64_w, i32_w]
              rfl
            refine pure_ (i := 3) (N := some 96) (v := ?_) (a' := ?_) #[true, false, true, true, false, false, false, false, false, false, false] rfl rfl (by kernel_rfl) (fun _ _ _ h => h) (Or.inl ⟨by rfl, ?_⟩) ?_ ?_
            rotate_left
            · intro w'
              go_simp
              with_reducible rfl
            rotate_left
            · simp only [Act.put, List.setIfInBounds_toArray, List.set_cons_zero, List.set_cons_succ, i64_w, i32_w]
              rfl
            refine pure_ (i := 4) (N := some 97) (v := ?_) (a' := ?_) #[true, false, true, true, true, false, false, false, false, false, false] rfl rfl (by kernel_rfl) (fun _ _ _ h => h) (Or.inl ⟨by rfl, ?_⟩) ?_ ?_
            rotate_left
            · intro w'
              go_simp
              with_reducible rfl
            rotate_left
            · simp only [Act.put, List.setIfInBounds_toArray, List.set_cons_zero, List.set_cons_succ, i64_w, i32_w]
              rfl
            refine take_ (i := 5) (N := some 98) (v := ?_) (a' := ?_) #[true, false, true, true, true, true, false, false, false, false, false] rfl rfl (by kernel_rfl) (fun _ _ _ h => h) (Or.inl ⟨by rfl, ?_⟩) hHeld ?_ ?_
            rotate_left
            · intro w' s0
              go_simp
              with_reducible rfl
            rotate_left
            · simp only [Act.put, List.setIfInBounds_toArray, List.set_cons_zero, List.set_cons_succ, i64_w, i32_w]
              rfl
            refine one_ (i := 1) (N := some 94) #[true, true, true, true, true, true, false, false, false, false, false] rfl rfl (by kernel_rfl) (by decide) (fun K hK => ?_)
            refine goes_ Try.func41 (by kernel_rfl) rfl #[.pointer (some ⟨g, 0, none⟩)] (by rfl) rfl rfl (by first | (simp only [List.map_toArray, List.map_cons, List.map_nil]; done) | (simp only [List.map_toArray, List.map_cons, List.map_nil]; rfl) | simp) ?_
            with_reducible refine (dicwords_calls ⟨g, gm, vd, ws⟩ _ HDC.out.drew).mono ?_
            rintro e w4 ⟨v4, rfl, hv4, hb4⟩
            obtain ⟨A5, c5, rfl, _, hC5⟩ := Kd.R_reads hv4
            refine ⟨_, rfl, ?_⟩
            refine hK.out _ _ ((blk_cell (blk_below (blk_drew HBL.out) hb4) 0).trans rfl) (fun hHeld => ?_)
            clear hK K
            refine norm_ (a' := ?_) ?_ ?_
            rotate_left
            · show Act.put _ (some 94) _ = _
              simp only [Act.put, List.setIfInBounds_toArray, List.set_cons_zero, List.set_cons_succ, i64_w, i32_w]
              rfl
            refine one_ (i := 6) (N := some 99) #[true, true, true, true, true, true, true, false, false, false, false] rfl rfl (by kernel_rfl) (by decide) (fun K hK => ?_)
            refine goes_ Try.func40 (by kernel_rfl) rfl #[.slice A5 ws.length c5, .slice Ar ws.length cr] (by rfl) rfl rfl (by first | (simp only [List.map_toArray, List.map_cons, List.map_nil]; done) | (simp only [List.map_toArray, List.map_cons, List.map_nil]; rfl) | simp) ?_
            with_reducible refine (words15_calls A5 _ c5 ws Ar _ cr ws _ hC5 (Kd.C_below (Kd.C_drew HCR.out) hb4)).mono ?_
            rintro e w5 ⟨rfl, ⟨nd5, rfl⟩⟩
            refine ⟨_, rfl, ?_⟩
            rw [decide_eq_true rfl]
            refine hK.out _ _ ((blk_cell (blk_drewN (blk_below (blk_drew HBL.out) hb4) nd5) 0).trans rfl) (fun hHeld => ?_)
            clear hK K
            refine norm_ (a' := ?_) ?_ ?_
            rotate_left
            · show Act.put _ (some 99) _ = _
              simp only [Act.put, List.setIfInBounds_toArray, List.set_cons_zero, List.set_cons_succ, i64_w, i32_w]
              rfl
            refine pure_ (i := 7) (N := some 100) (v := ?_) (a' := ?_) #[true, true, true, true, true, true, true, true, false, false, false] rfl rfl (by kernel_rfl) (fun _ _ _ h => h) (Or.inl ⟨by rfl, ?_⟩) ?_ ?_
            rotate_left
            · intro w'
              go_simp
              with_reducible rfl
            rotate_left
            · simp only [Act.put, List.setIfInBounds_toArray, List.set_cons_zero, List.set_cons_succ, i64_w, i32_w]
              rfl
            refine one_ (i := 8) (N := some 101) #[true, true, true, true, true, true, true, true, true, false, false] rfl rfl (by kernel_rfl) (by decide) (fun K hK => ?_)
            refine goes_ Try.func28 (by kernel_rfl) rfl #[] (by rfl) rfl rfl (by first | (simp only [List.map_toArray, List.map_cons, List.map_nil]; done) | (simp only [List.map_toArray, List.map_cons, List.map_nil]; rfl) | simp) ?_
            with_reducible refine (awake15_calls _).mono ?_
            rintro e w6 ⟨rfl, hb6⟩
            refine ⟨_, rfl, ?_⟩
            refine hK.out _ _ ((blk_cell (blk_below (blk_drewN (blk_below (blk_drew HBL.out) hb4) nd5) hb6) 0).trans rfl) (fun hHeld => ?_)
            clear hK K
            refine norm_ (a' := ?_) ?_ ?_
            rotate_left
            · show Act.put _ (some 101) _ = _
              simp only [Act.put, List.setIfInBounds_toArray, List.set_cons_zero, List.set_cons_succ, i64_w, i32_w]
              rfl
            refine pure_ (i := 9) (N := some 102) (v := ?_) (a' := ?_) #[true, true, true, true, true, true, true, true, true, true, false] rfl rfl (by kernel_rfl) (fun _ _ _ h => h) (Or.inl ⟨by rfl, ?_⟩) ?_ ?_
            rotate_left
            · intro w'
              go_simp
              with_reducible rfl
            rotate_left
            · simp only [Act.put, List.setIfInBounds_toArray, List.set_cons_zero, List.set_cons_succ, i64_w, i32_w]
              rfl
            refine pure_ (i := 10) (N := some 6) (v := ?_) (a' := ?_) #[true, true, true, true, true, true, true, true, true, true, true] rfl rfl (by kernel_rfl) (fun _ _ _ h => h) (Or.inl ⟨by rfl, ?_⟩) ?_ ?_
            rotate_left
            · intro w'
              go_simp
              with_reducible rfl
            rotate_left
            · simp only [Act.put, List.setIfInBounds_toArray, List.set_cons_zero, List.set_cons_succ, i64_w, i32_w]
              rfl
            refine done_ (by kernel_rfl) ?_
            go_wp2
            go_ret
            exact ⟨rfl, below_step (pw_below_drewN (below_step (below_drew1 HB.out) hb4) nd5) hb6⟩
namespace dictGets
open Go.ChangeShapes Go.WideShapes Go.ChangeAt Go.RowKit
open Go.ChangeMaps (open_string shut_string)
theorem own : ownKnob Try.prog.godebug = none := by kernel_rfl
theorem laidOut : laidOutB Try.prog = true := by kernel_rfl
set_option maxRecDepth 100000 in
theorem lifted (os : Os) (started : os.Started) (H : Type) (enc : TypeId × Value → H) :
    ReturnsInHanded {} Try.checked os 8 .any (Rows.dictGetsSpec.pre6 enc Try.prog Try.f8 Rows.dictGetsRow.domain false) (Rows.dictGetsSpec.post enc Try.prog Try.f8 false true false false) := by
  refine returnsInHanded_of_change_sized (C := Try.checked) own started (by kernel_rfl) Try.func8
    (ChangeSpec.witness6 (enc := enc) (C := Try.checked) false ⟨#[], #[.slice none 0 0, .slice none 0 0, .slice none 0 0], []⟩ 8 (by kernel_rfl) (by kernel_rfl) (by kernel_rfl) (by kernel_rfl)) ?_
  intro W base args ds gs before hval0 hW hcnd hsz0 _
  have hsz : (DataW.weightsEach Try.prog (Try.f8.params.toList ++ Rows.dictGetsSpec.plain.varTypes Try.prog) (ds ++ gs)).all (· ≤ reachBytes) = true := hsz0
  have hval : ∀ (j : Nat) t v, Try.f8.params[j]? = some t → args[j]? = some v → Value.okWide Try.prog W .any base t v := hval0
  have hW' := hW
  obtain ⟨p, q, hA0, hV, rfl, hfz, hnd⟩ := hW
  have hA : DataW.TrodAll enc Try.prog W 0 (fun _ => true) true Try.f8.params.toList args.toList ds p := hA0
  rw [Try.params8] at hA hval hsz
  obtain ⟨v0, vs0, d0, ds0, p0, q0, hargs, rfl, rfl, h0, r0⟩ := trodAll_cons hA
  obtain ⟨v1, vs1, d1, ds1, p1, q1, rfl, rfl, rfl, h1, r1⟩ := trodAll_cons r0
  obtain ⟨v2, vs2, d2, ds2, p2, q2, rfl, rfl, rfl, h2, r2⟩ := trodAll_cons r1
  obtain ⟨rfl, rfl, rfl⟩ := trodAll_nil r2
  obtain rfl : args = #[v0, v1, v2] := by cases args; simp_all
  obtain ⟨rfl, rfl⟩ := trodVars_none hV
  obtain ⟨a0, len0, cap0, rfl⟩ := okWide_slice Try.underlying64 (hval 0 64 v0 rfl rfl)
  have k0 := h0
  have lt0 : ∀ x ∈ p0, x.block < W.heap.size := by obtain ⟨m, hm⟩ := k0; exact DataW.trod_lt m _ _ _ hm
  have y0 : len0 * 16 ≤ 140737488351232 := sized_strs hsz (j := 0) (t := 64) rfl rfl Try.underlying64 Try.underlying9 (by kernel_rfl) (by kernel_rfl) h0
  obtain ⟨l0, c0, b0, e0⟩ := open_srow Try.underlying64 Try.underlying9 (by kernel_rfl) (by omega) h0
  obtain rfl := c0.1.symm
  obtain ⟨a1, len1, cap1, rfl⟩ := okWide_slice Try.underlying22 (hval 1 22 v1 rfl rfl)
  have k1 := h1
  have lt1 : ∀ x ∈ p1, x.block < W.heap.size := by obtain ⟨m, hm⟩ := k1; exact DataW.trod_lt m _ _ _ hm
  have y1 : len1 * 1 ≤ 140737488351232 := sized_ints hsz (j := 1) (t := 22) rfl rfl Try.underlying22 Try.underlying5 (by kernel_rfl) (by kernel_rfl) h1
  obtain ⟨l1, c1, b1, e1⟩ := open_row Try.underlying22 Try.underlying5 (by kernel_rfl) (by omega) h1
  obtain rfl := c1.1.symm
  obtain ⟨a2, len2, cap2, rfl⟩ := okWide_slice Try.underlying23 (hval 2 23 v2 rfl rfl)
  have k2 := h2
  have lt2 : ∀ x ∈ p2, x.block < W.heap.size := by obtain ⟨m, hm⟩ := k2; exact DataW.trod_lt m _ _ _ hm
  have y2 : len2 * 8 ≤ 140737488351232 := sized_ints hsz (j := 2) (t := 23) rfl rfl Try.underlying23 Try.underlying3 (by kernel_rfl) (by kernel_rfl) h2
  obtain ⟨l2, c2, b2, e2⟩ := open_row Try.underlying23 Try.underlying3 (by kernel_rfl) (by omega) h2
  obtain rfl := c2.1.symm
  clear hA0 hval0 hsz0 hsz
  refine (dictGets_walk a0 cap0 l0 a1 cap1 l1 a2 cap2 l2 W c0 b0 y0 e0 c1 b1 y1 e1 c2 b2 y2 e2).mono fun e W' ⟨he, bel⟩ => ?_
  subst he
  exact ⟨_, rfl, _, _, _, [], _, [], hW', trodAll_mk1 (shut_bool Try.underlying4 _), (trodAll_cons_mk (Below.trod laidOut (by kernel_rfl) (of_decide_eq_true (by kernel_rfl)) k0 bel lt0) (trodAll_cons_mk (Below.trod laidOut (by kernel_rfl) (of_decide_eq_true (by kernel_rfl)) k1 bel lt1) (trodAll_cons_mk (Below.trod laidOut (by kernel_rfl) (of_decide_eq_true (by kernel_rfl)) k2 bel lt2) trodAll_mk0))), rfl, bel.frame _, fun h => by cases h⟩
theorem over : Rows.dictGetsRow.holds Try.pinned (OpenSpec.ofChange Rows.dictGetsSpec) :=
  OpenClaim.holds_of_wide 8 Try.f8 rfl rfl rfl rfl rfl rfl rfl ⟨rfl, rfl, rfl, rfl, rfl⟩ rfl rfl rfl rfl rfl (by kernel_rfl) Try.func8 (by kernel_rfl)
    (of_decide_eq_true (by kernel_rfl)) (by unfold Func.isWrapper; first | (rw [if_pos (by decide +kernel)]; kernel_rfl) | (rw [if_neg (by decide +kernel)]; exact ⟨rfl, rfl⟩))
    (fun os started H enc _ => lifted os started H enc)
theorem proved : Rows.DictGetsSaid := over
end dictGets
/-- The row, under a short name, for the claim. -/
theorem dictGets_holds : Rows.DictGetsSaid := dictGets.proved
#print axioms dictGets_holds
end Go.Proofs.Ytmbfjaogimkncaa
