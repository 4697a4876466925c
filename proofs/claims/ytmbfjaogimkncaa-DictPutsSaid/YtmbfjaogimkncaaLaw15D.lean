/- DictPuts: which bytes each word has, or that it is too long, and which words there are then: its walk; no condition. -/
import Derived.Test.YtmbfjaogimkncaaPutsW
import Derived.Test.YtmbfjaogimkncaaRefDict
import Derived.Test.YtmbfjaogimkncaaLawKit
import Derived.Test.YtmbfjaogimkncaaRows
namespace Go.Proofs.Ytmbfjaogimkncaa
open Go.RowKit Go.Proofs.YtmbfjaogimkncaaW.PrintWords Go.Proofs.YtmbfjaogimkncaaW.PrintLast Go.Proofs.YtmbfjaogimkncaaW.PrintMore
set_option linter.unusedVariables false
set_option linter.unusedSimpArgs false
theorem RDicAt.apart {d : RDic} {w : World} (h : RDicAt d w) {base : Nat} {ok : Nat → Prop} {v : Value} {xs : List Int} (hR : (Kd.int .u8).R 5 w base ok v xs) : ∀ k, some k = v.ownBlock → ¬ d.F k := by
  intro k hk hF
  obtain ⟨cells, hc⟩ := Kd.R_typed hR k hk.symm
  rcases hF with rfl | hF
  · rw [h.blk] at hc
    injection hc with hc
    injection hc with _ hc
    exact absurd hc (by decide)
  · obtain ⟨cells2, hc2⟩ := Kd.R_typed h.row k hF.symm
    rw [hc2] at hc
    injection hc with hc
    injection hc with _ hc
    exact absurd hc (by decide)
theorem rrow_turn {d : RDic} {w w' : World} (h : RDicAt d w) {base : Nat} {ok : Nat → Prop} {v : Value} {xs : List Int} (hR : (Kd.int .u8).R 5 w base ok v xs) (hc : Chg d.F w w') : (Kd.int .u8).R 5 w' base (fun _ => True) v xs :=
  Kd.R_mono (Kd.R_step (Kd.R_tight rfl hR) (fun k hk hl => hc.block k hl (h.apart hR k hk))) (fun _ _ => trivial)
/-- A word is put, by the document's dictionary, in a law. -/
theorem Calls.stepRPut {d : RDic} {s : ByteArray} {w W : World} {Q : Ending → World → Prop} {l : List Int} {code : Int} {ws' : List ByteArray} (he : dput d.ws s = (l, code, ws')) (hs : s.size ≤ 140737488350000) (HD : Aside0 (RDicAt d W)) (HF : Aside0 (∀ k, d.F k → w.heap.size ≤ k)) (HB : Aside0 (Below w.heap.size w W))
    (k : ∀ A c vd w', Aside0 (RDicAt ⟨d.g, vd, ws'⟩ w') → Aside0 (∀ k, (⟨d.g, vd, ws'⟩ : RDic).F k → w.heap.size ≤ k) → Aside0 (Chg d.F W w') → Aside0 (∀ k, (⟨d.g, vd, ws'⟩ : RDic).F k → d.F k ∨ W.heap.size ≤ k) → Aside0 ((Kd.int .u8).R 5 w' w.heap.size (fun _ => True) (.slice A l.length c) l) → Aside0 (Below w.heap.size w w') → Q (.returned (.tuple #[.slice A l.length c, .int .i64 code])) w') :
    Calls Try.prog 36 #[.pointer (some ⟨d.g, 0, none⟩), .string s] W Q := by
  refine (rput_calls d s W HD.out hs).mono ?_
  rintro e w' ⟨v, rfl, hR, vd, hd, hc, ho⟩
  rw [he] at hR hd ⊢
  obtain ⟨A, c, rfl, _⟩ := Kd.R_reads hR
  have hsz := below_size HB.out
  exact k A c vd w' ⟨hd⟩ ⟨RTurn.fresh hsz HF.out ho⟩ ⟨hc⟩ ⟨RTurn.next ho⟩ ⟨Kd.R_lower hR hsz⟩ ⟨HB.out.trans (hc.to_below HF.out hsz)⟩
/-- Two dictionaries, apart. -/
structure DR (d : Dic) (r : RDic) (w W : World) : Prop where
  dic : DicAt d W
  ref : RDicAt r W
  df : ∀ k, d.F k → w.heap.size ≤ k
  rf : ∀ k, r.F k → w.heap.size ≤ k
  ap : ∀ k, r.F k → ¬ d.F k
theorem DR.drewN {d : Dic} {r : RDic} {w W : World} (h : DR d r w W) (n : Nat) : DR d r w (W.drewN n) := ⟨h.dic.drewN n, h.ref.drewN n, h.df, h.rf, h.ap⟩
theorem DR.below {d : Dic} {r : RDic} {w W W' : World} (h : DR d r w W) (hb : Below W.heap.size W W') : DR d r w W' := ⟨h.dic.below hb, h.ref.below hb, h.df, h.rf, h.ap⟩
set_option maxHeartbeats 8000000 in
set_option maxRecDepth 100000 in
theorem dictPuts_walk (A : Option Addr) (c : Nat) (l : List ByteArray) (w : World) (hC : Kd.string.C w A l.length l) (hwf : ∀ x ∈ l, x.size ≤ 9223372036854775807) (hsz : l.length * 16 ≤ 140737488351232) (hcap : l.length ≤ c) :
    Calls Try.prog 10 #[.slice A l.length c] w fun e w' => e = .returned (.bool true) ∧ Below w.heap.size w w' := by
  have HCW := Aside0.mk hC
  have HFE := Aside0.mk (few15_calls A c l w hC hwf)
  clear hC hwf hsz
  have HB := Aside0.mk (Below.refl w.heap.size w)
  cases hfew : fewB l with
  | false =>
    rw [hfew] at HFE
    clear hfew
    go_enter Try.func10, Try.ntmps10
    go_wp2_with fail
    with_reducible refine Calls.stepB (Calls.dB HFE.out) ⟨(by repeat (first | (with_reducible first | exact HB.out | apply below_alloc | apply pw_below_drewN | apply below_drew1) | exact HB.out))⟩ ?_
    clear HB
    intro w_ HK HB
    clear HK
    go_wp2_with fail
    with_reducible refine Calls.stepB (awake15_calls _) ⟨(by repeat (first | (with_reducible first | exact HB.out | apply below_alloc | apply pw_below_drewN | apply below_drew1) | exact HB.out))⟩ ?_
    clear HB
    intro w_ HK HB
    clear HK
    go_wp2
    go_ret
    exact ⟨rfl, (by repeat (first | (with_reducible first | exact HB.out | apply below_alloc | apply pw_below_drewN | apply below_drew1) | exact HB.out))⟩
  | true =>
    rw [hfew] at HFE
    have hfew2 : l.length ≤ 80 ∧ ∀ s ∈ l, s.size ≤ 300 := of_decide_eq_true hfew
    have hl80 := hfew2.1
    have HSZ := Aside0.mk hfew2.2
    clear hfew hfew2
    go_enter Try.func10, Try.ntmps10
    go_wp2_with fail
    with_reducible refine Calls.stepB (Calls.dB HFE.out) ⟨(by repeat (first | (with_reducible first | exact HB.out | apply below_alloc | apply pw_below_drewN | apply below_drew1) | exact HB.out))⟩ ?_
    clear HB
    intro w_ HK HB
    clear HK
    go_wp2_with fail
    with_reducible refine Calls.stepNew HB ?_
    clear HB
    intro g gm w1 HD hnew HF hb1 HB
    have HDR := Aside0.mk (show DR ⟨g, gm, .slice none 0 0, []⟩ ⟨w1.heap.size, .slice none 0 0, []⟩ w (w1.alloc (.cells #[.slice none 0 0] 68)) from
      by
      refine ⟨HD.out.alloc _, ⟨blk_new _ _, Kd.R_nil _ _ _ _ _, by simp⟩, HF.out, ?_, ?_⟩
      · rintro k (rfl | hk)
        · exact below_size HB.out
        · cases hk
      · rintro k (rfl | hk) hF
        · have := HD.out.lt _ hF
          have e : w1.heap.size < w1.heap.size := this
          omega
        · cases hk)
    clear hnew hb1 HD HF
    go_wp2
    go_loopw [5] (fun v5 w' => ∃ (i : Int) (vd vr : Value), v5 = .int .i64 i ∧ 0 ≤ i ∧ i ≤ (l.length : Int) ∧ Aside0 (DR ⟨g, gm, vd, putsW [] (l.take i.toNat)⟩ ⟨w1.heap.size, vr, putsW [] (l.take i.toNat)⟩ w w') ∧ Aside0 (Below w.heap.size w w')) (fun v5 _ => l.length - (intOf v5).toNat)
    case atStart => exact ⟨0, _, _, rfl, by omega, by omega, HDR, ⟨below_alloc HB.out _⟩⟩
    case round =>
      clear HB HDR
      obtain ⟨i, vd, vr, rfl, hi0, hi, HDR, HB⟩ := hrel
      obtain ⟨ws, hws⟩ : ∃ ws, putsW [] (l.take i.toNat) = ws := ⟨_, rfl⟩
      rw [hws] at HDR
      have HWS := Aside0.mk hws
      clear hws
      obtain ⟨wo, rfl⟩ : ∃ wo : World, wo = wr := ⟨_, rfl⟩
      by_cases hlt : i < (l.length : Int)
      · obtain ⟨ad, e, hx0⟩ := str_at HCW.out i hi0 hlt
        cases e
        obtain ⟨s0, hs0⟩ : ∃ s, l.getD i.toNat ByteArray.empty = s := ⟨_, rfl⟩
        rw [hs0] at hx0
        have hs300 := HSZ.out s0 (by rw [← hs0]; exact getD_mem (by omega))
        have HNX := Aside0.mk (show putsW [] (l.take (i + 1).toNat) = (dput ws s0).2.2 by rw [putsW_take hi0 hlt, HWS.out, hs0])
        obtain ⟨xs, code, ws', he⟩ : ∃ xs code ws', dput ws s0 = (xs, code, ws') := ⟨_, _, _, rfl⟩
        rw [he] at HNX
        have HE := Aside0.mk he
        have HX0 := Aside0.mk hx0
        have hx1 := pw_cell_below HB.out hx0
        clear hs0 he hx0
        go_wp2_with fail
        with_reducible refine Calls.stepPut HE.out (by omega) ⟨HDR.out.dic⟩ ⟨HDR.out.df⟩ HB ?_
        clear HB
        intro A1 c1 vd1 w2 HD1 HF1 HG1 HN1 HR1 HB
        have HRD := Aside0.mk (HDR.out.ref.step HG1.out HDR.out.ap)
        have HAP := Aside0.mk (show ∀ k, (⟨w1.heap.size, vr, ws⟩ : RDic).F k → ¬ (⟨g, gm, vd1, ws'⟩ : Dic).F k from fun k hk hF => (HN1.out k hF).elim (HDR.out.ap k hk) (fun h => by have := HDR.out.ref.lt k hk; omega))
        have HRF := Aside0.mk HDR.out.rf
        have hx2 := pw_cell_below HB.out HX0.out
        clear HDR HG1 HN1 hx1
        go_wp2_with fail
        with_reducible refine Calls.stepRPut HE.out (by omega) HRD HRF HB ?_
        clear HB
        intro A2 c2 vr2 w3 HRD2 HRF2 HG2 HN2 HR2 HB
        have n0 := Aside0.mk (rrow_turn HRD.out HR1.out HG2.out)
        have n1 := Aside0.mk (HD1.out.step HG2.out (fun k hk hF => HAP.out k hF hk))
        have n2 := Aside0.mk (show ∀ k, (⟨w1.heap.size, vr2, ws'⟩ : RDic).F k → ¬ (⟨g, gm, vd1, ws'⟩ : Dic).F k from fun k hk hF => (HN2.out k hk).elim (fun h => HAP.out k h hF) (fun h => by have := HD1.out.lt k hF; omega))
        have HDR := Aside0.mk (show DR ⟨g, gm, vd1, ws'⟩ ⟨w1.heap.size, vr2, ws'⟩ w w3 from ⟨n1.out, HRD2.out, HF1.out, HRF2.out, n2.out⟩)
        have HC1 := Aside0.mk (Kd.R_reads' n0.out).2.2
        have HC2 := Aside0.mk (Kd.R_reads' HR2.out).2.2
        obtain ⟨Ar, cr, hvr, _, _⟩ := HRD2.out.slice
        have HVR := Aside0.mk hvr
        have hb0 := HRD2.out.blk
        rw [hvr] at hb0
        have HBL := Aside0.mk hb0
        clear HR1 HR2 HD1 HRD HAP HG2 HN2 HRD2 HF1 HRF HRF2 n0 n1 n2 hvr hb0 hx2
        go_wp2
        refine start_ (n := 19) (S := fun w' => w'.cell? ⟨w1.heap.size, 0, none⟩ = some (.slice Ar ws'.length cr)) (ds := []) #[false, false, false, false, false, false, false, false, false, false, false, false, false, false, false, false, false, false, false] (by kernel_rfl) rfl rfl ((blk_cell (blk_drew HBL.out) 0).trans rfl) (fun hHeld => ?_)
        refine pure_ (i := 0) (N := some 41) (v := ?_) (a' := ?_) #[true, false, false, false, false, false, false, false, false, false, false, false, false, false, false, false, false, false, false] rfl rfl (by kernel_rfl) (fun _ _ _ h => h) (Or.inl ⟨by rfl, ?_⟩) ?_ ?_
        rotate_left
        · intro w'
          go_simp
          with_reducible rfl
        rotate_left
        · simp only [Act.put, List.setIfInBounds_toArray, List.set_cons_zero, List.set_cons_succ, i64_w, i32_w]
          rfl
        refine pure_ (i := 1) (N := some 42) (v := ?_) (a' := ?_) #[true, true, false, false, false, false, false, false, false, false, false, false, false, false, false, false, false, false, false] rfl rfl (by kernel_rfl) (fun _ _ _ h => h) (Or.inl ⟨by rfl, ?_⟩) ?_ ?_
        rotate_left
        · intro w'
          go_simp
          with_reducible rfl
        rotate_left
        · simp only [Act.put, List.setIfInBounds_toArray, List.set_cons_zero, List.set_cons_succ, i64_w, i32_w]
          rfl
        refine one_ (i := 2) (N := some 43) #[true, true, true, false, false, false, false, false, false, false, false, false, false, false, false, false, false, false, false] rfl rfl (by kernel_rfl) (by decide) (fun K hK => ?_)
        refine goes_ Try.func42 (by kernel_rfl) rfl #[.slice A1 xs.length c1, .slice A2 xs.length c2] (by rfl) rfl rfl (by first | (simp only [List.map_toArray, List.map_cons, List.map_nil]; done) | (simp only [List.map_toArray, List.map_cons, List.map_nil]; rfl) | simp) ?_
        with_reducible refine (same15_n A1 _ c1 xs A2 _ c2 xs _ (Kd.C_drew HC1.out) (Kd.C_drew HC2.out)).mono ?_
        rintro e w4 ⟨rfl, ⟨nd4, rfl⟩⟩
        refine ⟨_, rfl, ?_⟩
        rw [decide_eq_true rfl]
        refine hK.out _ _ ((blk_cell (blk_drewN (blk_drew HBL.out) nd4) 0).trans rfl) (fun hHeld => ?_)
        clear hK K
        refine norm_ (a' := ?_) ?_ ?_
        rotate_left
        · show Act.put _ (some 43) _ = _
          simp only [Act.put, List.setIfInBounds_toArray, List.set_cons_zero, List.set_cons_succ, i64_w, i32_w]
          rfl
        refine pure_ (i := 3) (N := some 44) (v := ?_) (a' := ?_) #[true, true, true, true, false, false, false, false, false, false, false, false, false, false, false, false, false, false, false] rfl rfl (by kernel_rfl) (fun _ _ _ h => h) (Or.inl ⟨by rfl, ?_⟩) ?_ ?_
        rotate_left
        · intro w'
          go_simp
          with_reducible rfl
        rotate_left
        · simp only [Act.put, List.setIfInBounds_toArray, List.set_cons_zero, List.set_cons_succ, i64_w, i32_w]
          rfl
        refine pure_ (i := 4) (N := some 45) (v := ?_) (a' := ?_) #[true, true, true, true, true, false, false, false, false, false, false, false, false, false, false, false, false, false, false] rfl rfl (by kernel_rfl) (fun _ _ _ h => h) (Or.inl ⟨by rfl, ?_⟩) ?_ ?_
        rotate_left
        · intro w'
          go_simp
          with_reducible rfl
        rotate_left
        · simp only [Act.put, List.setIfInBounds_toArray, List.set_cons_zero, List.set_cons_succ, i64_w, i32_w]
          rfl
        refine pure_ (i := 5) (N := some 46) (v := ?_) (a' := ?_) #[true, true, true, true, true, true, false, false, false, false, false, false, false, false, false, false, false, false, false] rfl rfl (by kernel_rfl) (fun _ _ _ h => h) (Or.inl ⟨by rfl, ?_⟩) ?_ ?_
        rotate_left
        · intro w'
          go_simp
          with_reducible rfl
        rotate_left
        · simp only [Act.put, List.setIfInBounds_toArray, List.set_cons_zero, List.set_cons_succ, i64_w, i32_w]
          rfl
        refine pure_ (i := 6) (N := some 47) (v := ?_) (a' := ?_) #[true, true, true, true, true, true, true, false, false, false, false, false, false, false, false, false, false, false, false] rfl rfl (by kernel_rfl) (fun _ _ _ h => h) (Or.inl ⟨by rfl, ?_⟩) ?_ ?_
        rotate_left
        · intro w'
          go_simp
          with_reducible rfl
        rotate_left
        · simp only [Act.put, List.setIfInBounds_toArray, List.set_cons_zero, List.set_cons_succ, i64_w, i32_w]
          rfl
        refine pure_ (i := 7) (N := some 48) (v := ?_) (a' := ?_) #[true, true, true, true, true, true, true, true, false, false, false, false, false, false, false, false, false, false, false] rfl rfl (by kernel_rfl) (fun _ _ _ h => h) (Or.inl ⟨by rfl, ?_⟩) ?_ ?_
        rotate_left
        · intro w'
          go_simp
          with_reducible rfl
        rotate_left
        · simp only [Act.put, List.setIfInBounds_toArray, List.set_cons_zero, List.set_cons_succ, i64_w, i32_w]
          rfl
        refine pure_ (i := 8) (N := some 49) (v := ?_) (a' := ?_) #[true, true, true, true, true, true, true, true, true, false, false, false, false, false, false, false, false, false, false] rfl rfl (by kernel_rfl) (fun _ _ _ h => h) (Or.inl ⟨by rfl, ?_⟩) ?_ ?_
        rotate_left
        · intro w'
          go_simp
          with_reducible rfl
        rotate_left
        · simp only [Act.put, List.setIfInBounds_toArray, List.set_cons_zero, List.set_cons_succ, i64_w, i32_w]
          rfl
        refine pure_ (i := 9) (N := some 50) (v := ?_) (a' := ?_) #[true, true, true, true, true, true, true, true, true, true, false, false, false, false, false, false, false, false, false] rfl rfl (by kernel_rfl) (fun _ _ _ h => h) (Or.inl ⟨by rfl, ?_⟩) ?_ ?_
        rotate_left
        · intro w'
          go_simp
          with_reducible rfl
        rotate_left
        · simp only [Act.put, List.setIfInBounds_toArray, List.set_cons_zero, List.set_cons_succ, i64_w, i32_w]
          rfl
        refine pure_ (i := 10) (N := some 51) (v := ?_) (a' := ?_) #[true, true, true, true, true, true, true, true, true, true, true, false, false, false, false, false, false, false, false] rfl rfl (by kernel_rfl) (fun _ _ _ h => h) (Or.inl ⟨by rfl, ?_⟩) ?_ ?_
        rotate_left
        · intro w'
          go_simp
          with_reducible rfl
        rotate_left
        · simp only [Act.put, List.setIfInBounds_toArray, List.set_cons_zero, List.set_cons_succ, i64_w, i32_w]
          rfl
        refine pure_ (i := 12) (N := some 53) (v := ?_) (a' := ?_) #[true, true, true, true, true, true, true, true, true, true, true, false, true, false, false, false, false, false, false] rfl rfl (by kernel_rfl) (fun _ _ _ h => h) (Or.inl ⟨by rfl, ?_⟩) ?_ ?_
        rotate_left
        · intro w'
          go_simp
          with_reducible rfl
        rotate_left
        · simp only [Act.put, List.setIfInBounds_toArray, List.set_cons_zero, List.set_cons_succ, i64_w, i32_w]
          rfl
        refine pure_ (i := 13) (N := some 54) (v := ?_) (a' := ?_) #[true, true, true, true, true, true, true, true, true, true, true, false, true, true, false, false, false, false, false] rfl rfl (by kernel_rfl) (fun _ _ _ h => h) (Or.inl ⟨by rfl, ?_⟩) ?_ ?_
        rotate_left
        · intro w'
          go_simp
          with_reducible rfl
        rotate_left
        · simp only [Act.put, List.setIfInBounds_toArray, List.set_cons_zero, List.set_cons_succ, i64_w, i32_w]
          rfl
        refine pure_ (i := 14) (N := some 55) (v := ?_) (a' := ?_) #[true, true, true, true, true, true, true, true, true, true, true, false, true, true, true, false, false, false, false] rfl rfl (by kernel_rfl) (fun _ _ _ h => h) (Or.inl ⟨by rfl, ?_⟩) ?_ ?_
        rotate_left
        · intro w'
          go_simp
          with_reducible rfl
        rotate_left
        · simp only [Act.put, List.setIfInBounds_toArray, List.set_cons_zero, List.set_cons_succ, i64_w, i32_w]
          rfl
        refine take_ (i := 15) (N := some 56) (v := ?_) (a' := ?_) #[true, true, true, true, true, true, true, true, true, true, true, false, true, true, true, true, false, false, false] rfl rfl (by kernel_rfl) (fun _ _ _ h => h) (Or.inl ⟨by rfl, ?_⟩) hHeld ?_ ?_
        rotate_left
        · intro w' s0
          go_simp
          with_reducible rfl
        rotate_left
        · simp only [Act.put, List.setIfInBounds_toArray, List.set_cons_zero, List.set_cons_succ, i64_w, i32_w]
          rfl
        refine pure_ (i := 16) (N := some 57) (v := ?_) (a' := ?_) #[true, true, true, true, true, true, true, true, true, true, true, false, true, true, true, true, true, false, false] rfl rfl (by kernel_rfl) (fun _ _ _ h => h) (Or.inl ⟨by rfl, ?_⟩) ?_ ?_
        rotate_left
        · intro w'
          go_simp
          with_reducible rfl
        rotate_left
        · simp only [Act.put, List.setIfInBounds_toArray, List.set_cons_zero, List.set_cons_succ, i64_w, i32_w]
          rfl
        refine one_ (i := 11) (N := some 52) #[true, true, true, true, true, true, true, true, true, true, true, true, true, true, true, true, true, false, false] rfl rfl (by kernel_rfl) (by decide) (fun K hK => ?_)
        refine goes_ Try.func31 (by kernel_rfl) rfl #[.pointer (some ⟨g, 0, none⟩)] (by rfl) rfl rfl (by first | (simp only [List.map_toArray, List.map_cons, List.map_nil]; done) | (simp only [List.map_toArray, List.map_cons, List.map_nil]; rfl) | simp) ?_
        with_reducible refine (diclen_calls ⟨g, gm, vd1, ws'⟩ _ ((HDR.out.dic.drew).drewN nd4)).mono ?_
        rintro e w5 ⟨rfl, rfl⟩
        refine ⟨_, rfl, ?_⟩
        refine hK.out _ _ ((blk_cell (blk_drewN (blk_drew HBL.out) nd4) 0).trans rfl) (fun hHeld => ?_)
        clear hK K
        refine norm_ (a' := ?_) ?_ ?_
        rotate_left
        · show Act.put _ (some 52) _ = _
          simp only [Act.put, List.setIfInBounds_toArray, List.set_cons_zero, List.set_cons_succ, i64_w, i32_w]
          rfl
        refine pure_ (i := 17) (N := some 58) (v := ?_) (a' := ?_) #[true, true, true, true, true, true, true, true, true, true, true, true, true, true, true, true, true, true, false] rfl rfl (by kernel_rfl) (fun _ _ _ h => h) (Or.inl ⟨by rfl, ?_⟩) ?_ ?_
        rotate_left
        · intro w'
          go_simp
          with_reducible rfl
        rotate_left
        · simp only [Act.put, List.setIfInBounds_toArray, List.set_cons_zero, List.set_cons_succ, i64_w, i32_w]
          rfl
        refine pure_ (i := 18) (N := some 59) (v := ?_) (a' := ?_) #[true, true, true, true, true, true, true, true, true, true, true, true, true, true, true, true, true, true, true] rfl rfl (by kernel_rfl) (fun _ _ _ h => h) (Or.inl ⟨by rfl, ?_⟩) ?_ ?_
        rotate_left
        · intro w'
          go_simp
          with_reducible rfl
        rotate_left
        · simp only [Act.put, List.setIfInBounds_toArray, List.set_cons_zero, List.set_cons_succ, i64_w, i32_w]
          rfl
        refine done_ (by kernel_rfl) ?_
        go_wp2
        go_roundw
        case rel => exact ⟨i + 1, vd1, vr2, by go_num, by omega, by omega, by rw [HNX.out]; exact ⟨HDR.out.drewN _⟩, ⟨pw_below_drewN HB.out _⟩⟩
        case measure => simp [intOf]; omega
      · obtain ⟨Ar, cr, hvr, _, hCr⟩ := HDR.out.ref.slice
        have hvr2 : vr = .slice Ar ws.length cr := hvr
        have hb0 := HDR.out.ref.blk
        rw [hvr] at hb0
        have HBL := Aside0.mk hb0
        have HCR := Aside0.mk (show Kd.string.C wo Ar ws.length ws from hCr)
        clear hvr hb0 hCr hvr2
        go_wp2
        refine start_ (n := 11) (S := fun w' => w'.cell? ⟨w1.heap.size, 0, none⟩ = some (.slice Ar ws.length cr)) (ds := []) #[false, false, false, false, false, false, false, false, false, false, false] (by kernel_rfl) rfl rfl ((blk_cell (blk_drew HBL.out) 0).trans rfl) (fun hHeld => ?_)
        refine pure_ (i := 0) (N := some 60) (v := ?_) (a' := ?_) #[true, false, false, false, false, false, false, false, false, false, false] rfl rfl (by kernel_rfl) (fun _ _ _ h => h) (Or.inl ⟨by rfl, ?_⟩) ?_ ?_
        rotate_left
        · intro w'
          go_simp
          with_reducible rfl
        rotate_left
        · simp only [Act.put, List.setIfInBounds_toArray, List.set_cons_zero, List.set_cons_succ, i64_w, i32_w]
          rfl
        refine pure_ (i := 2) (N := some 62) (v := ?_) (a' := ?_) #[true, false, true, false, false, false, false, false, false, false, false] rfl rfl (by kernel_rfl) (fun _ _ _ h => h) (Or.inl ⟨by rfl, ?_⟩) ?_ ?_
        rotate_left
        · intro w'
          go_simp
          with_reducible rfl
        rotate_left
        · simp only [Act.put, List.setIfInBounds_toArray, List.set_cons_zero, List.set_cons_succ, i64_w, i32_w]
          rfl
        refine pure_ (i := 3) (N := some 63) (v := ?_) (a' := ?_) #[true, false, true, true, false, false, false, false, false, false, false] rfl rfl (by kernel_rfl) (fun _ _ _ h => h) (Or.inl ⟨by rfl, ?_⟩) ?_ ?_
        rotate_left
        · intro w'
          go_simp
          with_reducible rfl
        rotate_left
        · simp only [Act.put, List.setIfInBounds_toArray, List.set_cons_zero, List.set_cons_succ, i64_w, i32_w]
          rfl
        refine pure_ (i := 4) (N := some 64) (v := ?_) (a' := ?_) #[true, false, true, true, true, false, false, false, false, false, false] rfl rfl (by kernel_rfl) (fun _ _ _ h => h) (Or.inl ⟨by rfl, ?_⟩) ?_ ?_
        rotate_left
        · intro w'
          go_simp
          with_reducible rfl
        rotate_left
        · simp only [Act.put, List.setIfInBounds_toArray, List.set_cons_zero, List.set_cons_succ, i64_w, i32_w]
          rfl
        refine take_ (i := 5) (N := some 65) (v := ?_) (a' := ?_) #[true, false, true, true, true, true, false, false, false, false, false] rfl rfl (by kernel_rfl) (fun _ _ _ h => h) (Or.inl ⟨by rfl, ?_⟩) hHeld ?_ ?_
        rotate_left
        · intro w' s0
          go_simp
          with_reducible rfl
        rotate_left
        · simp only [Act.put, List.setIfInBounds_toArray, List.set_cons_zero, List.set_cons_succ, i64_w, i32_w]
          rfl
        refine one_ (i := 1) (N := some 61) #[true, true, true, true, true, true, false, false, false, false, false] rfl rfl (by kernel_rfl) (by decide) (fun K hK => ?_)
        refine goes_ Try.func41 (by kernel_rfl) rfl #[.pointer (some ⟨g, 0, none⟩)] (by rfl) rfl rfl (by first | (simp only [List.map_toArray, List.map_cons, List.map_nil]; done) | (simp only [List.map_toArray, List.map_cons, List.map_nil]; rfl) | simp) ?_
        with_reducible refine (dicwords_calls ⟨g, gm, vd, ws⟩ _ HDR.out.dic.drew).mono ?_
        rintro e w4 ⟨v4, rfl, hv4, hb4⟩
        obtain ⟨A5, c5, rfl, _, hC5⟩ := Kd.R_reads hv4
        refine ⟨_, rfl, ?_⟩
        refine hK.out _ _ ((blk_cell (blk_below (blk_drew HBL.out) hb4) 0).trans rfl) (fun hHeld => ?_)
        clear hK K
        refine norm_ (a' := ?_) ?_ ?_
        rotate_left
        · show Act.put _ (some 61) _ = _
          simp only [Act.put, List.setIfInBounds_toArray, List.set_cons_zero, List.set_cons_succ, i64_w, i32_w]
          rfl
        refine one_ (i := 6) (N := some 66) #[true, true, true, true, true, true, true, false, false, false, false] rfl rfl (by kernel_rfl) (by decide) (fun K hK => ?_)
        refine goes_ Try.func40 (by kernel_rfl) rfl #[.slice A5 ws.length c5, .slice Ar ws.length cr] (by rfl) rfl rfl (by first | (simp only [List.map_toArray, List.map_cons, List.map_nil]; done) | (simp only [List.map_toArray, List.map_cons, List.map_nil]; rfl) | simp) ?_
        with_reducible refine (words15_calls A5 _ c5 ws Ar _ cr ws _ hC5 (Kd.C_below (Kd.C_drew HCR.out) hb4)).mono ?_
        rintro e w5 ⟨rfl, ⟨nd5, rfl⟩⟩
        refine ⟨_, rfl, ?_⟩
        rw [decide_eq_true rfl]
        refine hK.out _ _ ((blk_cell (blk_drewN (blk_below (blk_drew HBL.out) hb4) nd5) 0).trans rfl) (fun hHeld => ?_)
        clear hK K
        refine norm_ (a' := ?_) ?_ ?_
        rotate_left
        · show Act.put _ (some 66) _ = _
          simp only [Act.put, List.setIfInBounds_toArray, List.set_cons_zero, List.set_cons_succ, i64_w, i32_w]
          rfl
        refine pure_ (i := 7) (N := some 67) (v := ?_) (a' := ?_) #[true, true, true, true, true, true, true, true, false, false, false] rfl rfl (by kernel_rfl) (fun _ _ _ h => h) (Or.inl ⟨by rfl, ?_⟩) ?_ ?_
        rotate_left
        · intro w'
          go_simp
          with_reducible rfl
        rotate_left
        · simp only [Act.put, List.setIfInBounds_toArray, List.set_cons_zero, List.set_cons_succ, i64_w, i32_w]
          rfl
        refine one_ (i := 8) (N := some 68) #[true, true, true, true, true, true, true, true, true, false, false] rfl rfl (by kernel_rfl) (by decide) (fun K hK => ?_)
        refine goes_ Try.func28 (by kernel_rfl) rfl #[] (by rfl) rfl rfl (by first | (simp only [List.map_toArray, List.map_cons, List.map_nil]; done) | (simp only [List.map_toArray, List.map_cons, List.map_nil]; rfl) | simp) ?_
        with_reducible refine (awake15_calls _).mono ?_
        rintro e w6 ⟨rfl, hb6⟩
        refine ⟨_, rfl, ?_⟩
        refine hK.out _ _ ((blk_cell (blk_below (blk_drewN (blk_below (blk_drew HBL.out) hb4) nd5) hb6) 0).trans rfl) (fun hHeld => ?_)
        clear hK K
        refine norm_ (a' := ?_) ?_ ?_
        rotate_left
        · show Act.put _ (some 68) _ = _
          simp only [Act.put, List.setIfInBounds_toArray, List.set_cons_zero, List.set_cons_succ, i64_w, i32_w]
          rfl
        refine pure_ (i := 9) (N := some 69) (v := ?_) (a' := ?_) #[true, true, true, true, true, true, true, true, true, true, false] rfl rfl (by kernel_rfl) (fun _ _ _ h => h) (Or.inl ⟨by rfl, ?_⟩) ?_ ?_
        rotate_left
        · intro w'
          go_simp
          with_reducible rfl
        rotate_left
        · simp only [Act.put, List.setIfInBounds_toArray, List.set_cons_zero, List.set_cons_succ, i64_w, i32_w]
          rfl
        refine pure_ (i := 10) (N := some 2) (v := ?_) (a' := ?_) #[true, true, true, true, true, true, true, true, true, true, true] rfl rfl (by kernel_rfl) (fun _ _ _ h => h) (Or.inl ⟨by rfl, ?_⟩) ?_ ?_
        rotate_left
        · intro w'
          go_simp
          with_reducible rfl
        rotate_left
        · simp only [Act.put, List.setIfInBounds_toArray, List.set_cons_zero, List.set_cons_succ, i64_w, i32_w]
          rfl
        refine done_ (by kernel_rfl) ?_
        go_wp2
        go_ret
        exact ⟨rfl, below_step (pw_below_drewN (below_step (below_drew1 HB.out) hb4) nd5) hb6⟩
namespace dictPuts
open Go.ChangeShapes Go.WideShapes Go.ChangeAt Go.RowKit
open Go.ChangeMaps (open_string shut_string)
theorem own : ownKnob Try.prog.godebug = none := by kernel_rfl
theorem laidOut : laidOutB Try.prog = true := by kernel_rfl
set_option maxRecDepth 100000 in
theorem lifted (os : Os) (started : os.Started) (H : Type) (enc : TypeId × Value → H) :
    ReturnsInHanded {} Try.checked os 10 .any (Rows.dictPutsSpec.pre6 enc Try.prog Try.f10 Rows.dictPutsRow.domain false) (Rows.dictPutsSpec.post enc Try.prog Try.f10 false true false false) := by
  refine returnsInHanded_of_change_sized (C := Try.checked) own started (by kernel_rfl) Try.func10
    (ChangeSpec.witness6 (enc := enc) (C := Try.checked) false ⟨#[], #[.slice none 0 0], []⟩ 8 (by kernel_rfl) (by kernel_rfl) (by kernel_rfl) (by kernel_rfl)) ?_
  intro W base args ds gs before hval0 hW hcnd hsz0 _
  have hsz : (DataW.weightsEach Try.prog (Try.f10.params.toList ++ Rows.dictPutsSpec.plain.varTypes Try.prog) (ds ++ gs)).all (· ≤ reachBytes) = true := hsz0
  have hval : ∀ (j : Nat) t v, Try.f10.params[j]? = some t → args[j]? = some v → Value.okWide Try.prog W .any base t v := hval0
  have hW' := hW
  obtain ⟨p, q, hA0, hV, rfl, hfz, hnd⟩ := hW
  have hA : DataW.TrodAll enc Try.prog W 0 (fun _ => true) true Try.f10.params.toList args.toList ds p := hA0
  rw [Try.params10] at hA hval hsz
  obtain ⟨v0, vs0, d0, ds0, p0, q0, hargs, rfl, rfl, h0, r0⟩ := trodAll_cons hA
  obtain ⟨rfl, rfl, rfl⟩ := trodAll_nil r0
  obtain rfl : args = #[v0] := by cases args; simp_all
  obtain ⟨rfl, rfl⟩ := trodVars_none hV
  obtain ⟨a0, len0, cap0, rfl⟩ := okWide_slice Try.underlying64 (hval 0 64 v0 rfl rfl)
  have k0 := h0
  have lt0 : ∀ x ∈ p0, x.block < W.heap.size := by obtain ⟨m, hm⟩ := k0; exact DataW.trod_lt m _ _ _ hm
  have y0 : len0 * 16 ≤ 140737488351232 := sized_strs hsz (j := 0) (t := 64) rfl rfl Try.underlying64 Try.underlying9 (by kernel_rfl) (by kernel_rfl) h0
  obtain ⟨l0, c0, b0, e0⟩ := open_srow Try.underlying64 Try.underlying9 (by kernel_rfl) (by omega) h0
  obtain rfl := c0.1.symm
  clear hA0 hval0 hsz0 hsz
  refine (dictPuts_walk a0 cap0 l0 W c0 b0 y0 e0).mono fun e W' ⟨he, bel⟩ => ?_
  subst he
  exact ⟨_, rfl, _, _, _, [], _, [], hW', trodAll_mk1 (shut_bool Try.underlying4 _), (trodAll_cons_mk (Below.trod laidOut (by kernel_rfl) (of_decide_eq_true (by kernel_rfl)) k0 bel lt0) trodAll_mk0), rfl, bel.frame _, fun h => by cases h⟩
theorem over : Rows.dictPutsRow.holds Try.pinned (OpenSpec.ofChange Rows.dictPutsSpec) :=
  OpenClaim.holds_of_wide 10 Try.f10 rfl rfl rfl rfl rfl rfl rfl ⟨rfl, rfl, rfl, rfl, rfl⟩ rfl rfl rfl rfl rfl (by kernel_rfl) Try.func10 (by kernel_rfl)
    (of_decide_eq_true (by kernel_rfl)) (by unfold Func.isWrapper; first | (rw [if_pos (by decide +kernel)]; kernel_rfl) | (rw [if_neg (by decide +kernel)]; exact ⟨rfl, rfl⟩))
    (fun os started H enc _ => lifted os started H enc)
theorem proved : Rows.DictPutsSaid := over
end dictPuts
/-- The row, under a short name, for the claim. -/
theorem dictPuts_holds : Rows.DictPutsSaid := dictPuts.proved
#print axioms dictPuts_holds
end Go.Proofs.Ytmbfjaogimkncaa
