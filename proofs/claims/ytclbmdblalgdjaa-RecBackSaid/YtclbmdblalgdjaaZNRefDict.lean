/- The document's dictionary: Find and Put: what they tell and turn; no condition. -/
import Derived.Test.YtclbmdblalgdjaaZNDictGet
import Derived.Test.YtclbmdblalgdjaaZNInjV
namespace Go.Proofs.Ytclbmdblalgdjaa
open Go.RowKit Go.Proofs.YtclbmdblalgdjaaW.PrintWords Go.Proofs.YtclbmdblalgdjaaW.PrintLast Go.Proofs.YtclbmdblalgdjaaW.PrintMore
set_option linter.unusedVariables false
set_option linter.unusedSimpArgs false
structure RDic where
  g : Nat
  v : Value
  ws : List ByteArray
def RDic.F (d : RDic) (k : Nat) : Prop := k = d.g ∨ some k = d.v.ownBlock
structure RDicAt (d : RDic) (w : World) : Prop where
  blk : w.heap[d.g]? = some (.cells #[d.v] 40 (0, 0))
  row : Kd.string.R 9 w 0 (fun k => some k = d.v.ownBlock) d.v d.ws
  few : d.ws.length ≤ 65536
section
variable {d : RDic} {w w' : World} {S : Nat → Prop}
theorem RDicAt.step (h : RDicAt d w) (hc : Chg S w w') (hs : ∀ k, d.F k → ¬ S k) : RDicAt d w' where
  blk := (hc.block _ (blk_lt h.blk) (hs _ (.inl rfl))).trans h.blk
  row := Kd.R_step h.row (fun k hk hl => hc.block k hl (hs k (.inr hk)))
  few := h.few
theorem RDicAt.below (h : RDicAt d w) (hb : Below w.heap.size w w') : RDicAt d w' := h.step (Chg.of_below hb (fun _ => False)) (fun _ _ h => h)
theorem RDicAt.lt (h : RDicAt d w) : ∀ k, d.F k → k < w.heap.size := by
  rintro k (rfl | hk)
  · exact blk_lt h.blk
  · exact Kd.R_lt h.row k hk.symm
theorem RDicAt.slice (h : RDicAt d w) : ∃ A c, d.v = .slice A d.ws.length c ∧ d.ws.length ≤ c ∧ Kd.string.C w A d.ws.length d.ws := Kd.R_reads h.row
theorem RDicAt.own_g (h : RDicAt d w) : some d.g ≠ d.v.ownBlock := Kd.R_ne h.row h.blk (by decide)
end
def RTurn (d : RDic) (ws' : List ByteArray) (w w' : World) : Prop := ∃ v', RDicAt ⟨d.g, v', ws'⟩ w' ∧ Chg d.F w w' ∧ (v'.ownBlock = d.v.ownBlock ∨ ∃ k, v'.ownBlock = some k ∧ w.heap.size ≤ k)
theorem RTurn.same {d : RDic} {w w' : World} (h : RDicAt d w) (hc : Chg (fun _ => False) w w') : RTurn d d.ws w w' := ⟨d.v, h.step hc (fun _ _ h => h), hc.mono (fun _ _ h => h.elim), .inl rfl⟩
theorem RTurn.below {d : RDic} {ws : List ByteArray} {w w1 w2 : World} (h : RTurn d ws w w1) (hb : Below w1.heap.size w1 w2) : RTurn d ws w w2 := by
  obtain ⟨v, h1, h2, h3⟩ := h
  exact ⟨v, h1.below hb, h2.below hb, h3⟩
theorem RTurn.fresh {d : RDic} {v' : Value} {ws' : List ByteArray} {B : Nat} {w : World} (hB : B ≤ w.heap.size) (hF : ∀ k, d.F k → B ≤ k) (ho : v'.ownBlock = d.v.ownBlock ∨ ∃ k, v'.ownBlock = some k ∧ w.heap.size ≤ k) : ∀ k, (⟨d.g, v', ws'⟩ : RDic).F k → B ≤ k := by
  rintro k (hk | hk)
  · exact hF k (.inl hk)
  · have hk2 : some k = v'.ownBlock := hk
    rcases ho with ho | ⟨j, hj, hl⟩
    · exact hF k (.inr (hk2.trans ho))
    · rw [hj] at hk2
      injection hk2 with e
      omega
theorem RTurn.next {d : RDic} {v' : Value} {ws' : List ByteArray} {w : World} (ho : v'.ownBlock = d.v.ownBlock ∨ ∃ k, v'.ownBlock = some k ∧ w.heap.size ≤ k) : ∀ k, (⟨d.g, v', ws'⟩ : RDic).F k → d.F k ∨ w.heap.size ≤ k := by
  rintro k (hk | hk)
  · exact .inl (.inl hk)
  · have hk2 : some k = v'.ownBlock := hk
    rcases ho with ho | ⟨j, hj, hl⟩
    · exact .inl (.inr (hk2.trans ho))
    · rw [hj] at hk2
      injection hk2 with e
      exact .inr (by omega)
theorem find_step {ws : List ByteArray} {s : ByteArray} {i : Nat} (hi : i < ws.length) : findFrom s (ws.drop i) i = if ws.getD i ByteArray.empty = s then i + 1 else findFrom s (ws.drop (i + 1)) (i + 1) := by
  rw [List.drop_eq_getElem_cons hi, List.getD_eq_getElem?_getD, List.getElem?_eq_getElem hi]
  rfl
set_option maxHeartbeats 2000000 in
set_option maxRecDepth 100000 in
theorem rfind_calls (d : RDic) (s : ByteArray) (w : World) (h : RDicAt d w) : Calls Try.prog 80 #[.pointer (some ⟨d.g, 0, none⟩), .string s] w fun e w' => e = .returned (.int .i64 (findW d.ws s : Nat)) ∧ Drawn0 w w' := by
  obtain ⟨A, c, hv, hc, hC⟩ := h.slice
  have c0 := (blk_cell h.blk 0).trans rfl
  rw [hv] at c0
  have HC := Aside0.mk hC
  have hfew := h.few
  clear h hv hC
  obtain ⟨ws, hws⟩ : ∃ ws, d.ws = ws := ⟨_, rfl⟩
  rw [hws] at c0 HC hc hfew ⊢
  clear hws
  go_enter Try.func80, Try.ntmps80
  go_wp2
  go_loopw [5] (fun v5 w' => ∃ i : Int, v5 = .int .i64 i ∧ 0 ≤ i ∧ i ≤ (ws.length : Int) ∧ Aside0 (findFrom s (ws.drop i.toNat) i.toNat = findW ws s) ∧ Drawn0 w w') (fun v5 _ => ws.length - (intOf v5).toNat)
  case atStart => exact ⟨0, rfl, by omega, by omega, ⟨rfl⟩, by repeat (first | exact Drawn0.refl _ | apply Drawn0.step)⟩
  case round =>
    obtain ⟨i, rfl, h0, hi, HT, ⟨m1, rfl⟩⟩ := hrel
    by_cases hlt : i < (ws.length : Int)
    · obtain ⟨ad, e, hx⟩ := str_at HC.out i h0 hlt
      cases e
      have HT1 := HT.out
      rw [find_step (by omega)] at HT1
      obtain ⟨t, ht⟩ : ∃ t, ws.getD i.toNat ByteArray.empty = t := ⟨_, rfl⟩
      rw [ht] at hx HT1
      clear ht
      by_cases hq : t = s
      · rw [if_pos hq] at HT1
        have HT2 := Aside0.mk HT1
        subst hq
        clear HT1 HT
        go_wp2
        go_ret
        exact ⟨by rw [← HT2.out, show ((i.toNat + 1 : Nat) : Int) = i + 1 by omega]; rfl, by repeat (first | exact Drawn0.refl _ | apply Drawn0.step)⟩
      · rw [if_neg hq] at HT1
        have HT2 := Aside0.mk HT1
        have hq1 : (t.toList == s.toList) = false := strB_ne hq
        clear HT1 HT hq
        go_wp2
        go_roundw
        case rel => exact ⟨i + 1, by go_num, by omega, by omega, by rw [show (i + 1).toNat = i.toNat + 1 by omega]; exact HT2, by repeat (first | exact Drawn0.refl _ | apply Drawn0.step)⟩
        case measure => simp [intOf]; omega
    · have HE := Aside0.mk (show findW ws s = 0 by rw [← HT.out, List.drop_eq_nil_of_le (by omega)]; rfl)
      go_wp2
      go_ret
      exact ⟨by rw [HE.out]; rfl, by repeat (first | exact Drawn0.refl _ | apply Drawn0.step)⟩
theorem bytes_next {s : ByteArray} {i : Int} (h0 : 0 ≤ i) (h1 : i < s.size) : (bytesOf s).take (i + 1).toNat = (bytesOf s).take i.toNat ++ [bt s i] := by
  have e : (i + 1).toNat = i.toNat + 1 := by omega
  have hl : i.toNat < (bytesOf s).length := by rw [bytesOf_length]; omega
  rw [e, List.take_succ_eq_append_getElem hl, ← rd_bytesOf]
  unfold rd
  rw [List.getD_eq_getElem?_getD, List.getElem?_eq_getElem hl]
  rfl
set_option maxHeartbeats 4000000 in
set_option maxRecDepth 100000 in
theorem rput_calls (d : RDic) (s : ByteArray) (w : World) (h : RDicAt d w) (hs : s.size ≤ 140737488350000) :
    Calls Try.prog 36 #[.pointer (some ⟨d.g, 0, none⟩), .string s] w fun e w' => ∃ v, e = .returned (.tuple #[v, .int .i64 (dput d.ws s).2.1]) ∧ (Kd.int .u8).R 5 w' w.heap.size (fun _ => True) v (dput d.ws s).1 ∧ RTurn d (dput d.ws s).2.2 w w' := by
  have H := Aside0.mk h
  have hfew := h.few
  have HFD := Aside0.mk (rfind_calls d s w h)
  obtain ⟨k, hk⟩ : ∃ k, findW d.ws s = k := ⟨_, rfl⟩
  have hk2 : k ≤ d.ws.length := by rw [← hk]; exact find_le _ _
  rw [hk] at HFD
  have HK := Aside0.mk hk
  clear h hk
  by_cases h0 : 0 < k
  · have e1 : dput d.ws s = (vput k, 0, d.ws) := by unfold dput; rw [HK.out, if_pos h0]
    rw [e1]
    have HB := Aside0.mk (Below.refl w.heap.size w)
    clear e1
    have hku : IntKind.u64.wrap (k : Int) = (k : Int) := wrap_u64_nat (by omega)
    go_enter Try.func36, Try.ntmps36
    go_wp2_with fail
    with_reducible refine Calls.stepB (Calls.dB HFD.out) ⟨(by repeat (first | (with_reducible first | exact HB.out | apply below_alloc | apply pw_below_drewN | apply below_drew1) | exact HB.out))⟩ ?_
    clear HB
    intro w_ HK HB
    clear HK
    go_wp2_with fail
    with_reducible refine Calls.stepR (refput_calls k (by omega) _) ⟨(by repeat (first | (with_reducible first | exact HB.out | apply below_alloc | apply pw_below_drewN | apply below_drew1) | exact HB.out))⟩ ?_
    clear HB
    intro A1 c1 w_ HK HR1 HC1 HB
    clear HK
    go_wp2
    go_ret2
    exact ⟨_, rfl, HR1.out, RTurn.same H.out (Chg.of_below HB.out _)⟩
  obtain ⟨A, c, hv, hc, hC⟩ := H.out.slice
  by_cases hbad : 200 < s.size ∨ 65536 ≤ d.ws.length
  · have e1 : dput d.ws s = ([], 12, d.ws) := by unfold dput; rw [HK.out, if_neg h0, if_pos hbad]
    rw [e1]
    clear e1 hv hC
    have hbad2 : (200 < s.size) ∨ (¬ 200 < s.size ∧ 65536 ≤ d.ws.length) := by omega
    clear hbad
    rcases hbad2 with hb1 | ⟨hb1, hb2⟩
    · have b1 : decide (200 < (s.size : Int)) = true := decide_eq_true (by omega)
      clear hb1
      have HB := Aside0.mk (Below.refl w.heap.size w)
      go_enter Try.func36, Try.ntmps36
      go_wp2_with fail
      with_reducible refine Calls.stepB (Calls.dB HFD.out) ⟨(by repeat (first | (with_reducible first | exact HB.out | apply below_alloc | apply pw_below_drewN | apply below_drew1) | exact HB.out))⟩ ?_
      clear HB
      intro w_ HK HB
      clear HK
      go_wp2
      go_ret2
      exact ⟨_, rfl, Kd.R_nil _ _ _ _ _, RTurn.same H.out (Chg.of_below HB.out _)⟩
    · have b1 : decide (200 < (s.size : Int)) = false := decide_eq_false (by omega)
      have b2 : ((d.ws.length : Int) == 65536) = true := by simp; omega
      have HB := Aside0.mk (Below.refl w.heap.size w)
      clear hb1 hb2
      go_enter Try.func36, Try.ntmps36
      go_wp2_with fail
      with_reducible refine Calls.stepB (Calls.dB HFD.out) ⟨(by repeat (first | (with_reducible first | exact HB.out | apply below_alloc | apply pw_below_drewN | apply below_drew1) | exact HB.out))⟩ ?_
      clear HB
      intro w_ HK HB
      clear HK
      have c0 := (blk_cell (blk_below H.out.blk HB.out) 0).trans rfl
      obtain ⟨A, c, hv, hc, hC⟩ := H.out.slice
      rw [hv] at c0
      clear hv hC
      go_wp2
      go_ret2
      exact ⟨_, rfl, Kd.R_nil _ _ _ _ _, RTurn.same H.out (Chg.of_below HB.out _)⟩
  · have e1 : dput d.ws s = (vput 0 ++ vput s.size ++ bytesOf s, 0, d.ws ++ [s]) := by unfold dput; rw [HK.out, if_neg h0, if_neg hbad]
    rw [e1]
    have b1 : decide (200 < (s.size : Int)) = false := decide_eq_false (by omega)
    have b2 : ((d.ws.length : Int) == 65536) = false := by simp; omega
    have hs200 : s.size ≤ 200 := by omega
    have HL := Aside0.mk (show d.ws.length < 65536 by omega)
    have hsu : IntKind.u64.wrap (s.size : Int) = (s.size : Int) := wrap_u64_nat (by omega)
    have HV := Aside0.mk hv
    have hR := H.out.row
    rw [hv] at hR
    have HR := Aside0.mk hR
    have HB := Aside0.mk (Below.refl w.heap.size w)
    clear e1 hbad hv hC hR
    obtain ⟨n1, hn1⟩ : ∃ n1, n1 = d.ws.length + 1 := ⟨_, rfl⟩
    have hn2 : n1 ≤ 65536 := by have := HL.out; omega
    have HN1 := Aside0.mk hn1
    clear hn1
    go_enter Try.func36, Try.ntmps36
    go_wp2_with fail
    with_reducible refine Calls.stepB (Calls.dB HFD.out) ⟨(by repeat (first | (with_reducible first | exact HB.out | apply below_alloc | apply pw_below_drewN | apply below_drew1) | exact HB.out))⟩ ?_
    clear HB
    intro w_ HK HB
    clear HK
    have HD1 := Aside0.mk (H.out.below HB.out)
    have c0 := (blk_cell HD1.out.blk 0).trans rfl
    rw [HV.out] at c0
    have n0 := Aside0.mk (Kd.R_below HR.out HB.out)
    clear HR
    have HR := n0
    clear n0
    obtain ⟨wa, rfl⟩ : ∃ wa : World, wa = w_ := ⟨_, rfl⟩
    go_wp2_with (first | ((with_reducible refine gate_dst (N := 35) rfl ?_); at_builtin; go_must (refine R_app_str (v := .slice A d.ws.length c) rfl rfl rfl rfl uSs iSs HR.out (Nat.zero_le _) (by have := HL.out; omega) HN1.out ?_); intro g1 c1' w1 hr1 hg1 hat1 hlt1; have HR1 := Aside0.mk hr1; have HG1 := Aside0.mk hg1; have HAT := Aside0.mk hat1; have hblk := (hg1.block _ (blk_lt HD1.out.blk) (by have h := HD1.out.own_g; rwa [HV.out] at h)).trans HD1.out.blk; have HBLK := Aside0.mk hblk; have f0 := blk_frozen hblk 0; have c01 := (blk_cell hblk 0).trans rfl; clear hr1 hg1 hat1 hblk))
    have HBS := Aside0.mk ((blk_put HBLK.out 0 (.slice (some ⟨g1, 0, none⟩) n1 c1') rfl).trans rfl)
    have hg1 : g1 ≠ d.g := by
      have e1 := HD1.out.own_g
      have e2 := blk_lt HD1.out.blk
      rcases HAT.out with hat | hat
      · rw [HV.out, ← hat] at e1
        exact fun e => e1 (by rw [e])
      · omega
    have HD2 := Aside0.mk (show RDicAt ⟨d.g, .slice (some ⟨g1, 0, none⟩) n1 c1', d.ws ++ [s]⟩ (w1.setCell ⟨d.g, 0, none⟩ (.slice (some ⟨g1, 0, none⟩) n1 c1')) from by
      refine ⟨HBS.out, Kd.R_step HR1.out (fun k hk hl => ?_), ?_⟩
      · have e : k = g1 := by injection hk
        subst e
        exact Below.heap_setCell w1 _ _ k hg1
      · rw [List.length_append]
        have := HL.out
        show d.ws.length + 1 ≤ 65536
        omega)
    have hC1 : Chg d.F wa (w1.setCell ⟨d.g, 0, none⟩ (.slice (some ⟨g1, 0, none⟩) n1 c1')) := (Chg.of_grown HG1.out (fun k hk => .inr (by rw [HV.out, hk]))).setCell (.inl (.inl rfl)) _
    have HT := Aside0.mk (show RTurn d (d.ws ++ [s]) w (w1.setCell ⟨d.g, 0, none⟩ (.slice (some ⟨g1, 0, none⟩) n1 c1')) from by
      refine ⟨_, HD2.out, (Chg.of_below HB.out d.F).trans hC1 (fun k h => .inl h), ?_⟩
      rcases HAT.out with hat | hat
      · left
        rw [HV.out, ← hat]
        rfl
      · exact .inr ⟨g1, rfl, Nat.le_trans (below_size HB.out) hat⟩)
    obtain ⟨wc, hwc⟩ : ∃ wc, w1.setCell ⟨d.g, 0, none⟩ (.slice (some ⟨g1, 0, none⟩) n1 c1') = wc := ⟨_, rfl⟩
    rw [hwc] at HT
    have HWS := Aside0.mk (show wc.heap.size = w1.heap.size by rw [← hwc]; simp [World.setCell])
    go_wp2_with fail
    rw [hwc]
    have HBO := HB
    clear HB HD2 hC1 HBS HR1 HG1 HAT HBLK hwc c01 c0 f0 HR HD1
    have HB := Aside0.mk (Below.refl wc.heap.size wc)
    have HL0 := Aside0.mk (show (Kd.int .u8).R 5 (wc.alloc (.cells #[.int .u8 0] 5)) wc.heap.size (fun _ => True) (.slice (some ⟨w1.heap.size, 0, none⟩) 1 1) [0] from by
      rw [← HWS.out]
      exact R_lit_u8 5 (Nat.le_refl _) [0] (by simp))
    have HV1 := Aside0.mk (show (vput s.size).length ≤ 10 from vput_len10 s.size (by omega))
    have HL1 := Aside0.mk (show ([0] : List Int).length + (vput s.size).length ≤ 140737488355328 by have := HV1.out; simp; omega)
    go_wp2_with fail
    with_reducible refine Calls.stepR (refput_calls s.size (by omega) _) ⟨(by repeat (first | (with_reducible first | exact HB.out | apply below_alloc | apply pw_below_drewN | apply below_drew1) | exact HB.out))⟩ ?_
    clear HB
    intro A2 c2 w_ HK HR2 HC2 HB
    have n0 := Aside0.mk (Kd.R_below (by first | (with_reducible exact HL0.out) | ((with_reducible repeat (first | apply Kd.R_alloc | apply Kd.R_drewN | apply Kd.R_drew)); exact HL0.out)) HK.out)
    clear HL0
    have HL0 := n0
    clear n0
    clear HK
    go_wp2_with (first | ((with_reducible refine gate_dst (N := 43) rfl ?_); at_builtin; go_must (refine R_apps_u8 rfl rfl rfl rfl uB iB HL0 HC2.out HB HL1 ?_); intro v1 w2 hr hb; clear HL0 HR2 HC2 HB; have HR3 := hr; have HB := hb; clear hr hb))
    go_loopw [7, 8] (fun v7 v8 w' => ∃ i : Int, v8 = .int .i64 i ∧ 0 ≤ i ∧ i ≤ (s.size : Int) ∧ Aside0 ((Kd.int .u8).R 5 w' wc.heap.size (fun _ => True) v7 ([0] ++ vput s.size ++ (bytesOf s).take i.toNat)) ∧ Aside0 (Below wc.heap.size wc w')) (fun _ v8 _ => s.size - (intOf v8).toNat)
    case atStart => exact ⟨0, rfl, by omega, by omega, by rw [show (0 : Int).toNat = 0 from rfl, List.take_zero, List.append_nil]; exact HR3, HB⟩
    case round =>
      clear HB HR3
      obtain ⟨i, rfl, hi0, hi, HR3, HB⟩ := hrel
      by_cases hlt : i < (s.size : Int)
      · have hx8 := bt_at s i
        have hp8 : i.toNat < s.size := by omega
        have HN := Aside0.mk (bytes_next hi0 hlt)
        have HL2 := Aside0.mk (show ([0] ++ vput s.size ++ (bytesOf s).take i.toNat).length < 140737488355328 by
          have := HV1.out
          have := List.length_take_le i.toNat (bytesOf s)
          simp only [List.length_append, List.length_cons, List.length_nil]
          omega)
        go_wp2_with (first | ((with_reducible refine gate_dst (N := 55) rfl ?_); at_builtin; go_must (refine R_app_u8 (p := bt s i) rfl rfl rfl rfl uB iB HR3 HB HL2 ?_); intro v1 w2 hr hb; clear HR3 HB; have HR3 := hr; have HB := hb; clear hr hb))
        go_roundw
        case rel => exact ⟨i + 1, by go_num, by omega, by omega, by rw [HN.out, ← List.append_assoc]; exact HR3, HB⟩
        case measure => simp [intOf]; omega
      · have hie : (bytesOf s).take i.toNat = bytesOf s := List.take_of_length_le (by rw [bytesOf_length]; omega)
        rw [hie] at HR3
        clear hie
        go_wp2
        go_ret2
        obtain ⟨vd, hT1, hT2, hT3⟩ := HT.out
        refine ⟨_, rfl, ?_, RTurn.below HT.out HB.out⟩
        rw [show vput 0 = [0] from vput_lt (by decide)]
        exact Kd.R_lower HR3.out hT2.size
end Go.Proofs.Ytclbmdblalgdjaa
