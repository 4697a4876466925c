/- DictExact: what is got is put as just the bytes that it was got of; and a word that is got is of its class: its walk; no condition. -/
import Derived.Test.YtmbfjaogimkncaaPlExact
import Derived.Test.YtmbfjaogimkncaaLawKit
import Derived.Test.YtmbfjaogimkncaaRows
namespace Go.Proofs.Ytmbfjaogimkncaa
open Go.RowKit Go.Proofs.YtmbfjaogimkncaaW.PrintWords Go.Proofs.YtmbfjaogimkncaaW.PrintLast Go.Proofs.YtmbfjaogimkncaaW.PrintMore
set_option linter.unusedVariables false
set_option linter.unusedSimpArgs false
theorem curleft_at {ok : Nat → Prop} (g : Nat) (s : Cu) (a : Int) (w : World) (h : CurAt ok g s w) (hp : (s.b.length : Int) - s.pos = a) : Calls Try.prog 44 #[.pointer (some ⟨g, 0, none⟩)] w fun e w' => e = .returned (.int .i64 a) ∧ Drawn0 w w' := by
  have h2 := curleft_calls g s w h
  rw [hp] at h2
  exact h2
theorem curat_at {ok : Nat → Prop} (g : Nat) (s : Cu) (a : Nat) (w : World) (h : CurAt ok g s w) (hp : s.pos = a) : Calls Try.prog 39 #[.pointer (some ⟨g, 0, none⟩)] w fun e w' => e = .returned (.int .i64 a) ∧ Drawn0 w w' := by
  have h2 := curat_calls g s w h
  rw [hp] at h2
  exact h2
theorem diclen_at (d : Dic) (w : World) (h : DicAt d w) {n : Nat} (hn : d.ws.length = n) : Calls Try.prog 31 #[.pointer (some ⟨d.g, 0, none⟩)] w fun e w' => e = .returned (.int .i64 n) ∧ w = w' := by
  subst hn
  exact diclen_calls d w h
/-- Two dictionaries with the same words, and a Cur, all apart. -/
structure Ex (ok : Nat → Prop) (gc : Nat) (s : Cu) (d o : Dic) (w W : World) : Prop where
  cur : CurAt ok gc s W
  dic : DicAt d W
  oth : DicAt o W
  ap : ∀ k, ok k → ¬ d.F k
  apo : ∀ k, ok k → ¬ o.F k
  apd : ∀ k, o.F k → ¬ d.F k
  okr : ∀ k, ok k → w.heap.size ≤ k ∧ k < W.heap.size
  df : ∀ k, d.F k → w.heap.size ≤ k
  of : ∀ k, o.F k → w.heap.size ≤ k
  bel : Below w.heap.size w W
section
variable {ok : Nat → Prop} {gc : Nat} {s s' : Cu} {d d' o o' : Dic} {w W W' : World}
theorem Ex.below (h : Ex ok gc s d o w W) (hb : Below W.heap.size W W') : Ex ok gc s d o w W' :=
  ⟨h.cur.below hb, h.dic.below hb, h.oth.below hb, h.ap, h.apo, h.apd, fun k hk => ⟨(h.okr k hk).1, Nat.lt_of_lt_of_le (h.okr k hk).2 hb.size⟩, h.df, h.of, below_step h.bel hb⟩
end
/-- A word is got, in a law. -/
theorem Calls.stepGet2 {ok : Nat → Prop} {d : Dic} {g : Nat} {s s' : Cu} {t : ByteArray} {ws' : List ByteArray} {kind : Int} {w W : World} {Q : Ending → World → Prop} (he : dget d.ws s kind = (t, s', ws')) (hs : s.sane) (HC : Aside0 (CurAt ok g s W)) (HD : Aside0 (DicAt d W)) (hap : Aside0 (∀ k, ok k → ¬ d.F k)) (hok : Aside0 (∀ k, ok k → w.heap.size ≤ k ∧ k < W.heap.size))
    (HF : Aside0 (∀ k, d.F k → w.heap.size ≤ k)) (HB : Aside0 (Below w.heap.size w W))
    (k : ∀ vd w', Aside0 (CurAt ok g s' w') → Aside0 (DicAt ⟨d.g, d.gm, vd, ws'⟩ w') → Aside0 (∀ k, ok k → ¬ (⟨d.g, d.gm, vd, ws'⟩ : Dic).F k) → Aside0 (∀ k, ok k → w.heap.size ≤ k ∧ k < w'.heap.size) → Aside0 (∀ k, (⟨d.g, d.gm, vd, ws'⟩ : Dic).F k → w.heap.size ≤ k) → Aside0 (Chg (fun k => k = g ∨ d.F k) W w') → Aside0 (∀ k, (⟨d.g, d.gm, vd, ws'⟩ : Dic).F k → d.F k ∨ W.heap.size ≤ k) → Aside0 (Below w.heap.size w w') → Q (.returned (.string t)) w') :
    Calls Try.prog 33 #[.pointer (some ⟨d.g, 0, none⟩), .pointer (some ⟨g, 0, none⟩), .int .i64 kind] W Q := by
  refine (dicget_calls d g s kind W ⟨HC.out, HD.out, Chg.refl _ _, hap.out⟩ hs).mono ?_
  rintro e w' ⟨h1, h2, vd, h3, h4, h5⟩
  rw [he] at h1 h2 h3
  subst h1
  have hsz := below_size HB.out
  refine k vd w' ⟨h2⟩ ⟨h3⟩ ⟨?_⟩ ⟨fun k hk => ⟨(hok.out k hk).1, Nat.lt_of_lt_of_le (hok.out k hk).2 h4.size⟩⟩ ⟨DTurn.fresh hsz HF.out h5⟩ ⟨h4⟩ ⟨DTurn.next h5⟩ ⟨HB.out.trans (h4.to_below (fun k hk => hk.elim (fun e => e ▸ (hok.out g HC.out.okg).1) (HF.out k)) hsz)⟩
  rintro k hk (h | h | h)
  · exact hap.out k hk (.inl h)
  · exact hap.out k hk (.inr (.inl h))
  · have hk2 : some k = vd.ownBlock := h
    rcases h5 with ho | ⟨j, hj, hl⟩
    · exact hap.out k hk (.inr (.inr (hk2.trans ho)))
    · rw [hj] at hk2
      injection hk2 with e
      have := (hok.out k hk).2
      omega
attribute [local go_sem high] eqFault
set_option maxHeartbeats 16000000 in
set_option maxRecDepth 100000 in
theorem dictExact_walk (A : Option Addr) (c : Nat) (l : List Int) (kind : Int) (w : World) (hC : (Kd.int .u8).C w A l.length l) (hwf : ∀ x ∈ l, (Lit.int .u8 x).wf = true) (hsz : l.length * 1 ≤ 140737488351232) (hcap : l.length ≤ c) (hkb : -9223372036854775808 ≤ kind ∧ kind ≤ 9223372036854775807) :
    Calls Try.prog 12 #[.slice A l.length c, .int .i64 kind] w fun e w' => e = .returned (.bool true) ∧ Below w.heap.size w w' := by
  have HCW := Aside0.mk hC
  have HL := Aside0.mk (bytes_of_wf hwf)
  clear hC hwf hsz hkb
  have HB := Aside0.mk (Below.refl w.heap.size w)
  by_cases h400 : 400 < l.length
  · go_enter Try.func12, Try.ntmps12
    go_wp2_with fail
    with_reducible refine Calls.stepB (awake15_calls _) ⟨(by repeat (first | (with_reducible first | exact HB.out | apply below_alloc | apply pw_below_drewN | apply below_drew1) | exact HB.out))⟩ ?_
    clear HB
    intro w_ HK HB
    clear HK
    go_wp2
    go_ret
    exact ⟨rfl, (by repeat (first | (with_reducible first | exact HB.out | apply below_alloc | apply pw_below_drewN | apply below_drew1) | exact HB.out))⟩
  have hl4 : l.length ≤ 400 := by omega
  clear h400
  go_enter Try.func12, Try.ntmps12
  go_wp2_with fail
  with_reducible refine Calls.stepNew HB ?_
  clear HB
  intro g gm w1 HD hnew HF hb1 HB
  clear hnew hb1
  go_wp2_with fail
  with_reducible refine Calls.stepNew HB ?_
  intro go gmo w2 HO hnew HFO hb2 HB2
  have n0 := Aside0.mk (HD.out.below hb2.out)
  have n1 := Aside0.mk (show ∀ k, (⟨go, gmo, .slice none 0 0, []⟩ : Dic).F k → ¬ (⟨g, gm, .slice none 0 0, []⟩ : Dic).F k from fun k hk hF => by have := hnew.out k hk; have := HD.out.lt k hF; omega)
  clear HD HB hnew hb2
  have HD := n0
  have HAPD := n1
  have HB := HB2
  clear n0 n1 HB2
  go_wp2_with fail
  with_reducible refine Calls.stepCur (Kd.C_below HCW.out HB.out) HL.out (by omega) HB ?_
  intro ok gc A' c' w3 HCu hlo HOK hb1 HB3
  have HX := Aside0.mk (show Ex ok gc ⟨A', c', l, 0, 0, 0, false⟩ ⟨g, gm, .slice none 0 0, []⟩ ⟨go, gmo, .slice none 0 0, []⟩ w w3 from
    ⟨HCu.out, HD.out.below hb1.out, HO.out.below hb1.out, fun k hk hF => by have := hlo.out k hk; have := HD.out.lt k hF; omega, fun k hk hF => by have := hlo.out k hk; have := HO.out.lt k hF; omega, HAPD.out, HOK.out, HF.out, HFO.out, HB3.out⟩)
  clear HCu hlo HOK hb1 HB HB3 HD HO HF HFO HAPD
  go_wp2
  go_loopw [8] (fun v8 w' => ∃ (i : Int) (pos : Nat) (vd vo : Value) (ws : List ByteArray), v8 = .int .i64 i ∧ 0 ≤ i ∧ i ≤ (pos : Int) ∧ pos ≤ l.length ∧ Aside0 (Ex ok gc ⟨A', c', l, pos, 0, 0, false⟩ ⟨g, gm, vd, ws⟩ ⟨go, gmo, vo, ws⟩ w w')) (fun v8 _ => 401 - (intOf v8).toNat)
  case atStart => exact ⟨0, 0, _, _, [], rfl, by omega, by omega, by omega, HX⟩
  case round =>
    clear HX
    obtain ⟨i, pos, vd, vo, ws, rfl, hi0, hip, hpl, HX⟩ := hrel
    obtain ⟨wo, rfl⟩ : ∃ wo : World, wo = wr := ⟨_, rfl⟩
    have hil : i ≤ (l.length : Int) := by omega
    obtain ⟨left, hleft⟩ : ∃ left : Nat, left = l.length - pos := ⟨_, rfl⟩
    have HLF := Aside0.mk (fun W (h : CurAt ok gc ⟨A', c', l, pos, 0, 0, false⟩ W) => curleft_at gc _ (left : Int) W h (by simp only; omega))
    by_cases hlp : 0 < left
    · have hpl2 : pos < l.length := by omega
      clear hleft
      go_wp2_with fail
      with_reducible refine (Calls.dB (HLF.out _ HX.out.cur)).mono ?_
      rintro e w4 ⟨rfl, hb⟩
      have n0 := Aside0.mk (HX.out.below hb)
      clear HX hb
      have HX := n0
      clear n0
      go_wp2_with fail
      with_reducible refine (Calls.dB (curat_at gc _ pos _ HX.out.cur rfl)).mono ?_
      rintro e w5 ⟨rfl, hb⟩
      have n0 := Aside0.mk (HX.out.below hb)
      clear HX hb
      have HX := n0
      clear n0
      go_wp2_with fail
      with_reducible refine Calls.stepEq (diclen_calls ⟨g, gm, vd, ws⟩ _ HX.out.dic) ?_
      have hex := get_exact (kind := kind) (s := ⟨A', c', l, pos, 0, 0, false⟩) rfl HL.out HX.out.dic.nd HX.out.dic.short HX.out.dic.few
      have hsn := dget_sane (kind := kind) (ws := ws) (s := ⟨A', c', l, pos, 0, 0, false⟩) (sane0 ..)
      obtain ⟨t, s', ws', he⟩ : ∃ t s' ws', dget ws ⟨A', c', l, pos, 0, 0, false⟩ kind = (t, s', ws') := ⟨_, _, _, rfl⟩
      rw [he] at hex hsn
      have HE := Aside0.mk he
      have HSN := Aside0.mk hsn
      clear he hsn
      rcases hex with ⟨h1, h2, h3⟩ | ⟨h1, h2, h3, h4, xs, h5, h6, h7, h8, h9⟩
      · have h2b : t = ByteArray.empty := h2
        have h3b : ws' = ws := h3
        subst h2b h3b
        have HNF := Aside0.mk (show s'.fine = false from h1)
        clear h1 h2 h3
        go_wp2_with fail
        with_reducible refine Calls.stepGet HE.out (sane0 ..) ⟨HX.out.cur⟩ ⟨HX.out.dic⟩ ⟨HX.out.ap⟩ ⟨HX.out.okr⟩ ⟨HX.out.df⟩ ⟨HX.out.bel⟩ ?_
        intro vd2 w6 n1 n2 n3 n4 n5 n6 n7
        have HO := Aside0.mk (HX.out.oth.step n6.out (fun k hk h => h.elim (fun e => HX.out.apo gc HX.out.cur.okg (e ▸ hk)) (HX.out.apd k hk)))
        have HCu := n1
        have HD := n2
        have HB := n7
        clear n1 n2 n3 n4 n5 n6 n7 HX
        rcases HSN.out.cases with ⟨hf1, hf2, hf3⟩ | ⟨hf1, hf2⟩
        · exact absurd hf1 (by rw [HNF.out]; decide)
        obtain ⟨a, ha⟩ : ∃ a, s'.code = a := ⟨_, rfl⟩
        rw [ha] at hf2
        have HA := Aside0.mk ha
        have ab : (a == 0) = false := beq_eq_false_iff_ne.mpr hf2
        clear hf1 ha hf2
        go_wp2_with fail
        with_reducible refine (curfault_at gc s' a _ _ HCu.out HA.out rfl).mono ?_
        rintro e w7 ⟨rfl, hb⟩
        have n0 := Aside0.mk (HD.out.below hb)
        have n1 := Aside0.mk (HO.out.below hb)
        have n2 := Aside0.mk (below_step HB.out hb)
        clear HD HO HB hb HCu
        have HD := n0
        have HO := n1
        have HB := n2
        clear n0 n1 n2
        go_wp2_with fail
        with_reducible refine Calls.stepEq (diclen_calls ⟨g, gm, vd2, ws'⟩ _ HD.out) ?_
        go_wp2_with fail
        with_reducible refine (dicwords_calls ⟨g, gm, vd2, ws'⟩ _ HD.out).mono ?_
        rintro e w8 ⟨v8, rfl, hv8, hb8⟩
        obtain ⟨A8, c8, rfl, _, hC8⟩ := Kd.R_reads hv8
        have HC8 := Aside0.mk hC8
        have n1 := Aside0.mk (HO.out.below hb8)
        have n2 := Aside0.mk (below_step HB.out hb8)
        clear HD HO HB hb8 hv8 hC8
        have HO := n1
        have HB := n2
        clear n1 n2
        go_wp2_with fail
        with_reducible refine (dicwords_calls ⟨go, gmo, vo, ws'⟩ _ HO.out).mono ?_
        rintro e w9 ⟨v9, rfl, hv9, hb9⟩
        obtain ⟨A9, c9, rfl, _, hC9⟩ := Kd.R_reads hv9
        have HC9 := Aside0.mk hC9
        have n2 := Aside0.mk (below_step HB.out hb9)
        have n3 := Aside0.mk (Kd.C_below HC8.out hb9)
        clear HO HB hb9 hv9 hC9 HC8
        have HB := n2
        have HC8 := n3
        clear n2 n3
        go_wp2_with fail
        with_reducible refine Calls.stepB (Calls.dB (words15_calls A8 _ c8 ws' A9 _ c9 ws' _ HC8.out HC9.out)) ⟨(by repeat (first | (with_reducible first | exact HB.out | apply below_alloc | apply pw_below_drewN | apply below_drew1) | exact HB.out))⟩ ?_
        clear HB
        intro w_ HK HB
        clear HK
        rw [decide_eq_true rfl]
        go_wp2_with fail
        with_reducible refine Calls.stepB (awake15_calls _) ⟨(by repeat (first | (with_reducible first | exact HB.out | apply below_alloc | apply pw_below_drewN | apply below_drew1) | exact HB.out))⟩ ?_
        clear HB
        intro w_ HK HB
        clear HK
        go_wp2
        go_ret
        exact ⟨rfl, (by repeat (first | (with_reducible first | exact HB.out | apply below_alloc | apply pw_below_drewN | apply below_drew1) | exact HB.out))⟩
      · obtain ⟨n, hn⟩ : ∃ n, xs.length = n := ⟨_, rfl⟩
        have h7b : s' = ⟨A', c', l, pos + n, 0, 0, false⟩ := by rw [← hn]; exact h7
        subst h7b
        have hn1 : 1 ≤ n := by omega
        have hn2 : pos + n ≤ l.length := by rw [← hn]; exact h8
        have h9b : (l.drop pos).take n = xs := by rw [← hn]; exact h9
        have HCUT := Aside0.mk h9b
        have HKI := Aside0.mk h2
        have HBI := Aside0.mk (show badI (clsB kind) t = -1 from h3)
        have HTS := Aside0.mk (show t.size ≤ 200 from h4)
        have HP := Aside0.mk (show dput ws t = (xs, 0, ws') from h5)
        have HLN := Aside0.mk hn
        clear h1 h2 h3 h4 h5 h6 h7 h8 h9 h9b hn
        go_wp2_with fail
        with_reducible refine Calls.stepGet2 HE.out (sane0 ..) ⟨HX.out.cur⟩ ⟨HX.out.dic⟩ ⟨HX.out.ap⟩ ⟨HX.out.okr⟩ ⟨HX.out.df⟩ ⟨HX.out.bel⟩ ?_
        intro vd2 w6 n1 n2 n3 n4 n5 n6 n8 n7
        have HX2 := Aside0.mk (show Ex ok gc ⟨A', c', l, pos + n, 0, 0, false⟩ ⟨g, gm, vd2, ws'⟩ ⟨go, gmo, vo, ws⟩ w w6 from
          ⟨n1.out, n2.out, HX.out.oth.step n6.out (fun k hk h => h.elim (fun e => HX.out.apo gc HX.out.cur.okg (e ▸ hk)) (HX.out.apd k hk)), n3.out, HX.out.apo, fun k hk hF => (n8.out k hF).elim (HX.out.apd k hk) (fun h => by have := HX.out.oth.lt k hk; omega), n4.out, n5.out, HX.out.of, n7.out⟩)
        clear n1 n2 n3 n4 n5 n6 n7 n8 HX
        go_wp2_with fail
        with_reducible refine (curfault_at gc ⟨A', c', l, pos + n, 0, 0, false⟩ 0 0 _ HX2.out.cur rfl rfl).mono ?_
        rintro e w7 ⟨rfl, hb⟩
        have n0 := Aside0.mk (HX2.out.below hb)
        clear HX2 hb
        have HX := n0
        clear n0
        go_wp2_with fail
        with_reducible refine Calls.stepPut HP.out (by have := HTS.out; omega) ⟨HX.out.oth⟩ ⟨HX.out.of⟩ ⟨HX.out.bel⟩ ?_
        intro A1 c1 vo1 w8 HD1 HF1 HG1 HN1 HR1 HB
        have HX3 := Aside0.mk (show Ex ok gc ⟨A', c', l, pos + n, 0, 0, false⟩ ⟨g, gm, vd2, ws'⟩ ⟨go, gmo, vo1, ws'⟩ w w8 from
          ⟨HX.out.cur.step HG1.out (fun k hk => HX.out.apo k hk), HX.out.dic.step HG1.out (fun k hk h => HX.out.apd k h hk), HD1.out, HX.out.ap, fun k hk hF => (HN1.out k hF).elim (HX.out.apo k hk) (fun h => by have := (HX.out.okr k hk).2; omega), fun k hk hF => (HN1.out k hk).elim (fun h => HX.out.apd k h hF) (fun h => by have := HX.out.dic.lt k hF; omega), fun k hk => ⟨(HX.out.okr k hk).1, Nat.lt_of_lt_of_le (HX.out.okr k hk).2 HG1.out.size⟩, HX.out.df, HF1.out, HB.out⟩)
        have hcx := (Kd.R_reads' HR1.out).2.2
        rw [HLN.out] at hcx ⊢
        have HCX := Aside0.mk hcx
        clear HD1 HF1 HG1 HN1 HR1 HB HX hcx
        have HBC := Aside0.mk (bad_yes kind t w8 HKI.out (by have := HTS.out; omega))
        rw [HBI.out] at HBC
        go_wp2_with fail
        with_reducible refine (Calls.dB HBC.out).mono ?_
        rintro e w9 ⟨rfl, hb⟩
        have n0 := Aside0.mk (HX3.out.below hb)
        have n1 := Aside0.mk (Kd.C_below HCX.out hb)
        clear HX3 hb HCX HBC
        have HX := n0
        have HCX := n1
        clear n0 n1
        go_wp2_with fail
        with_reducible refine (Calls.dB (curat_at gc _ (pos + n) _ HX.out.cur rfl)).mono ?_
        rintro e w10 ⟨rfl, hb⟩
        have n0 := Aside0.mk (HX.out.below hb)
        have n1 := Aside0.mk (Kd.C_below HCX.out hb)
        clear HX hb HCX
        have HX := n0
        have HCX := n1
        clear n0 n1
        go_wp2_with fail
        with_reducible refine (Calls.dB (curat_at gc _ (pos + n) _ HX.out.cur rfl)).mono ?_
        rintro e w11 ⟨rfl, hb⟩
        have n0 := Aside0.mk (HX.out.below hb)
        have n1 := Aside0.mk (Kd.C_below HCX.out hb)
        clear HX hb HCX
        have HX := n0
        have HCX := n1
        clear n0 n1
        have hcut := C_cut (Kd.C_below HCW.out HX.out.bel) pos n c hn2 hcap
        rw [if_neg (by omega), HCUT.out] at hcut
        have HC2 := Aside0.mk hcut
        clear hcut
        go_wp2_with fail
        with_reducible refine (Calls.dB (same15_n A1 n c1 xs _ n (c - pos) xs _ HCX.out HC2.out)).mono ?_
        rintro e w12 ⟨rfl, hb⟩
        rw [decide_eq_true rfl]
        have n0 := Aside0.mk (HX.out.below hb)
        clear HX hb HCX HC2
        have HX := n0
        clear n0
        go_wp2
        go_roundw
        case rel => exact ⟨i + 1, pos + n, vd2, vo1, ws', by go_num, by omega, by omega, by omega, HX⟩
        case measure => simp [intOf]; omega
    · have hl0 : left = 0 := by omega
      subst hl0
      clear hlp hleft
      go_wp2_with fail
      with_reducible refine (Calls.dB (HLF.out _ HX.out.cur)).mono ?_
      rintro e w4 ⟨rfl, hb⟩
      have n0 := Aside0.mk (HX.out.below hb)
      clear HX hb
      have HX := n0
      clear n0
      go_wp2_with fail
      with_reducible refine (Calls.dB (HLF.out _ HX.out.cur)).mono ?_
      rintro e w5 ⟨rfl, hb⟩
      have HD := Aside0.mk (HX.out.dic.below hb)
      have HO := Aside0.mk (HX.out.oth.below hb)
      have HB := Aside0.mk (below_step HX.out.bel hb)
      clear HX hb
      go_wp2_with fail
      with_reducible refine (dicwords_calls ⟨g, gm, vd, ws⟩ _ HD.out).mono ?_
      rintro e w8 ⟨v8, rfl, hv8, hb8⟩
      obtain ⟨A8, c8, rfl, _, hC8⟩ := Kd.R_reads hv8
      have HC8 := Aside0.mk hC8
      have n1 := Aside0.mk (HO.out.below hb8)
      have n2 := Aside0.mk (below_step HB.out hb8)
      clear HD HO HB hb8 hv8 hC8
      have HO := n1
      have HB := n2
      clear n1 n2
      go_wp2_with fail
      with_reducible refine (dicwords_calls ⟨go, gmo, vo, ws⟩ _ HO.out).mono ?_
      rintro e w9 ⟨v9, rfl, hv9, hb9⟩
      obtain ⟨A9, c9, rfl, _, hC9⟩ := Kd.R_reads hv9
      have HC9 := Aside0.mk hC9
      have n2 := Aside0.mk (below_step HB.out hb9)
      have n3 := Aside0.mk (Kd.C_below HC8.out hb9)
      clear HO HB hb9 hv9 hC9 HC8
      have HB := n2
      have HC8 := n3
      clear n2 n3
      go_wp2_with fail
      with_reducible refine Calls.stepB (Calls.dB (words15_calls A8 _ c8 ws A9 _ c9 ws _ HC8.out HC9.out)) ⟨(by repeat (first | (with_reducible first | exact HB.out | apply below_alloc | apply pw_below_drewN | apply below_drew1) | exact HB.out))⟩ ?_
      clear HB
      intro w_ HK HB
      clear HK
      rw [decide_eq_true rfl]
      go_wp2_with fail
      with_reducible refine Calls.stepB (awake15_calls _) ⟨(by repeat (first | (with_reducible first | exact HB.out | apply below_alloc | apply pw_below_drewN | apply below_drew1) | exact HB.out))⟩ ?_
      clear HB
      intro w_ HK HB
      clear HK
      go_wp2
      go_ret
      exact ⟨rfl, (by repeat (first | (with_reducible first | exact HB.out | apply below_alloc | apply pw_below_drewN | apply below_drew1) | exact HB.out))⟩
namespace dictExact
open Go.ChangeShapes Go.WideShapes Go.ChangeAt Go.RowKit
open Go.ChangeMaps (open_string shut_string)
theorem own : ownKnob Try.prog.godebug = none := by kernel_rfl
theorem laidOut : laidOutB Try.prog = true := by kernel_rfl
set_option maxRecDepth 100000 in
theorem lifted (os : Os) (started : os.Started) (H : Type) (enc : TypeId × Value → H) :
    ReturnsInHanded {} Try.checked os 12 .any (Rows.dictExactSpec.pre6 enc Try.prog Try.f12 Rows.dictExactRow.domain false) (Rows.dictExactSpec.post enc Try.prog Try.f12 false true false false) := by
  refine returnsInHanded_of_change_sized (C := Try.checked) own started (by kernel_rfl) Try.func12
    (ChangeSpec.witness6 (enc := enc) (C := Try.checked) false ⟨#[], #[.slice none 0 0, .int .i64 0], []⟩ 8 (by kernel_rfl) (by kernel_rfl) (by kernel_rfl) (by kernel_rfl)) ?_
  intro W base args ds gs before hval0 hW hcnd hsz0 _
  have hsz : (DataW.weightsEach Try.prog (Try.f12.params.toList ++ Rows.dictExactSpec.plain.varTypes Try.prog) (ds ++ gs)).all (· ≤ reachBytes) = true := hsz0
  have hval : ∀ (j : Nat) t v, Try.f12.params[j]? = some t → args[j]? = some v → Value.okWide Try.prog W .any base t v := hval0
  have hW' := hW
  obtain ⟨p, q, hA0, hV, rfl, hfz, hnd⟩ := hW
  have hA : DataW.TrodAll enc Try.prog W 0 (fun _ => true) true Try.f12.params.toList args.toList ds p := hA0
  rw [Try.params12] at hA hval hsz
  obtain ⟨v0, vs0, d0, ds0, p0, q0, hargs, rfl, rfl, h0, r0⟩ := trodAll_cons hA
  obtain ⟨v1, vs1, d1, ds1, p1, q1, rfl, rfl, rfl, h1, r1⟩ := trodAll_cons r0
  obtain ⟨rfl, rfl, rfl⟩ := trodAll_nil r1
  obtain rfl : args = #[v0, v1] := by cases args; simp_all
  obtain ⟨rfl, rfl⟩ := trodVars_none hV
  obtain ⟨a0, len0, cap0, rfl⟩ := okWide_slice Try.underlying22 (hval 0 22 v0 rfl rfl)
  have k0 := h0
  have lt0 : ∀ x ∈ p0, x.block < W.heap.size := by obtain ⟨m, hm⟩ := k0; exact DataW.trod_lt m _ _ _ hm
  have y0 : len0 * 1 ≤ 140737488351232 := sized_ints hsz (j := 0) (t := 22) rfl rfl Try.underlying22 Try.underlying5 (by kernel_rfl) (by kernel_rfl) h0
  obtain ⟨l0, c0, b0, e0⟩ := open_row Try.underlying22 Try.underlying5 (by kernel_rfl) (by omega) h0
  obtain rfl := c0.1.symm
  obtain ⟨a1, rfl, rfl, rfl, w1⟩ := open_int Try.underlying3 (hval 1 3 v1 rfl rfl) h1
  clear hA0 hval0 hsz0 hsz
  refine (dictExact_walk a0 cap0 l0 a1 W c0 b0 y0 e0 (bounds_i64 w1)).mono fun e W' ⟨he, bel⟩ => ?_
  subst he
  exact ⟨_, rfl, _, _, _, [], _, [], hW', trodAll_mk1 (shut_bool Try.underlying4 _), (trodAll_cons_mk (Below.trod laidOut (by kernel_rfl) (of_decide_eq_true (by kernel_rfl)) k0 bel lt0) (trodAll_cons_mk (shut_int Try.underlying3 w1) trodAll_mk0)), rfl, bel.frame _, fun h => by cases h⟩
theorem over : Rows.dictExactRow.holds Try.pinned (OpenSpec.ofChange Rows.dictExactSpec) :=
  OpenClaim.holds_of_wide 12 Try.f12 rfl rfl rfl rfl rfl rfl rfl ⟨rfl, rfl, rfl, rfl, rfl⟩ rfl rfl rfl rfl rfl (by kernel_rfl) Try.func12 (by kernel_rfl)
    (of_decide_eq_true (by kernel_rfl)) (by unfold Func.isWrapper; first | (rw [if_pos (by decide +kernel)]; kernel_rfl) | (rw [if_neg (by decide +kernel)]; exact ⟨rfl, rfl⟩))
    (fun os started H enc _ => lifted os started H enc)
theorem proved : Rows.DictExactSaid := over
end dictExact
/-- The row, under a short name, for the claim. -/
theorem dictExact_holds : Rows.DictExactSaid := dictExact.proved
#print axioms dictExact_holds
end Go.Proofs.Ytmbfjaogimkncaa
