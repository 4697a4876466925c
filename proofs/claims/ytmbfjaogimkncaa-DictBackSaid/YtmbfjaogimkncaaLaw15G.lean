/- DictBack: words that are put are got by another dictionary, and both have the same words then: its walk; no condition. -/
import Derived.Test.YtmbfjaogimkncaaPlBack
import Derived.Test.YtmbfjaogimkncaaLawKit
import Derived.Test.YtmbfjaogimkncaaRows
namespace Go.Proofs.Ytmbfjaogimkncaa
open Go.RowKit Go.Proofs.YtmbfjaogimkncaaW.PrintWords Go.Proofs.YtmbfjaogimkncaaW.PrintLast Go.Proofs.YtmbfjaogimkncaaW.PrintMore
set_option linter.unusedVariables false
set_option linter.unusedSimpArgs false
/-- A row of bytes appended to a row of bytes; what is turned. -/
theorem R_apps_u8g {ops : Array Oper} {rest : List Oper} {o : Oper} {a : Act} {Q : Exit → Act → World → Prop} {W : World} {base : Nat} {s x : Operand} {t : TypeId} {v : Value} {xs ys : List Int} {A : Option Addr} {m c : Nat} (hgd : o.guard = none)
    (ho : o.op = .call { callee := .builtin .append, args := #[s, x], argTypes := #[t, t] }) (hs : a.eval s = v) (hx : a.eval x = .slice A m c)
    (ht : Try.prog.underlying t = some (.slice 5))
    (HO : (Kd.int .u8).R 5 W base (fun _ => True) v xs) (HR : (Kd.int .u8).C W A m ys) (hb : base ≤ W.heap.size) (hl : xs.length + m ≤ 140737488355328)
    (h : ∀ v1 w1, (Kd.int .u8).R 5 w1 base (fun _ => True) v1 (xs ++ ys) → W.grownBy w1 v.ownBlock → wpList Try.prog ops Q rest (a.put o.dst v1) w1) :
    wpList Try.prog ops Q (o :: rest) a W := by
  refine Kd.R_append_rows (Kd.int .u8) (Rr := (Kd.int .u8).K W) (w0 := W) base hgd s x t 5 (.int .u8 0) 1 ho ht iB rfl (by decide) (by omega) v xs ys A m c (fun _ => True) (fun _ => False) hs hx HO HR (fun x cs h => h) (fun _ hk => hk.elim) (fun _ _ => trivial) ((Below.refl _ _).mono hb) hb (by omega) ?_
  intro v1 w1 ho hb hg _
  exact h v1 w1 ho hg
theorem bytes_str {W : World} {b1 b2 : Nat} {ok1 ok2 : Nat → Prop} {v u : Value} {xs : List Int} {us : List ByteArray} (h1 : (Kd.int .u8).R 5 W b1 ok1 v xs) (h2 : Kd.string.R 9 W b2 ok2 u us) : ∀ k, some k = v.ownBlock → some k ≠ u.ownBlock := by
  intro k hk hk2
  obtain ⟨cells, hc⟩ := Kd.R_typed h1 k hk.symm
  obtain ⟨cells2, hc2⟩ := Kd.R_typed h2 k hk2.symm
  rw [hc2] at hc
  injection hc with hc
  injection hc with _ hc
  exact absurd hc (by decide)
theorem row_grown {W w1 : World} {b1 : Nat} {ok1 : Nat → Prop} {v : Value} {r : Option Nat} {xs : List Int} (h1 : (Kd.int .u8).R 5 W b1 ok1 v xs) (hg : W.grownBy w1 r) (hne : ∀ k, some k = v.ownBlock → some k ≠ r) : (Kd.int .u8).R 5 w1 b1 (fun _ => True) v xs :=
  Kd.R_mono (Kd.R_step (Kd.R_tight rfl h1) (fun k hk hl => hg.block k hl (hne k hk))) (fun _ _ => trivial)
theorem C_blkS {w : World} {A : Option Addr} {n : Nat} {xs : List ByteArray} (h : Kd.string.C w A n xs) (hn : 0 < n) : ∀ ad, A = some ad → ad.block < w.heap.size := by
  intro ad e
  obtain ⟨ad', e', hx⟩ := str_at h 0 (by omega) (by omega)
  rw [e] at e'
  injection e' with e'
  subst e'
  have := World.block_lt_of_cell? w _ hx
  rwa [add_block] at this
theorem seen_turn {d d' : Dic} {W w' : World} {e base : Nat} {v : Value} {xs : List ByteArray} (hR : Kd.string.R e W base (fun k => ¬ d.F k) v xs) (hc : Chg d.F W w') (hn : ∀ k, d'.F k → d.F k ∨ W.heap.size ≤ k) : Kd.string.R e w' base (fun k => ¬ d'.F k) v xs :=
  Kd.R_mono (Kd.R_step (Kd.R_bound hR) (fun k hk hl => hc.block k hl hk.1)) (fun k hk hF => (hn k hF).elim hk.1 (fun h => by have := hk.2.2.1; omega))
theorem seen_app {d : Dic} {w W w5 : World} {v : Value} {ws xs : List ByteArray} {g1 n1 c1 : Nat} (hD : DicAt d W) (hS : Kd.string.R 9 W w.heap.size (fun k => ¬ d.F k) v ws) (hB : Below w.heap.size w W)
    (hr : Kd.string.R 9 w5 w.heap.size (fun k => some k = (Value.slice (some ⟨g1, 0, none⟩) n1 c1).ownBlock) (.slice (some ⟨g1, 0, none⟩) n1 c1) xs) (hg : W.grownBy w5 v.ownBlock) (hat : some g1 = v.ownBlock ∨ W.heap.size ≤ g1) :
    DicAt d w5 ∧ Kd.string.R 9 w5 w.heap.size (fun k => ¬ d.F k) (.slice (some ⟨g1, 0, none⟩) n1 c1) xs ∧ Below w.heap.size w w5 := by
  refine ⟨hD.step (Chg.of_grown hg (S := fun k => v.ownBlock = some k) (fun k hk => hk)) (fun k hk h => hS.1 k h hk), Kd.R_mono hr (fun k hk hF => ?_), pw_below_grown hB _ (below_size hB) hg (fun k hk => Kd.R_base hS k hk)⟩
  have e : k = g1 := by injection hk
  subst e
  rcases hat with h | h
  · exact hS.1 k h.symm hF
  · have := hD.lt k hF
    omega
/-- The words that may be put and got. -/
def goodW (s : ByteArray) : Bool := decide (badI (clsB 3) s < 0) && decide (s.size ≤ 200)
def keepW (l : List ByteArray) : List ByteArray := l.filter goodW
theorem keepW_next {l : List ByteArray} {i : Int} (h0 : 0 ≤ i) (h1 : i < l.length) : keepW (l.take (i + 1).toNat) = keepW (l.take i.toNat) ++ (if goodW (l.getD i.toNat ByteArray.empty) = true then [l.getD i.toNat ByteArray.empty] else []) := by
  rw [take_next h0 h1]
  unfold keepW
  rw [List.filter_append, List.filter_cons]
  rfl
/-- What is true while words are put. -/
structure Bk (d : Dic) (u b : Value) (ps : List ByteArray) (w W : World) : Prop where
  dic : DicAt d W
  ws : d.ws = putsW [] ps
  df : ∀ k, d.F k → w.heap.size ≤ k
  put : Kd.string.R 9 W w.heap.size (fun k => ¬ d.F k) u ps
  row : (Kd.int .u8).R 5 W w.heap.size (fun _ => True) b (bytesP [] ps)
  good : ∀ s ∈ ps, badI (clsB 3) s < 0 ∧ s.size ≤ 200
  bel : Below w.heap.size w W
theorem Bk.below {d : Dic} {u b : Value} {ps : List ByteArray} {w W W' : World} (h : Bk d u b ps w W) (hb : Below W.heap.size W W') : Bk d u b ps w W' :=
  ⟨h.dic.below hb, h.ws, h.df, Kd.R_below h.put hb, Kd.R_below h.row hb, h.good, below_step h.bel hb⟩
theorem Bk.drewN {d : Dic} {u b : Value} {ps : List ByteArray} {w W : World} (h : Bk d u b ps w W) (n : Nat) : Bk d u b ps w (W.drewN n) := h.below (pw_below_drewN (Below.refl _ _) n)
theorem dic_far {d : Dic} {W w1 : World} {b1 : Nat} {ok1 : Nat → Prop} {v : Value} {xs : List Int} (h : DicAt d W) (h1 : (Kd.int .u8).R 5 W b1 ok1 v xs) (hg : W.grownBy w1 v.ownBlock) : DicAt d w1 :=
  h.step (Chg.of_grown hg (S := fun k => v.ownBlock = some k) (fun k hk => hk)) (fun k hk e => h.apart h1 k e.symm hk)
theorem str_far {W w1 : World} {b1 b2 : Nat} {ok1 ok2 : Nat → Prop} {v u : Value} {xs : List Int} {us : List ByteArray} (h2 : Kd.string.R 9 W b2 ok2 u us) (h1 : (Kd.int .u8).R 5 W b1 ok1 v xs) (hg : W.grownBy w1 v.ownBlock) : Kd.string.R 9 w1 b2 ok2 u us :=
  Kd.R_mono (Kd.R_step (Kd.R_tight2 rfl h2) (fun k hk hl => hg.block k hl (fun e => bytes_str h1 h2 k e hk.1))) (fun k hk => hk.2)
theorem Bk.turned {d d' : Dic} {u b : Value} {ps : List ByteArray} {w W W' : World} (h : Bk d u b ps w W) (hd : DicAt d' W') (hws : d'.ws = putsW [] ps) (hf : ∀ k, d'.F k → w.heap.size ≤ k) (hc : Chg d.F W W') (hn : ∀ k, d'.F k → d.F k ∨ W.heap.size ≤ k) (hb : Below w.heap.size w W') : Bk d' u b ps w W' :=
  ⟨hd, hws, hf, seen_turn h.put hc hn, row_turn h.dic h.row hc, h.good, hb⟩
theorem curleft_at {ok : Nat → Prop} (g : Nat) (s : Cu) (a : Int) (w : World) (h : CurAt ok g s w) (hp : (s.b.length : Int) - s.pos = a) : Calls Try.prog 44 #[.pointer (some ⟨g, 0, none⟩)] w fun e w' => e = .returned (.int .i64 a) ∧ Drawn0 w w' := by
  have h2 := curleft_calls g s w h
  rw [hp] at h2
  exact h2
/-- What is true while words are got. -/
structure Gk (ok : Nat → Prop) (gc : Nat) (A' : Option Addr) (c' : Nat) (d : Dic) (ps : List ByteArray) (i : Nat) (wo W : World) : Prop where
  cur : CurAt ok gc ⟨A', c', bytesP [] ps, (bytesP [] (ps.take i)).length, 0, 0, false⟩ W
  dic : DicAt d W
  ws : d.ws = putsW [] (ps.take i)
  ap : ∀ k, ok k → ¬ d.F k
  okr : ∀ k, ok k → wo.heap.size ≤ k ∧ k < W.heap.size
  of : ∀ k, d.F k → wo.heap.size ≤ k
  bel : Below wo.heap.size wo W
theorem Gk.below {ok : Nat → Prop} {gc : Nat} {A' : Option Addr} {c' : Nat} {d : Dic} {ps : List ByteArray} {i : Nat} {wo W W' : World} (h : Gk ok gc A' c' d ps i wo W) (hb : Below W.heap.size W W') : Gk ok gc A' c' d ps i wo W' :=
  ⟨h.cur.below hb, h.dic.below hb, h.ws, h.ap, fun k hk => ⟨(h.okr k hk).1, Nat.lt_of_lt_of_le (h.okr k hk).2 hb.size⟩, h.of, below_step h.bel hb⟩
theorem back_get {A : Option Addr} {c : Nat} {ps : List ByteArray} {j : Int} {s0 : ByteArray} (h0 : 0 ≤ j) (h1 : j < ps.length) (hs : ps.getD j.toNat ByteArray.empty = s0) (hg : badI (clsB 3) s0 < 0 ∧ s0.size ≤ 200) (hl : ps.length ≤ 80) :
    dget (putsW [] (ps.take j.toNat)) ⟨A, c, bytesP [] ps, (bytesP [] (ps.take j.toNat)).length, 0, 0, false⟩ 3 = (s0, ⟨A, c, bytesP [] ps, (bytesP [] (ps.take (j + 1).toNat)).length, 0, 0, false⟩, putsW [] (ps.take (j + 1).toNat)) := by
  have hn : j.toNat < ps.length := by omega
  have hw := putsW_len [] (ps.take j.toNat)
  have ht : (ps.take j.toNat).length ≤ ps.length := by rw [List.length_take]; omega
  simp only [List.length_nil] at hw
  have hd : (bytesP [] ps).drop (bytesP [] (ps.take j.toNat)).length = (dput (putsW [] (ps.take j.toNat)) s0).1 ++ bytesP (dput (putsW [] (ps.take j.toNat)) s0).2.2 (ps.drop (j.toNat + 1)) := by
    rw [bytesP_drop [] ps j.toNat, List.drop_left, List.drop_eq_getElem_cons hn]
    have e : ps[j.toNat] = s0 := by rw [← hs, List.getD_eq_getElem?_getD, List.getElem?_eq_getElem hn]; rfl
    rw [e]
    rfl
  rw [get_put (by decide) hg.1 hg.2 (by omega) hd, take_next h0 h1, hs, bytesP_snoc, putsW_snoc, List.length_append]
attribute [local go_sem high] eqFault
set_option maxHeartbeats 16000000 in
set_option maxRecDepth 100000 in
theorem dictBack_walk (A : Option Addr) (c : Nat) (l : List ByteArray) (w : World) (hC : Kd.string.C w A l.length l) (hwf : ∀ x ∈ l, x.size ≤ 9223372036854775807) (hsz : l.length * 16 ≤ 140737488351232) (hcap : l.length ≤ c) :
    Calls Try.prog 11 #[.slice A l.length c] w fun e w' => e = .returned (.bool true) ∧ Below w.heap.size w w' := by
  have HCW := Aside0.mk hC
  have HFE := Aside0.mk (few15_calls A c l w hC hwf)
  clear hC hwf hsz
  have HB := Aside0.mk (Below.refl w.heap.size w)
  cases hfew : fewB l with
  | false =>
    rw [hfew] at HFE
    clear hfew
    go_enter Try.func11, Try.ntmps11
    go_wp2_with fail
    with_reducible refine Calls.stepB (Calls.dB HFE.out) ⟨(by repeat (first | (with_reducible first | exact HB.out | apply below_alloc | apply pw_below_drewN | apply below_drew1) | exact HB.out))⟩ ?_
    clear HB
    intro w_ HK HB
    clear HK
    go_wp2_with fail
    with_reducible refine Calls.stepB (awake15_calls _) ⟨(by repeat (first | (with_reducible first | exact HB.out | apply below_alloc | apply pw_below_drewN | apply below_drew1) | exact HB.out))⟩ ?_
    clear HB
    intro w_ HK HB
    clear HK
    go_wp2
    go_ret
    exact ⟨rfl, (by repeat (first | (with_reducible first | exact HB.out | apply below_alloc | apply pw_below_drewN | apply below_drew1) | exact HB.out))⟩
  | true =>
    rw [hfew] at HFE
    have hfew2 : l.length ≤ 80 ∧ ∀ s ∈ l, s.size ≤ 300 := of_decide_eq_true hfew
    have hl80 := hfew2.1
    have HSZ := Aside0.mk hfew2.2
    clear hfew hfew2
    go_enter Try.func11, Try.ntmps11
    go_wp2_with fail
    with_reducible refine Calls.stepB (Calls.dB HFE.out) ⟨(by repeat (first | (with_reducible first | exact HB.out | apply below_alloc | apply pw_below_drewN | apply below_drew1) | exact HB.out))⟩ ?_
    clear HB
    intro w_ HK HB
    clear HK
    go_wp2_with fail
    with_reducible refine Calls.stepNew HB ?_
    clear HB
    intro g gm w1 HD hnew HF hb1 HB
    have HK := Aside0.mk (show Bk ⟨g, gm, .slice none 0 0, []⟩ (.slice (some ⟨w1.heap.size + 1, 0, none⟩) 0 0) (.slice (some ⟨w1.heap.size, 0, none⟩) 0 0) [] w ((w1.alloc (.cells #[] 5)).alloc (.cells #[] 9)) from by
      refine ⟨(HD.out.alloc _).alloc _, rfl, HF.out, ?_, Kd.R_alloc (R_lit_u8 5 (below_size HB.out) [] (by simp)) _, by simp, below_alloc (below_alloc HB.out _) _⟩
      have h := R_lit_str0 (w := w1.alloc (.cells #[] 5)) (base := w.heap.size) (ok := fun k => ¬ (⟨g, gm, .slice none 0 0, []⟩ : Dic).F k) 9 (by have := below_size HB.out; simp; omega) (fun h => by have := (HD.out.alloc (.cells #[] 5)).lt _ h; omega)
      rw [World.size_alloc] at h
      exact h)
    clear hnew hb1 HD HF HB
    go_wp2
    go_loopw [4, 5, 6] (fun v4 v5 v6 w' => ∃ (i : Int) (vd : Value), v6 = .int .i64 i ∧ 0 ≤ i ∧ i ≤ (l.length : Int) ∧ Aside0 (Bk ⟨g, gm, vd, putsW [] (keepW (l.take i.toNat))⟩ v5 v4 (keepW (l.take i.toNat)) w w')) (fun _ _ v6 _ => l.length - (intOf v6).toNat)
    case atStart => exact ⟨0, _, rfl, by omega, by omega, HK⟩
    case round =>
      clear HK
      obtain ⟨i, vd, rfl, hi0, hi, HK⟩ := hrel
      obtain ⟨ps, hps⟩ : ∃ ps, keepW (l.take i.toNat) = ps := ⟨_, rfl⟩
      have hpl : ps.length ≤ 80 := by
        rw [← hps]
        unfold keepW
        have h1 := List.length_filter_le goodW (l.take i.toNat)
        have h2 := List.length_take_le i.toNat l
        have h3 : (l.take i.toNat).length ≤ l.length := by rw [List.length_take]; omega
        omega
      rw [hps] at HK
      have HPS := Aside0.mk hps
      clear hps
      obtain ⟨ws, hws⟩ : ∃ ws, putsW [] ps = ws := ⟨_, rfl⟩
      have hwl : ws.length ≤ 80 := by rw [← hws]; have := putsW_len [] ps; simp at this; omega
      have HWS := Aside0.mk hws
      rw [hws] at HK
      clear hws
      obtain ⟨A5, c5, rfl, hc5, _⟩ := Kd.R_reads HK.out.put
      obtain ⟨A4, c4, rfl, hc4, _⟩ := Kd.R_reads HK.out.row
      obtain ⟨bl, hbl⟩ : ∃ bl, (bytesP [] ps).length = bl := ⟨_, rfl⟩
      have hbl2 : bl ≤ 17600 := by rw [← hbl]; have := bytesP_len [] ps (by simp; omega); omega
      rw [hbl] at HK hc4
      have HBL := Aside0.mk hbl
      obtain ⟨wo, rfl⟩ : ∃ wo : World, wo = wr := ⟨_, rfl⟩
      rw [hbl]
      clear hbl
      by_cases hlt : i < (l.length : Int)
      · obtain ⟨ad, e, hx0⟩ := str_at HCW.out i hi0 hlt
        cases e
        obtain ⟨s0, hs0⟩ : ∃ s, l.getD i.toNat ByteArray.empty = s := ⟨_, rfl⟩
        have HKN := keepW_next hi0 hlt
        rw [hs0, HPS.out] at HKN
        rw [hs0] at hx0
        have hs300 := HSZ.out s0 (by rw [← hs0]; exact getD_mem (by omega))
        have HX0 := Aside0.mk hx0
        have hx1 := pw_cell_below HK.out.bel hx0
        clear hs0 hx0
        have HBD := Aside0.mk (fun W : World => bad_yes 3 s0 W (by decide) (by omega))
        obtain ⟨bi, hbi⟩ : ∃ bi, badI (clsB 3) s0 = bi := ⟨_, rfl⟩
        rw [hbi] at HBD
        by_cases hbad : 0 ≤ bi
        · have hng : goodW s0 = false := by unfold goodW; rw [hbi, decide_eq_false (by omega)]; rfl
          rw [hng, if_neg (by decide), List.append_nil] at HKN
          have HN := Aside0.mk HKN
          clear HKN hng hbi
          go_wp2_with fail
          with_reducible refine (HBD.out _).mono ?_
          rintro e w_ ⟨rfl, ⟨nd, rfl⟩⟩
          go_wp2
          go_roundw
          case rel => exact ⟨i + 1, vd, by go_num, by omega, by omega, by rw [HN.out, HWS.out]; exact ⟨HK.out.drewN _⟩⟩
          case measure => simp [intOf]; omega
        · have hbad1 : bi < 0 := by omega
          have HBI := Aside0.mk hbi
          have HSH := Aside0.mk (show ∀ s ∈ ws, s.size ≤ 200 from HK.out.dic.short)
          by_cases h200 : 200 < s0.size
          · have hng : goodW s0 = false := by unfold goodW; rw [decide_eq_false (show ¬ s0.size ≤ 200 by omega), Bool.and_false]
            rw [hng, if_neg (by decide), List.append_nil] at HKN
            have HN := Aside0.mk HKN
            have HE := Aside0.mk (dput_long (ws := ws) (s := s0) (fun h => by have := HSH.out s0 h; omega) h200)
            have b1 : decide ((s0.size : Int) ≤ 200) = false := decide_eq_false (by omega)
            clear HKN hng hbi h200
            go_wp2_with fail
            with_reducible refine (HBD.out _).mono ?_
            rintro e w_ ⟨rfl, ⟨nd, rfl⟩⟩
            have HK1 := Aside0.mk (HK.out.drewN nd)
            go_wp2_with fail
            with_reducible refine Calls.stepPut HE.out (by omega) ⟨HK1.out.dic⟩ ⟨HK1.out.df⟩ ⟨HK1.out.bel⟩ ?_
            intro A1 c1 vd1 w2 HD1 HF1 HG1 HN1 HR1 HB
            have HK2 := Aside0.mk (HK1.out.turned HD1.out HWS.out.symm HF1.out HG1.out HN1.out HB.out)
            have hx2 := pw_cell_below HB.out HX0.out
            clear HD1 HF1 HG1 HN1 HR1 HK1 HK
            go_wp2
            go_roundw
            case rel => exact ⟨i + 1, vd1, by go_num, by omega, by omega, by rw [HN.out, HWS.out]; exact HK2⟩
            case measure => simp [intOf]; omega
          · have hg : goodW s0 = true := by unfold goodW; rw [hbi, decide_eq_true hbad1, decide_eq_true (show s0.size ≤ 200 by omega)]; rfl
            rw [hg, if_pos rfl] at HKN
            have HN := Aside0.mk HKN
            have hok := dput_ok (ws := ws) (s := s0) (by omega) (by omega)
            have hl1 := dput_len1 ws s0 (by omega)
            obtain ⟨xs, code, ws', he⟩ : ∃ xs code ws', dput ws s0 = (xs, code, ws') := ⟨_, _, _, rfl⟩
            rw [he] at hok hl1
            have hok2 : code = 0 := hok
            subst hok2
            have hl2 : xs.length ≤ 220 := hl1
            have HE := Aside0.mk he
            have HP1 := Aside0.mk (show putsW [] (ps ++ [s0]) = ws' by rw [putsW_snoc, HWS.out, he])
            have HP2 := Aside0.mk (show bytesP [] (ps ++ [s0]) = bytesP [] ps ++ xs by rw [bytesP_snoc, HWS.out, he])
            have HP3 := Aside0.mk (show badI (clsB 3) s0 < 0 ∧ s0.size ≤ 200 from ⟨by rw [hbi]; exact hbad1, by omega⟩)
            have b1 : decide ((s0.size : Int) ≤ 200) = true := decide_eq_true (by omega)
            clear HKN hg hbi h200 he hok hl1
            go_wp2_with fail
            with_reducible refine (HBD.out _).mono ?_
            rintro e w_ ⟨rfl, ⟨nd, rfl⟩⟩
            have HK1 := Aside0.mk (HK.out.drewN nd)
            go_wp2_with fail
            with_reducible refine Calls.stepPut HE.out (by omega) ⟨HK1.out.dic⟩ ⟨HK1.out.df⟩ ⟨HK1.out.bel⟩ ?_
            intro A1 c1 vd1 w2 HD1 HF1 HG1 HN1 HR1 HB
            have HS2 := Aside0.mk (seen_turn HK1.out.put HG1.out HN1.out)
            have HR2 := Aside0.mk (row_turn HK1.out.dic HK1.out.row HG1.out)
            have hx2 := pw_cell_below HB.out HX0.out
            clear HG1 HN1 HK1
            go_wp2_with (first | ((with_reducible refine gate_dst (N := 78) rfl ?_); at_builtin; go_must (refine R_app_str (v := .slice A5 ps.length c5) rfl rfl rfl rfl uSs iSs HS2.out (below_size HB.out) (by omega) (n1 := ps.length + 1) rfl ?_); intro g5 c5' w5 hr5 hg5 hat5 hlt5; have H5 := Aside0.mk (seen_app HD1.out HS2.out HB.out hr5 hg5 hat5); have H6 := Aside0.mk (row_grown HR1.out hg5 (bytes_str HR1.out HS2.out)); have H7 := Aside0.mk (row_grown HR2.out hg5 (bytes_str HR2.out HS2.out)); clear hr5 hg5 hat5 hx2 HR1 HR2) | ((with_reducible refine gate_dst (N := 81) rfl ?_); at_builtin; go_must (refine R_apps_u8g (v := .slice A4 bl c4) rfl rfl rfl rfl uB H7.out (Kd.R_reads' H6.out).2.2 (below_size H5.out.2.2) (by have := HBL.out; omega) ?_); intro v8 w8 hr8 hg8; have H8 := Aside0.mk (show Bk ⟨g, gm, vd1, ws'⟩ (.slice (some ⟨g5, 0, none⟩) (ps.length + 1) c5') v8 (ps ++ [s0]) w w8 from ⟨dic_far H5.out.1 H7.out hg8, HP1.out.symm, HF1.out, str_far H5.out.2.1 H7.out hg8, by rw [HP2.out]; exact hr8, fun s hs => (List.mem_append.1 hs).elim (HK.out.good s) (fun h => by rw [List.mem_singleton.1 h]; exact HP3.out), pw_below_grown H5.out.2.2 _ (below_size H5.out.2.2) hg8 (fun k hk => Kd.R_base H7.out k hk)⟩); clear hr8 hg8))
            go_roundw
            case rel => exact ⟨i + 1, vd1, by go_num, by omega, by omega, by rw [HN.out, HP1.out]; exact H8⟩
            case measure => simp [intOf]; omega
      · have HPC := Aside0.mk (Kd.R_reads' HK.out.put).2.2
        have hrc := (Kd.R_reads' HK.out.row).2.2
        rw [HBL.out] at hrc
        have HRC := Aside0.mk hrc
        have HDO := Aside0.mk HK.out.dic
        have HBO := Aside0.mk HK.out.bel
        have HGD := Aside0.mk HK.out.good
        have HB := Aside0.mk (Below.refl wo.heap.size wo)
        clear hrc HK
        go_wp2_with fail
        with_reducible refine Calls.stepNew HB ?_
        clear HB
        intro go gmo w2 HD hnew HF hb1 HB
        clear HF
        have n0 := Aside0.mk (Kd.C_below HRC.out hb1.out)
        clear HRC hb1
        go_wp2_with fail
        with_reducible refine Calls.stepCur n0.out (bytesP_bytes [] ps) (by omega) HB ?_
        clear HB
        intro ok gc A' c' w3 HCu hlo HOK hb1 HB
        have HG := Aside0.mk (show Gk ok gc A' c' ⟨go, gmo, .slice none 0 0, []⟩ ps 0 wo w3 from ⟨HCu.out, HD.out.below hb1.out, rfl, fun k hk hF => by have h1 := hlo.out k hk; have h2 := HD.out.lt k hF; omega, HOK.out, fun k hk => hnew.out k hk, HB.out⟩)
        clear HCu hlo HOK hb1 HB HD hnew n0
        go_wp2
        go_loopw [13] (fun v13 w' => ∃ (i : Int) (vo : Value), v13 = .int .i64 i ∧ 0 ≤ i ∧ i ≤ (ps.length : Int) ∧ Aside0 (Gk ok gc A' c' ⟨go, gmo, vo, putsW [] (ps.take i.toNat)⟩ ps i.toNat wo w')) (fun v13 _ => ps.length - (intOf v13).toNat)
        case atStart => exact ⟨0, _, rfl, by omega, by omega, HG⟩
        case round =>
          clear HG
          obtain ⟨j, vo, rfl, hj0, hj, HG⟩ := hrel
          obtain ⟨wp, rfl⟩ : ∃ wp : World, wp = wr := ⟨_, rfl⟩
          by_cases hjlt : j < (ps.length : Int)
          · obtain ⟨ad5, e5, hx0⟩ := str_at HPC.out j hj0 hjlt
            cases e5
            obtain ⟨s0, hs0⟩ : ∃ s, ps.getD j.toNat ByteArray.empty = s := ⟨_, rfl⟩
            rw [hs0] at hx0
            have hsg := HGD.out s0 (by rw [← hs0]; exact getD_mem (by omega))
            have HPX := Aside0.mk hx0
            have HPT := Aside0.mk (by rw [← hs0]; exact putsW_take hj0 hjlt : putsW [] (ps.take (j + 1).toNat) = (dput (putsW [] (ps.take j.toNat)) s0).2.2)
            have HGE := Aside0.mk (back_get (A := A') (c := c') hj0 hjlt hs0 hsg (by omega))
            have hwj := putsW_len [] (ps.take j.toNat)
            clear hs0 hx0 hsg hwj
            go_wp2
            refine start_ (n := 14) (S := fun w' => w'.cell? (ad5.add j.toNat) = some (.string s0)) (ds := []) #[false, false, false, false, false, false, false, false, false, false, false, false, false, false] (by kernel_rfl) rfl rfl (pw_cell_below (below_drew1 HG.out.bel) HPX.out) (fun hHeld => ?_)
            refine pure_ (i := 0) (N := some 91) (v := ?_) (a' := ?_) #[true, false, false, false, false, false, false, false, false, false, false, false, false, false] rfl rfl (by kernel_rfl) (fun _ _ _ h => h) (Or.inl ⟨by rfl, ?_⟩) ?_ ?_
            rotate_left
            · intro w'
              go_simp
              with_reducible rfl
            rotate_left
            · simp only [Act.put, List.setIfInBounds_toArray, List.set_cons_zero, List.set_cons_succ, i64_w, i32_w]
              rfl
            refine pure_ (i := 1) (N := some 92) (v := ?_) (a' := ?_) #[true, true, false, false, false, false, false, false, false, false, false, false, false, false] rfl rfl (by kernel_rfl) (fun _ _ _ h => h) (Or.inl ⟨by rfl, ?_⟩) ?_ ?_
            rotate_left
            · intro w'
              go_simp
              with_reducible rfl
            rotate_left
            · simp only [Act.put, List.setIfInBounds_toArray, List.set_cons_zero, List.set_cons_succ, i64_w, i32_w]
              rfl
            refine pure_ (i := 3) (N := some 94) (v := ?_) (a' := ?_) #[true, true, false, true, false, false, false, false, false, false, false, false, false, false] rfl rfl (by kernel_rfl) (fun _ _ _ h => h) (Or.inl ⟨by rfl, ?_⟩) ?_ ?_
            rotate_left
            · intro w'
              go_simp
              with_reducible rfl
            rotate_left
            · simp only [Act.put, List.setIfInBounds_toArray, List.set_cons_zero, List.set_cons_succ, i64_w, i32_w]
              rfl
            refine pure_ (i := 4) (N := some 95) (v := ?_) (a' := ?_) #[true, true, false, true, true, false, false, false, false, false, false, false, false, false] rfl rfl (by kernel_rfl) (fun _ _ _ h => h) (Or.inl ⟨by rfl, ?_⟩) ?_ ?_
            rotate_left
            · intro w'
              go_simp
              with_reducible rfl
            rotate_left
            · simp only [Act.put, List.setIfInBounds_toArray, List.set_cons_zero, List.set_cons_succ, i64_w, i32_w]
              rfl
            refine pure_ (i := 5) (N := some 96) (v := ?_) (a' := ?_) #[true, true, false, true, true, true, false, false, false, false, false, false, false, false] rfl rfl (by kernel_rfl) (fun _ _ _ h => h) (Or.inl ⟨by rfl, ?_⟩) ?_ ?_
            rotate_left
            · intro w'
              go_simp
              with_reducible rfl
            rotate_left
            · simp only [Act.put, List.setIfInBounds_toArray, List.set_cons_zero, List.set_cons_succ, i64_w, i32_w]
              rfl
            refine take_ (i := 6) (N := some 97) (v := ?_) (a' := ?_) #[true, true, false, true, true, true, true, false, false, false, false, false, false, false] rfl rfl (by kernel_rfl) (fun _ _ _ h => h) (Or.inl ⟨by rfl, ?_⟩) hHeld ?_ ?_
            rotate_left
            · intro w' s0
              go_simp
              with_reducible rfl
            rotate_left
            · simp only [Act.put, List.setIfInBounds_toArray, List.set_cons_zero, List.set_cons_succ, i64_w, i32_w]
              rfl
            refine one_ (i := 2) (N := some 93) #[true, true, true, true, true, true, true, false, false, false, false, false, false, false] rfl rfl (by kernel_rfl) (by decide) (fun K hK => ?_)
            refine goes_ Try.func33 (by kernel_rfl) rfl #[.pointer (some ⟨go, 0, none⟩), .pointer (some ⟨gc, 0, none⟩), .int .i64 3] (by rfl) rfl rfl (by first | (simp only [List.map_toArray, List.map_cons, List.map_nil]; done) | (simp only [List.map_toArray, List.map_cons, List.map_nil]; rfl) | simp) ?_
            with_reducible refine Calls.stepGet HGE.out (sane0 ..) ⟨HG.out.cur.drew⟩ ⟨HG.out.dic.drew⟩ ⟨HG.out.ap⟩ ⟨HG.out.okr⟩ ⟨HG.out.of⟩ ⟨below_drew1 HG.out.bel⟩ ?_
            intro vd2 w5 n1 n2 n3 n4 n5 n6 n7
            have HG5 := Aside0.mk (show Gk ok gc A' c' ⟨go, gmo, vd2, putsW [] (ps.take (j + 1).toNat)⟩ ps (j + 1).toNat wo w5 from ⟨n1.out, n2.out, rfl, n3.out, n4.out, n5.out, n7.out⟩)
            clear n1 n2 n3 n4 n5 n6 n7
            refine ⟨_, rfl, ?_⟩
            refine hK.out _ _ (pw_cell_below HG5.out.bel HPX.out) (fun hHeld => ?_)
            clear hK K
            refine norm_ (a' := ?_) ?_ ?_
            rotate_left
            · show Act.put _ (some 93) _ = _
              simp only [Act.put, List.setIfInBounds_toArray, List.set_cons_zero, List.set_cons_succ, i64_w, i32_w]
              rfl
            refine pure_ (i := 7) (N := some 98) (v := ?_) (a' := ?_) #[true, true, true, true, true, true, true, true, false, false, false, false, false, false] rfl rfl (by kernel_rfl) (fun _ _ _ h => h) (Or.inl ⟨by rfl, ?_⟩) ?_ ?_
            rotate_left
            · intro w'
              go_simp
              with_reducible rfl
            rotate_left
            · simp only [Act.put, List.setIfInBounds_toArray, List.set_cons_zero, List.set_cons_succ, i64_w, i32_w]
              rfl
            refine pure_ (i := 8) (N := some 99) (v := ?_) (a' := ?_) #[true, true, true, true, true, true, true, true, true, false, false, false, false, false] rfl rfl (by kernel_rfl) (fun _ _ _ h => h) (Or.inl ⟨by rfl, ?_⟩) ?_ ?_
            rotate_left
            · intro w'
              go_simp
              with_reducible rfl
            rotate_left
            · simp only [Act.put, List.setIfInBounds_toArray, List.set_cons_zero, List.set_cons_succ, i64_w, i32_w]
              rfl
            refine pure_ (i := 9) (N := some 100) (v := ?_) (a' := ?_) #[true, true, true, true, true, true, true, true, true, true, false, false, false, false] rfl rfl (by kernel_rfl) (fun _ _ _ h => h) (Or.inl ⟨by rfl, ?_⟩) ?_ ?_
            rotate_left
            · intro w'
              go_simp
              with_reducible rfl
            rotate_left
            · simp only [Act.put, List.setIfInBounds_toArray, List.set_cons_zero, List.set_cons_succ, i64_w, i32_w]
              rfl
            refine pure_ (i := 11) (N := some 102) (v := ?_) (a' := ?_) #[true, true, true, true, true, true, true, true, true, true, false, true, false, false] rfl rfl (by kernel_rfl) (fun _ _ _ h => h) (Or.inl ⟨by rfl, ?_⟩) ?_ ?_
            rotate_left
            · intro w'
              go_simp
              with_reducible rfl
            rotate_left
            · simp only [Act.put, List.setIfInBounds_toArray, List.set_cons_zero, List.set_cons_succ, i64_w, i32_w]
              rfl
            refine one_ (i := 10) (N := some 101) #[true, true, true, true, true, true, true, true, true, true, true, true, false, false] rfl rfl (by kernel_rfl) (by decide) (fun K hK => ?_)
            refine goes_ Try.func34 (by kernel_rfl) rfl #[.pointer (some ⟨gc, 0, none⟩)] (by rfl) rfl rfl (by first | (simp only [List.map_toArray, List.map_cons, List.map_nil]; done) | (simp only [List.map_toArray, List.map_cons, List.map_nil]; rfl) | simp) ?_
            with_reducible refine (curfault_at gc _ 0 0 _ HG5.out.cur rfl rfl).mono ?_
            rintro e w6 ⟨rfl, hb6⟩
            refine ⟨_, rfl, ?_⟩
            refine hK.out _ _ (pw_cell_below (below_step HG5.out.bel hb6) HPX.out) (fun hHeld => ?_)
            clear hK K
            refine norm_ (a' := ?_) ?_ ?_
            rotate_left
            · show Act.put _ (some 101) _ = _
              simp only [Act.put, List.setIfInBounds_toArray, List.set_cons_zero, List.set_cons_succ, i64_w, i32_w]
              rfl
            refine pure_ (i := 12) (N := some 103) (v := ?_) (a' := ?_) #[true, true, true, true, true, true, true, true, true, true, true, true, true, false] rfl rfl (by kernel_rfl) (fun _ _ _ h => h) (Or.inl ⟨by rfl, ?_⟩) ?_ ?_
            rotate_left
            · intro w'
              go_simp
              with_reducible rfl
            rotate_left
            · simp only [Act.put, List.setIfInBounds_toArray, List.set_cons_zero, List.set_cons_succ, i64_w, i32_w]
              rfl
            refine pure_ (i := 13) (N := some 104) (v := ?_) (a' := ?_) #[true, true, true, true, true, true, true, true, true, true, true, true, true, true] rfl rfl (by kernel_rfl) (fun _ _ _ h => h) (Or.inl ⟨by rfl, ?_⟩) ?_ ?_
            rotate_left
            · intro w'
              go_simp
              with_reducible rfl
            rotate_left
            · simp only [Act.put, List.setIfInBounds_toArray, List.set_cons_zero, List.set_cons_succ, i64_w, i32_w]
              rfl
            refine done_ (by kernel_rfl) ?_
            go_wp2
            go_roundw
            case rel => exact ⟨j + 1, vd2, by go_num, by omega, by omega, ⟨HG5.out.below hb6⟩⟩
            case measure => simp [intOf]; omega
          · have hje : j.toNat = ps.length := by omega
            rw [hje, List.take_length, HWS.out] at HG
            clear hje
            have n0 := Aside0.mk (HDO.out.below HG.out.bel)
            have n1 := Aside0.mk (below_step HBO.out HG.out.bel)
            clear HDO HBO
            have HD := n0
            have HB := n1
            clear n0 n1
            have HLF := Aside0.mk (curleft_at gc _ 0 wp HG.out.cur (by simp only [List.take_length]; omega))
            go_wp2_with fail
            with_reducible refine (Calls.dB HLF.out).mono ?_
            rintro e w5 ⟨rfl, hb5⟩
            have n0 := Aside0.mk (HD.out.below hb5)
            have n1 := Aside0.mk (below_step HB.out hb5)
            have n2 := Aside0.mk (HG.out.dic.below hb5)
            clear HD HB HG hb5 HLF
            have HD := n0
            have HB := n1
            have HO := n2
            clear n0 n1 n2
            go_wp2_with fail
            with_reducible refine (dicwords_calls ⟨g, gm, vd, ws⟩ _ HD.out).mono ?_
            rintro e w6 ⟨v6, rfl, hv6, hb6⟩
            obtain ⟨A6, c6, rfl, _, hC6⟩ := Kd.R_reads hv6
            have HC6 := Aside0.mk hC6
            have n0 := Aside0.mk (HD.out.below hb6)
            have n1 := Aside0.mk (below_step HB.out hb6)
            have n2 := Aside0.mk (HO.out.below hb6)
            clear HD HB HO hb6 hv6 hC6
            have HD := n0
            have HB := n1
            have HO := n2
            clear n0 n1 n2
            go_wp2_with fail
            with_reducible refine (dicwords_calls ⟨go, gmo, vo, ws⟩ _ HO.out).mono ?_
            rintro e w7 ⟨v7, rfl, hv7, hb7⟩
            obtain ⟨A7, c7, rfl, _, hC7⟩ := Kd.R_reads hv7
            have HC7 := Aside0.mk hC7
            have n0 := Aside0.mk (HD.out.below hb7)
            have n1 := Aside0.mk (below_step HB.out hb7)
            have n2 := Aside0.mk (HO.out.below hb7)
            have n3 := Aside0.mk (Kd.C_below HC6.out hb7)
            clear HD HB HO hb7 hv7 hC7 HC6
            have HD := n0
            have HB := n1
            have HO := n2
            have HC6 := n3
            clear n0 n1 n2 n3
            go_wp2_with fail
            with_reducible refine (Calls.dB (words15_calls A6 _ c6 ws A7 _ c7 ws _ HC6.out HC7.out)).mono ?_
            rintro e w8 ⟨rfl, hb8⟩
            rw [decide_eq_true rfl]
            have n0 := Aside0.mk (HD.out.below hb8)
            have n1 := Aside0.mk (below_step HB.out hb8)
            have n2 := Aside0.mk (HO.out.below hb8)
            clear HD HB HO hb8 HC6 HC7
            have HD := n0
            have HB := n1
            have HO := n2
            clear n0 n1 n2
            go_wp2_with fail
            with_reducible refine Calls.stepEq (diclen_calls ⟨g, gm, vd, ws⟩ _ HD.out) ?_
            go_wp2_with fail
            with_reducible refine Calls.stepEq (diclen_calls ⟨go, gmo, vo, ws⟩ _ HO.out) ?_
            go_wp2_with fail
            with_reducible refine Calls.stepB (awake15_calls _) ⟨(by repeat (first | (with_reducible first | exact HB.out | apply below_alloc | apply pw_below_drewN | apply below_drew1) | exact HB.out))⟩ ?_
            clear HB
            intro w_ HK HB
            clear HK
            go_wp2
            go_ret
            exact ⟨rfl, (by repeat (first | (with_reducible first | exact HB.out | apply below_alloc | apply pw_below_drewN | apply below_drew1) | exact HB.out))⟩
namespace dictBack
open Go.ChangeShapes Go.WideShapes Go.ChangeAt Go.RowKit
open Go.ChangeMaps (open_string shut_string)
theorem own : ownKnob Try.prog.godebug = none := by kernel_rfl
theorem laidOut : laidOutB Try.prog = true := by kernel_rfl
set_option maxRecDepth 100000 in
theorem lifted (os : Os) (started : os.Started) (H : Type) (enc : TypeId × Value → H) :
    ReturnsInHanded {} Try.checked os 11 .any (Rows.dictBackSpec.pre6 enc Try.prog Try.f11 Rows.dictBackRow.domain false) (Rows.dictBackSpec.post enc Try.prog Try.f11 false true false false) := by
  refine returnsInHanded_of_change_sized (C := Try.checked) own started (by kernel_rfl) Try.func11
    (ChangeSpec.witness6 (enc := enc) (C := Try.checked) false ⟨#[], #[.slice none 0 0], []⟩ 8 (by kernel_rfl) (by kernel_rfl) (by kernel_rfl) (by kernel_rfl)) ?_
  intro W base args ds gs before hval0 hW hcnd hsz0 _
  have hsz : (DataW.weightsEach Try.prog (Try.f11.params.toList ++ Rows.dictBackSpec.plain.varTypes Try.prog) (ds ++ gs)).all (· ≤ reachBytes) = true := hsz0
  have hval : ∀ (j : Nat) t v, Try.f11.params[j]? = some t → args[j]? = some v → Value.okWide Try.prog W .any base t v := hval0
  have hW' := hW
  obtain ⟨p, q, hA0, hV, rfl, hfz, hnd⟩ := hW
  have hA : DataW.TrodAll enc Try.prog W 0 (fun _ => true) true Try.f11.params.toList args.toList ds p := hA0
  rw [Try.params11] at hA hval hsz
  obtain ⟨v0, vs0, d0, ds0, p0, q0, hargs, rfl, rfl, h0, r0⟩ := trodAll_cons hA
  obtain ⟨rfl, rfl, rfl⟩ := trodAll_nil r0
  obtain rfl : args = #[v0] := by cases args; simp_all
  obtain ⟨rfl, rfl⟩ := trodVars_none hV
  obtain ⟨a0, len0, cap0, rfl⟩ := okWide_slice Try.underlying64 (hval 0 64 v0 rfl rfl)
  have k0 := h0
  have lt0 : ∀ x ∈ p0, x.block < W.heap.size := by obtain ⟨m, hm⟩ := k0; exact DataW.trod_lt m _ _ _ hm
  have y0 : len0 * 16 ≤ 140737488351232 := sized_strs hsz (j := 0) (t := 64) rfl rfl Try.underlying64 Try.underlying9 (by kernel_rfl) (by kernel_rfl) h0
  obtain ⟨l0, c0, b0, e0⟩ := open_srow Try.underlying64 Try.underlying9 (by kernel_rfl) (by omega) h0
  obtain rfl := c0.1.symm
  clear hA0 hval0 hsz0 hsz
  refine (dictBack_walk a0 cap0 l0 W c0 b0 y0 e0).mono fun e W' ⟨he, bel⟩ => ?_
  subst he
  exact ⟨_, rfl, _, _, _, [], _, [], hW', trodAll_mk1 (shut_bool Try.underlying4 _), (trodAll_cons_mk (Below.trod laidOut (by kernel_rfl) (of_decide_eq_true (by kernel_rfl)) k0 bel lt0) trodAll_mk0), rfl, bel.frame _, fun h => by cases h⟩
theorem over : Rows.dictBackRow.holds Try.pinned (OpenSpec.ofChange Rows.dictBackSpec) :=
  OpenClaim.holds_of_wide 11 Try.f11 rfl rfl rfl rfl rfl rfl rfl ⟨rfl, rfl, rfl, rfl, rfl⟩ rfl rfl rfl rfl rfl (by kernel_rfl) Try.func11 (by kernel_rfl)
    (of_decide_eq_true (by kernel_rfl)) (by unfold Func.isWrapper; first | (rw [if_pos (by decide +kernel)]; kernel_rfl) | (rw [if_neg (by decide +kernel)]; exact ⟨rfl, rfl⟩))
    (fun os started H enc _ => lifted os started H enc)
theorem proved : Rows.DictBackSaid := over
end dictBack
/-- The row, under a short name, for the claim. -/
theorem dictBack_holds : Rows.DictBackSaid := dictBack.proved
#print axioms dictBack_holds
end Go.Proofs.Ytmbfjaogimkncaa
