/- DictOnce: each word is there once, as it came first; its bytes are as many as it has, and two numbers', as it comes first, and a number's then: its walk; no condition. -/
import Derived.Test.YtmbfjaogimkncaaLaw15B
import Derived.Test.YtmbfjaogimkncaaLawKit
import Derived.Test.YtmbfjaogimkncaaRows
namespace Go.Proofs.Ytmbfjaogimkncaa
open Go.RowKit Go.Proofs.YtmbfjaogimkncaaW.PrintWords Go.Proofs.YtmbfjaogimkncaaW.PrintLast Go.Proofs.YtmbfjaogimkncaaW.PrintMore
set_option linter.unusedVariables false
set_option linter.unusedSimpArgs false
/-- The words behind words that are put. -/
def putsW (ws : List ByteArray) : List ByteArray → List ByteArray
  | [] => ws
  | s :: t => putsW (dput ws s).2.2 t
theorem putsW_snoc (s : ByteArray) : ∀ (ws l : List ByteArray), putsW ws (l ++ [s]) = (dput (putsW ws l) s).2.2
  | ws, [] => rfl
  | ws, x :: l => putsW_snoc s _ l
theorem dput_len (ws : List ByteArray) (s : ByteArray) : (dput ws s).2.2.length ≤ ws.length + 1 := by
  unfold dput
  split
  · simp
  · split
    · simp
    · simp
theorem putsW_len : ∀ (ws l : List ByteArray), (putsW ws l).length ≤ ws.length + l.length
  | ws, [] => by simp [putsW]
  | ws, x :: l => by
    have h1 := putsW_len (dput ws x).2.2 l
    have h2 := dput_len ws x
    show (putsW (dput ws x).2.2 l).length ≤ _
    simp only [List.length_cons]
    omega
theorem take_next {l : List ByteArray} {i : Int} (h0 : 0 ≤ i) (h1 : i < l.length) : l.take (i + 1).toNat = l.take i.toNat ++ [l.getD i.toNat ByteArray.empty] := by
  have e : (i + 1).toNat = i.toNat + 1 := by omega
  have h2 : i.toNat < l.length := by omega
  rw [e, List.take_succ_eq_append_getElem h2, List.getD_eq_getElem?_getD, List.getElem?_eq_getElem h2]
  rfl
theorem putsW_take {l : List ByteArray} {i : Int} (h0 : 0 ≤ i) (h1 : i < l.length) : putsW [] (l.take (i + 1).toNat) = (dput (putsW [] (l.take i.toNat)) (l.getD i.toNat ByteArray.empty)).2.2 := by
  rw [take_next h0 h1, putsW_snoc]
theorem R_lit_str0 {w : World} {base : Nat} {ok : Nat → Prop} (e : TypeId) (hb : base ≤ w.heap.size) (hok : ok w.heap.size) : Kd.string.R e (w.alloc (.cells #[] e)) base ok (.slice (some ⟨w.heap.size, 0, none⟩) 0 0) [] := by
  have h2 := World.ownsRow_lit (base := base) (e := e) (size := 1) w #[] 0 hb (by simp [maxLen]) (by simp)
  refine Kd.R_of_own (enc := Value.string) (h1 := fun _ => rfl) (xs := []) h2 (fun k hk => ?_)
  have : w.heap.size = k := by simpa [Value.ownBlock] using hk
  subst this
  exact hok
/-- Where a word stands among so many of the words; -1: it is not there. -/
def atW (ws : List ByteArray) (s : ByteArray) (k : Nat) : Int := if 0 < findW (ws.take k) s then (findW ws s : Int) - 1 else -1
theorem atW_in {ws : List ByteArray} {s : ByteArray} {k : Nat} (h : s ∈ ws.take k) : atW ws s k = (findW ws s : Int) - 1 := if_pos ((find_pos _ _).2 h)
theorem atW_out {ws : List ByteArray} {s : ByteArray} {k : Nat} (h : s ∉ ws.take k) : atW ws s k = -1 := if_neg (fun h2 => h ((find_pos _ _).1 h2))
theorem atW_zero (ws : List ByteArray) (s : ByteArray) : atW ws s 0 = -1 := atW_out (by simp)
theorem find_zero {ws : List ByteArray} {s : ByteArray} (h : s ∉ ws) : findW ws s = 0 := by
  have := find_pos ws s
  apply Classical.byContradiction
  intro hn
  exact h (this.1 (by omega))
theorem atW_all (ws : List ByteArray) (s : ByteArray) : atW ws s ws.length = (findW ws s : Int) - 1 := by
  by_cases h : s ∈ ws
  · exact atW_in (by rw [List.take_length]; exact h)
  · rw [atW_out (by rw [List.take_length]; exact h), find_zero h]
    rfl
theorem atW_same {ws : List ByteArray} {s : ByteArray} {k : Nat} (hn : ws.Nodup) (hk : k < ws.length) (h : ws.getD k ByteArray.empty = s) : atW ws s (k + 1) = k := by
  have hm : s ∈ ws := by rw [← h]; exact getD_mem hk
  have hg : ws[k] = s := by rw [List.getD_eq_getElem?_getD, List.getElem?_eq_getElem hk] at h; exact h
  have h2 : s ∈ ws.take (k + 1) := by
    rw [List.take_succ_eq_append_getElem hk, hg]
    simp
  rw [atW_in h2]
  obtain ⟨h3, h4, h5⟩ := findFrom_in s ws 0 hm
  have h6 : ws[findW ws s - 1]? = some s := h5
  have h7 : ws[k]? = some s := by rw [List.getElem?_eq_getElem hk, hg]
  have h9 : 0 < findW ws s := h3
  have h8 : findW ws s - 1 < ws.length := by have := find_le ws s; omega
  have := (List.getElem?_inj h8 hn).1 (h6.trans h7.symm)
  omega
theorem atW_other {ws : List ByteArray} {s : ByteArray} {k : Nat} (hk : k < ws.length) (h : ws.getD k ByteArray.empty ≠ s) : atW ws s (k + 1) = atW ws s k := by
  have hg : ws[k] ≠ s := by rw [List.getD_eq_getElem?_getD, List.getElem?_eq_getElem hk] at h; exact h
  have e : s ∈ ws.take (k + 1) ↔ s ∈ ws.take k := by
    rw [List.take_succ_eq_append_getElem hk, List.mem_append]
    refine ⟨fun h2 => h2.elim id (fun h3 => absurd ?_ hg), .inl⟩
    exact (List.mem_singleton.1 h3).symm
  by_cases h2 : s ∈ ws.take k
  · rw [atW_in h2, atW_in (e.2 h2)]
  · rw [atW_out h2, atW_out (fun h3 => h2 (e.1 h3))]
theorem vput_len2 {n : Nat} (h : n ≤ 16000) : (vput n).length = if n < 128 then 1 else 2 := by
  by_cases hl : n < 128
  · rw [if_pos hl, vput_lt hl]; rfl
  · rw [if_neg hl, vput_ge hl, vput_lt (by omega)]; rfl
theorem bytesOf_range (s : ByteArray) : ∀ x ∈ bytesOf s, 0 ≤ x ∧ x < 256 := by
  intro x hx
  unfold bytesOf at hx
  obtain ⟨b, _, rfl⟩ := List.mem_map.1 hx
  have := b.toNat_lt
  exact ⟨by omega, by omega⟩
theorem strOf_bytesOf (s : ByteArray) : strOfNums (bytesOf s) = s := by
  apply Go.WideShapes.bytes_inj
  rw [strOfNums_data]
  unfold bytesOf
  rw [List.map_map]
  have e : ((fun n : Int => UInt8.ofNat n.toNat) ∘ fun b : UInt8 => (b.toNat : Int)) = id := by
    funext b
    simp
  rw [e, List.map_id]
/-- What Put tells of a new word. -/
theorem put_shape (s : ByteArray) (more : Nat) (hm : more = if s.size < 128 then 2 else 3) (h : s.size ≤ 200) (xs : List Int) (hx : vput 0 ++ vput s.size ++ bytesOf s = xs) : xs.length = s.size + more ∧ rd xs 0 = 0 ∧ xs.drop more = bytesOf s := by
  have hv0 : vput 0 = [0] := vput_lt (by decide)
  have hv1 := vput_len2 (n := s.size) (by omega)
  have hl := bytesOf_length s
  have hh : (vput 0 ++ vput s.size).length = more := by
    rw [List.length_append, hv0, hv1, hm]
    split <;> rfl
  subst hx
  refine ⟨by rw [List.length_append, hh, hl]; omega, by rw [hv0]; rfl, ?_⟩
  rw [← hh, List.drop_append_of_le_length (Nat.le_refl _), List.drop_length]
  rfl
theorem C_blkS {w : World} {A : Option Addr} {n : Nat} {xs : List ByteArray} (h : Kd.string.C w A n xs) (hn : 0 < n) : ∀ ad, A = some ad → ad.block < w.heap.size := by
  intro ad e
  obtain ⟨ad', e', hx⟩ := str_at h 0 (by omega) (by omega)
  rw [e] at e'
  injection e' with e'
  subst e'
  have := World.block_lt_of_cell? w _ hx
  rwa [add_block] at this
theorem seen_turn {d d' : Dic} {W w' : World} {e base : Nat} {v : Value} {xs : List ByteArray} (hR : Kd.string.R e W base (fun k => ¬ d.F k) v xs) (hc : Chg d.F W w') (hn : ∀ k, d'.F k → d.F k ∨ W.heap.size ≤ k) : Kd.string.R e w' base (fun k => ¬ d'.F k) v xs :=
  Kd.R_mono (Kd.R_step (Kd.R_bound hR) (fun k hk hl => hc.block k hl hk.1)) (fun k hk hF => (hn k hF).elim hk.1 (fun h => by have := hk.2.2.1; omega))
theorem seen_app {d : Dic} {w W w5 : World} {v : Value} {ws xs : List ByteArray} {g1 n1 c1 : Nat} (hD : DicAt d W) (hS : Kd.string.R 9 W w.heap.size (fun k => ¬ d.F k) v ws) (hB : Below w.heap.size w W)
    (hr : Kd.string.R 9 w5 w.heap.size (fun k => some k = (Value.slice (some ⟨g1, 0, none⟩) n1 c1).ownBlock) (.slice (some ⟨g1, 0, none⟩) n1 c1) xs) (hg : W.grownBy w5 v.ownBlock) (hat : some g1 = v.ownBlock ∨ W.heap.size ≤ g1) :
    DicAt d w5 ∧ Kd.string.R 9 w5 w.heap.size (fun k => ¬ d.F k) (.slice (some ⟨g1, 0, none⟩) n1 c1) xs ∧ Below w.heap.size w w5 := by
  refine ⟨hD.step (Chg.of_grown hg (S := fun k => v.ownBlock = some k) (fun k hk => hk)) (fun k hk h => hS.1 k h hk), Kd.R_mono hr (fun k hk hF => ?_), pw_below_grown hB _ (below_size hB) hg (fun k hk => Kd.R_base hS k hk)⟩
  have e : k = g1 := by injection hk
  subst e
  rcases hat with h | h
  · exact hS.1 k h.symm hF
  · have := hD.lt k hF
    omega
set_option maxHeartbeats 8000000 in
set_option maxRecDepth 100000 in
theorem dictOnce_walk (A : Option Addr) (c : Nat) (l : List ByteArray) (w : World) (hC : Kd.string.C w A l.length l) (hwf : ∀ x ∈ l, x.size ≤ 9223372036854775807) (hsz : l.length * 16 ≤ 140737488351232) (hcap : l.length ≤ c) :
    Calls Try.prog 9 #[.slice A l.length c] w fun e w' => e = .returned (.bool true) ∧ Below w.heap.size w w' := by
  have HCW := Aside0.mk hC
  have HFE := Aside0.mk (few15_calls A c l w hC hwf)
  clear hC hwf hsz
  have HB := Aside0.mk (Below.refl w.heap.size w)
  cases hfew : fewB l with
  | false =>
    rw [hfew] at HFE
    clear hfew
    go_enter Try.func9, Try.ntmps9
    go_wp2_with fail
    with_reducible refine Calls.stepB (Calls.dB HFE.out) ⟨(by repeat (first | (with_reducible first | exact HB.out | apply below_alloc | apply pw_below_drewN | apply below_drew1) | exact HB.out))⟩ ?_
    clear HB
    intro w_ HK HB
    clear HK
    go_wp2_with fail
    with_reducible refine Calls.stepB (awake15_calls _) ⟨(by repeat (first | (with_reducible first | exact HB.out | apply below_alloc | apply pw_below_drewN | apply below_drew1) | exact HB.out))⟩ ?_
    clear HB
    intro w_ HK HB
    clear HK
    go_wp2
    go_ret
    exact ⟨rfl, (by repeat (first | (with_reducible first | exact HB.out | apply below_alloc | apply pw_below_drewN | apply below_drew1) | exact HB.out))⟩
  | true =>
    rw [hfew] at HFE
    have hfew2 : l.length ≤ 80 ∧ ∀ s ∈ l, s.size ≤ 300 := of_decide_eq_true hfew
    have hl80 := hfew2.1
    have HSZ := Aside0.mk hfew2.2
    clear hfew hfew2
    go_enter Try.func9, Try.ntmps9
    go_wp2_with fail
    with_reducible refine Calls.stepB (Calls.dB HFE.out) ⟨(by repeat (first | (with_reducible first | exact HB.out | apply below_alloc | apply pw_below_drewN | apply below_drew1) | exact HB.out))⟩ ?_
    clear HB
    intro w_ HK HB
    clear HK
    go_wp2_with fail
    with_reducible refine Calls.stepNew HB ?_
    clear HB
    intro g gm w1 HD hnew HF hb1 HB
    have HSE := Aside0.mk (R_lit_str0 (w := w1) (base := w.heap.size) (ok := fun k => ¬ (⟨g, gm, .slice none 0 0, []⟩ : Dic).F k) 9 (below_size HB.out) (fun h => by have := HD.out.lt _ h; omega))
    clear hnew hb1
    go_wp2
    go_loopw [4, 5] (fun v4 v5 w' => ∃ (i : Int) (vd : Value), v5 = .int .i64 i ∧ 0 ≤ i ∧ i ≤ (l.length : Int) ∧ Aside0 (DicAt ⟨g, gm, vd, putsW [] (l.take i.toNat)⟩ w') ∧ Aside0 (∀ k, (⟨g, gm, vd, putsW [] (l.take i.toNat)⟩ : Dic).F k → w.heap.size ≤ k) ∧ Aside0 (Kd.string.R 9 w' w.heap.size (fun k => ¬ (⟨g, gm, vd, putsW [] (l.take i.toNat)⟩ : Dic).F k) v4 (putsW [] (l.take i.toNat))) ∧ Aside0 (Below w.heap.size w w')) (fun _ v5 _ => l.length - (intOf v5).toNat)
    case atStart => exact ⟨0, _, rfl, by omega, by omega, ⟨HD.out.alloc _⟩, HF, HSE, ⟨below_alloc HB.out _⟩⟩
    case round =>
      clear HB HD HF HSE
      obtain ⟨i, vd, rfl, hi0, hi, HD, HF, HSE, HB⟩ := hrel
      obtain ⟨ws, hws⟩ : ∃ ws, putsW [] (l.take i.toNat) = ws := ⟨_, rfl⟩
      have hwl := putsW_len [] (l.take i.toNat)
      rw [List.length_take, List.length_nil] at hwl
      rw [hws] at HD HSE HF hwl
      have hw80 : ws.length ≤ 80 := by omega
      have HWS := Aside0.mk hws
      clear hws hwl
      obtain ⟨A4, c4, rfl, hc4, hC4⟩ := Kd.R_reads HSE.out
      have HC4 := Aside0.mk hC4
      clear hC4
      obtain ⟨wo, rfl⟩ : ∃ wo : World, wo = wr := ⟨_, rfl⟩
      by_cases hlt : i < (l.length : Int)
      · obtain ⟨ad, e, hx0⟩ := str_at (Kd.C_below HCW.out HB.out) i hi0 hlt
        cases e
        obtain ⟨s0, hs0⟩ : ∃ s, l.getD i.toNat ByteArray.empty = s := ⟨_, rfl⟩
        rw [hs0] at hx0
        have hs300 := HSZ.out s0 (by rw [← hs0]; exact getD_mem (by omega))
        have HNX := Aside0.mk (show putsW [] (l.take (i + 1).toNat) = (dput ws s0).2.2 by rw [putsW_take hi0 hlt, HWS.out, hs0])
        clear hs0
        go_wp2
        go_loopw [6, 7] (fun v6 v7 w' => ∃ k : Int, v7 = .int .i64 k ∧ 0 ≤ k ∧ k ≤ (ws.length : Int) ∧ v6 = .int .i64 (atW ws s0 k.toNat) ∧ Drawn0 wo w') (fun _ v7 _ => ws.length - (intOf v7).toNat)
        case atStart => exact ⟨0, rfl, by omega, by omega, by rw [show (0 : Int).toNat = 0 from rfl, atW_zero], Drawn0.refl _⟩
        case round =>
          obtain ⟨k, rfl, hk0, hk, rfl, ⟨m1, rfl⟩⟩ := hrel
          by_cases hklt : k < (ws.length : Int)
          · obtain ⟨ad4, e4, hx4⟩ := str_at HC4.out k hk0 hklt
            cases e4
            obtain ⟨s1, hs1⟩ : ∃ s, ws.getD k.toNat ByteArray.empty = s := ⟨_, rfl⟩
            rw [hs1] at hx4
            by_cases hq : s1 = s0
            · subst hq
              have HA := Aside0.mk (atW_same HD.out.nd (k := k.toNat) (by show _ < ws.length; omega) hs1)
              clear hs1
              go_wp2
              repeat (go_quiet (fail); try go_wp2)
              go_roundw
              case rel => exact ⟨k + 1, by go_num, by omega, by omega, by rw [show (k + 1).toNat = k.toNat + 1 by omega, HA.out, Int.toNat_of_nonneg hk0], by repeat (first | exact Drawn0.refl _ | apply Drawn0.step)⟩
              case measure => simp [intOf]; omega
            · have HA := Aside0.mk (atW_other (ws := ws) (k := k.toNat) (by omega) (fun e => hq (hs1.symm.trans e)))
              have hq1 : (s1.toList == s0.toList) = false := str_ne hq
              clear hs1 hq
              go_wp2
              repeat (go_quiet (fail); try go_wp2)
              go_roundw
              case rel => exact ⟨k + 1, by go_num, by omega, by omega, by rw [show (k + 1).toNat = k.toNat + 1 by omega, HA.out], by repeat (first | exact Drawn0.refl _ | apply Drawn0.step)⟩
              case measure => simp [intOf]; omega
          · have hkw : k.toNat = ws.length := by omega
            rw [hkw, atW_all]
            have hfl := find_le ws s0
            clear hkw
            have HX0 := Aside0.mk ((Below.cell (p := ad.add i.toNat) HB.out (by rw [add_block]; exact C_blkS HCW.out (by omega) ad rfl)).symm.trans hx0)
            have hx1 : (wo.drewN m1).cell? (ad.add i.toNat) = some (.string s0) := hx0
            have HSE2 := Aside0.mk (Kd.R_drewN HSE.out m1)
            clear hx0 HSE HC4 hc4
            obtain ⟨kf, hkf⟩ : ∃ kf, findW ws s0 = kf := ⟨_, rfl⟩
            rw [hkf] at hfl ⊢
            by_cases h0 : 0 < kf
            · have HE := Aside0.mk (show dput ws s0 = ([(kf : Int)], 0, ws) by unfold dput; rw [hkf, if_pos h0, vput_lt (by omega)])
              rw [HE.out] at HNX
              clear hkf
              go_wp2_with fail
              with_reducible refine Calls.stepPut (HE.out) (by omega) ⟨(by (with_reducible repeat (first | apply DicAt.alloc | apply DicAt.drewN | apply DicAt.drew)); exact HD.out)⟩ HF ⟨(by repeat (first | (with_reducible first | exact HB.out | apply below_alloc | apply pw_below_drewN | apply below_drew1) | exact HB.out))⟩ ?_
              clear HB
              intro A1 c1 vd1 w_ n1 n2 HG1 HN1 HR1 HB
              have HDO1 := HD
              clear HD HF
              have HD := n1
              have HF := n2
              clear n1 n2
              have HSE3 := Aside0.mk (seen_turn HSE2.out HG1.out HN1.out)
              obtain ⟨ad1, e1, hx3⟩ := Kd.at_int (Kd.R_reads' HR1.out).2.2 0 (by omega) (by simp)
              cases e1
              have hx4 : w_.cell? (ad1.add 0) = some (.int .u8 (kf : Int)) := hx3
              have hx5 : w_.cell? ad1 = some (.int .u8 (kf : Int)) := by rw [show ad1.add 0 = ad1 from rfl] at hx4; exact hx4
              clear HSE2 HR1 HG1 HN1 HDO1 hx3
              go_wp2
              go_roundw
              case rel => exact ⟨i + 1, vd1, by go_num, by omega, by omega, by rw [HNX.out]; exact HD, by rw [HNX.out]; exact HF, by rw [HNX.out]; exact HSE3, HB⟩
              case measure => simp [intOf]; omega
            · have hk0' : kf = 0 := by omega
              have HNW := Aside0.mk (show s0 ∉ ws from fun e => h0 (by rw [← hkf]; exact (find_pos ws s0).2 e))
              rw [show (kf : Int) - 1 = -1 by omega]
              by_cases h200 : 200 < s0.size
              · have HE := Aside0.mk (show dput ws s0 = ([], 12, ws) by unfold dput; rw [hkf, if_neg h0, if_pos (.inl h200)])
                rw [HE.out] at HNX
                have b1 : decide (200 < (s0.size : Int)) = true := decide_eq_true (by omega)
                clear hkf h0 hk0' h200
                go_wp2_with fail
                with_reducible refine Calls.stepPut (HE.out) (by omega) ⟨(by (with_reducible repeat (first | apply DicAt.alloc | apply DicAt.drewN | apply DicAt.drew)); exact HD.out)⟩ HF ⟨(by repeat (first | (with_reducible first | exact HB.out | apply below_alloc | apply pw_below_drewN | apply below_drew1) | exact HB.out))⟩ ?_
                clear HB
                intro A1 c1 vd1 w_ n1 n2 HG1 HN1 HR1 HB
                have HDO1 := HD
                clear HD HF
                have HD := n1
                have HF := n2
                clear n1 n2
                have HSE3 := Aside0.mk (seen_turn HSE2.out HG1.out HN1.out)
                have hx2 := pw_cell_below HB.out HX0.out
                clear HSE2 HR1 HG1 HN1 HDO1
                go_wp2
                go_roundw
                case rel => exact ⟨i + 1, vd1, by go_num, by omega, by omega, by rw [HNX.out]; exact HD, by rw [HNX.out]; exact HF, by rw [HNX.out]; exact HSE3, HB⟩
                case measure => simp [intOf]; omega
              · have HE := Aside0.mk (show dput ws s0 = (vput 0 ++ vput s0.size ++ bytesOf s0, 0, ws ++ [s0]) by unfold dput; rw [hkf, if_neg h0, if_neg (by omega)])
                obtain ⟨xs, hxs⟩ : ∃ xs, vput 0 ++ vput s0.size ++ bytesOf s0 = xs := ⟨_, rfl⟩
                rw [hxs] at HE
                rw [HE.out] at HNX
                have b1 : decide (200 < (s0.size : Int)) = false := decide_eq_false (by omega)
                obtain ⟨more, hmore⟩ : ∃ more : Nat, more = if s0.size < 128 then 2 else 3 := ⟨_, rfl⟩
                have HXS := Aside0.mk (put_shape s0 more hmore (by omega) xs hxs)
                have hxl := HXS.out.1
                have hm3 : more ≤ 3 := by rw [hmore]; split <;> omega
                have hm127 : (more = 2 ∧ ¬ 127 < s0.size) ∨ (more = 3 ∧ 127 < s0.size) := by
                  rw [hmore]
                  split
                  · exact .inl ⟨rfl, by omega⟩
                  · exact .inr ⟨rfl, by omega⟩
                have hxl1 : xs.length ≤ 203 := by omega
                have hxl2 : more ≤ xs.length := by omega
                have HXL := Aside0.mk hxl
                clear hkf h0 hk0' h200 hxs hmore hxl
                go_wp2_with fail
                with_reducible refine Calls.stepPut (HE.out) (by omega) ⟨(by (with_reducible repeat (first | apply DicAt.alloc | apply DicAt.drewN | apply DicAt.drew)); exact HD.out)⟩ HF ⟨(by repeat (first | (with_reducible first | exact HB.out | apply below_alloc | apply pw_below_drewN | apply below_drew1) | exact HB.out))⟩ ?_
                clear HB
                intro A1 c1 vd1 w_ n1 n2 HG1 HN1 HR1 HB
                have HDO1 := HD
                clear HD HF
                have HD := n1
                have HF := n2
                clear n1 n2
                have HSE3 := Aside0.mk (seen_turn HSE2.out HG1.out HN1.out)
                have hx2 := pw_cell_below HB.out HX0.out
                have HCX := Aside0.mk (Kd.R_reads' HR1.out).2.2
                have hcx := (Kd.R_reads' HR1.out).2.1
                obtain ⟨ad1, e1, hx3⟩ := Kd.at_int HCX.out 0 (by omega) (by have := HXL.out; omega)
                cases e1
                rw [HXS.out.2.1] at hx3
                have hx4 : w_.cell? (ad1.add 0) = some (.int .u8 0) := hx3
                have hx5 : w_.cell? ad1 = some (.int .u8 0) := by rw [show ad1.add 0 = ad1 from rfl] at hx4; exact hx4
                clear HSE2 HR1 HG1 HN1 HDO1 hx3
                rcases hm127 with ⟨rfl, hm2⟩ | ⟨rfl, hm2⟩
                · have b2 : decide (127 < (s0.size : Int)) = false := decide_eq_false (by omega)
                  have q1 : IntKind.i64.wrap ((s0.size : Int) + 2) = (xs.length : Int) := by rw [show (xs.length : Int) = (s0.size : Int) + 2 by have := HXL.out; omega]; exact IntWalk.i64_in _ (by omega)
                  have q2 : ((xs.length : Int) != (xs.length : Int)) = false := by simp
                  have hp0 : 0 < xs.length := by omega
                  have hp1 : (0 : Int) < (xs.length : Int) := by omega
                  have hp2 : 2 ≤ xs.length := by omega
                  have hp3 : (2 : Int) ≤ (xs.length : Int) := by omega
                  have hp4 : (2 : Int) ≤ (c1 : Int) := by omega
                  have HCV := fun (W : World) (hb : Below w_.heap.size w_ W) => Kd.C_string (P := Try.prog) (src := 22) (dst := 9) (c := c1 - 2) uB (by kernel_rfl) (by kernel_rfl) (Kd.C_below (C_from HCX.out 2 c1 hxl2 hcx) hb)
                  have HCW2 := fun n : Nat => HCV (w_.drewN n) (pw_below_drewN (Below.refl _ _) n)
                  clear HCV
                  by_cases hcm : c1 = 2
                  · subst hcm
                    simp only [HXS.out.2.2, strOf_bytesOf, if_true, ite_true, Nat.sub_self, show xs.length - 2 = 0 by omega] at HCW2
                    go_wp2
                    go_quiet (fail)
                    go_wp2_with (first | ((with_reducible refine gate_dst (N := 122) rfl ?_); at_builtin; go_must (refine R_app_str (v := .slice A4 ws.length c4) rfl rfl rfl rfl uSs iSs (Kd.R_drewN HSE3.out _) (below_size (pw_below_drewN HB.out _)) (by omega) (n1 := ws.length + 1) rfl ?_); intro g5 c5 w5 hr5 hg5 hat5 hlt5; have H5 := Aside0.mk (seen_app (HD.out.drewN _) (Kd.R_drewN HSE3.out _) (pw_below_drewN HB.out _) hr5 hg5 hat5); clear hr5 hg5 hat5))
                    go_roundw
                    case rel => exact ⟨i + 1, vd1, by go_num, by omega, by omega, by rw [HNX.out]; exact ⟨H5.out.1⟩, by rw [HNX.out]; exact HF, by rw [HNX.out]; exact ⟨H5.out.2.1⟩, ⟨H5.out.2.2⟩⟩
                    case measure => simp [intOf]; omega
                  · simp only [HXS.out.2.2, strOf_bytesOf, if_neg hcm, Option.map_some] at HCW2
                    rw [show ad1.add 2 = ⟨ad1.block, ad1.off + 2, none⟩ from rfl] at HCW2
                    go_wp2
                    go_quiet (fail)
                    go_wp2_with (first | ((with_reducible refine gate_dst (N := 122) rfl ?_); at_builtin; go_must (refine R_app_str (v := .slice A4 ws.length c4) rfl rfl rfl rfl uSs iSs (Kd.R_drewN HSE3.out _) (below_size (pw_below_drewN HB.out _)) (by omega) (n1 := ws.length + 1) rfl ?_); intro g5 c5 w5 hr5 hg5 hat5 hlt5; have H5 := Aside0.mk (seen_app (HD.out.drewN _) (Kd.R_drewN HSE3.out _) (pw_below_drewN HB.out _) hr5 hg5 hat5); clear hr5 hg5 hat5))
                    go_roundw
                    case rel => exact ⟨i + 1, vd1, by go_num, by omega, by omega, by rw [HNX.out]; exact ⟨H5.out.1⟩, by rw [HNX.out]; exact HF, by rw [HNX.out]; exact ⟨H5.out.2.1⟩, ⟨H5.out.2.2⟩⟩
                    case measure => simp [intOf]; omega
                · have b2 : decide (127 < (s0.size : Int)) = true := decide_eq_true (by omega)
                  have q1 : IntKind.i64.wrap ((s0.size : Int) + 3) = (xs.length : Int) := by rw [show (xs.length : Int) = (s0.size : Int) + 3 by have := HXL.out; omega]; exact IntWalk.i64_in _ (by omega)
                  have q2 : ((xs.length : Int) != (xs.length : Int)) = false := by simp
                  have hp0 : 0 < xs.length := by omega
                  have hp1 : (0 : Int) < (xs.length : Int) := by omega
                  have hp2 : 3 ≤ xs.length := by omega
                  have hp3 : (3 : Int) ≤ (xs.length : Int) := by omega
                  have hp4 : (3 : Int) ≤ (c1 : Int) := by omega
                  have HCV := fun (W : World) (hb : Below w_.heap.size w_ W) => Kd.C_string (P := Try.prog) (src := 22) (dst := 9) (c := c1 - 3) uB (by kernel_rfl) (by kernel_rfl) (Kd.C_below (C_from HCX.out 3 c1 hxl2 hcx) hb)
                  have HCW2 := fun n : Nat => HCV (w_.drewN n) (pw_below_drewN (Below.refl _ _) n)
                  clear HCV
                  by_cases hcm : c1 = 3
                  · subst hcm
                    simp only [HXS.out.2.2, strOf_bytesOf, if_true, ite_true, Nat.sub_self, show xs.length - 3 = 0 by omega] at HCW2
                    go_wp2
                    go_quiet (fail)
                    go_wp2_with (first | ((with_reducible refine gate_dst (N := 122) rfl ?_); at_builtin; go_must (refine R_app_str (v := .slice A4 ws.length c4) rfl rfl rfl rfl uSs iSs (Kd.R_drewN HSE3.out _) (below_size (pw_below_drewN HB.out _)) (by omega) (n1 := ws.length + 1) rfl ?_); intro g5 c5 w5 hr5 hg5 hat5 hlt5; have H5 := Aside0.mk (seen_app (HD.out.drewN _) (Kd.R_drewN HSE3.out _) (pw_below_drewN HB.out _) hr5 hg5 hat5); clear hr5 hg5 hat5))
                    go_roundw
                    case rel => exact ⟨i + 1, vd1, by go_num, by omega, by omega, by rw [HNX.out]; exact ⟨H5.out.1⟩, by rw [HNX.out]; exact HF, by rw [HNX.out]; exact ⟨H5.out.2.1⟩, ⟨H5.out.2.2⟩⟩
                    case measure => simp [intOf]; omega
                  · simp only [HXS.out.2.2, strOf_bytesOf, if_neg hcm, Option.map_some] at HCW2
                    rw [show ad1.add 3 = ⟨ad1.block, ad1.off + 3, none⟩ from rfl] at HCW2
                    go_wp2
                    go_quiet (fail)
                    go_wp2_with (first | ((with_reducible refine gate_dst (N := 122) rfl ?_); at_builtin; go_must (refine R_app_str (v := .slice A4 ws.length c4) rfl rfl rfl rfl uSs iSs (Kd.R_drewN HSE3.out _) (below_size (pw_below_drewN HB.out _)) (by omega) (n1 := ws.length + 1) rfl ?_); intro g5 c5 w5 hr5 hg5 hat5 hlt5; have H5 := Aside0.mk (seen_app (HD.out.drewN _) (Kd.R_drewN HSE3.out _) (pw_below_drewN HB.out _) hr5 hg5 hat5); clear hr5 hg5 hat5))
                    go_roundw
                    case rel => exact ⟨i + 1, vd1, by go_num, by omega, by omega, by rw [HNX.out]; exact ⟨H5.out.1⟩, by rw [HNX.out]; exact HF, by rw [HNX.out]; exact ⟨H5.out.2.1⟩, ⟨H5.out.2.2⟩⟩
                    case measure => simp [intOf]; omega
      · have hie : i.toNat = l.length := by omega
        rw [hie, List.take_length] at HWS
        clear hie
        obtain ⟨vw, hvw⟩ : ∃ vw, vw = (⟨g, gm, vd, ws⟩ : Dic) := ⟨_, rfl⟩
        go_wp2_with fail
        with_reducible refine (dicwords_calls ⟨g, gm, vd, ws⟩ _ HD.out).mono ?_
        rintro e w5 ⟨v5, rfl, hv5, hb5⟩
        obtain ⟨A5, c5, rfl, _, hC5⟩ := Kd.R_reads hv5
        have HC5 := Aside0.mk hC5
        have HC6 := Aside0.mk (Kd.C_below HC4.out hb5)
        have n0 := Aside0.mk (below_step HB.out hb5)
        clear HB hv5 hC5 hb5 HC4 hvw
        have HB := n0
        clear n0
        go_wp2_with fail
        with_reducible refine Calls.stepB (Calls.dB (words15_calls A5 _ c5 ws A4 _ c4 ws _ HC5.out HC6.out)) ⟨(by repeat (first | (with_reducible first | exact HB.out | apply below_alloc | apply pw_below_drewN | apply below_drew1) | exact HB.out))⟩ ?_
        clear HB
        intro w_ HK HB
        clear HK
        rw [decide_eq_true rfl]
        go_wp2_with fail
        with_reducible refine Calls.stepB (awake15_calls _) ⟨(by repeat (first | (with_reducible first | exact HB.out | apply below_alloc | apply pw_below_drewN | apply below_drew1) | exact HB.out))⟩ ?_
        clear HB
        intro w_ HK HB
        clear HK
        go_wp2
        go_ret
        exact ⟨rfl, (by repeat (first | (with_reducible first | exact HB.out | apply below_alloc | apply pw_below_drewN | apply below_drew1) | exact HB.out))⟩
namespace dictOnce
open Go.ChangeShapes Go.WideShapes Go.ChangeAt Go.RowKit
open Go.ChangeMaps (open_string shut_string)
theorem own : ownKnob Try.prog.godebug = none := by kernel_rfl
theorem laidOut : laidOutB Try.prog = true := by kernel_rfl
set_option maxRecDepth 100000 in
theorem lifted (os : Os) (started : os.Started) (H : Type) (enc : TypeId × Value → H) :
    ReturnsInHanded {} Try.checked os 9 .any (Rows.dictOnceSpec.pre6 enc Try.prog Try.f9 Rows.dictOnceRow.domain false) (Rows.dictOnceSpec.post enc Try.prog Try.f9 false true false false) := by
  refine returnsInHanded_of_change_sized (C := Try.checked) own started (by kernel_rfl) Try.func9
    (ChangeSpec.witness6 (enc := enc) (C := Try.checked) false ⟨#[], #[.slice none 0 0], []⟩ 8 (by kernel_rfl) (by kernel_rfl) (by kernel_rfl) (by kernel_rfl)) ?_
  intro W base args ds gs before hval0 hW hcnd hsz0 _
  have hsz : (DataW.weightsEach Try.prog (Try.f9.params.toList ++ Rows.dictOnceSpec.plain.varTypes Try.prog) (ds ++ gs)).all (· ≤ reachBytes) = true := hsz0
  have hval : ∀ (j : Nat) t v, Try.f9.params[j]? = some t → args[j]? = some v → Value.okWide Try.prog W .any base t v := hval0
  have hW' := hW
  obtain ⟨p, q, hA0, hV, rfl, hfz, hnd⟩ := hW
  have hA : DataW.TrodAll enc Try.prog W 0 (fun _ => true) true Try.f9.params.toList args.toList ds p := hA0
  rw [Try.params9] at hA hval hsz
  obtain ⟨v0, vs0, d0, ds0, p0, q0, hargs, rfl, rfl, h0, r0⟩ := trodAll_cons hA
  obtain ⟨rfl, rfl, rfl⟩ := trodAll_nil r0
  obtain rfl : args = #[v0] := by cases args; simp_all
  obtain ⟨rfl, rfl⟩ := trodVars_none hV
  obtain ⟨a0, len0, cap0, rfl⟩ := okWide_slice Try.underlying64 (hval 0 64 v0 rfl rfl)
  have k0 := h0
  have lt0 : ∀ x ∈ p0, x.block < W.heap.size := by obtain ⟨m, hm⟩ := k0; exact DataW.trod_lt m _ _ _ hm
  have y0 : len0 * 16 ≤ 140737488351232 := sized_strs hsz (j := 0) (t := 64) rfl rfl Try.underlying64 Try.underlying9 (by kernel_rfl) (by kernel_rfl) h0
  obtain ⟨l0, c0, b0, e0⟩ := open_srow Try.underlying64 Try.underlying9 (by kernel_rfl) (by omega) h0
  obtain rfl := c0.1.symm
  clear hA0 hval0 hsz0 hsz
  refine (dictOnce_walk a0 cap0 l0 W c0 b0 y0 e0).mono fun e W' ⟨he, bel⟩ => ?_
  subst he
  exact ⟨_, rfl, _, _, _, [], _, [], hW', trodAll_mk1 (shut_bool Try.underlying4 _), (trodAll_cons_mk (Below.trod laidOut (by kernel_rfl) (of_decide_eq_true (by kernel_rfl)) k0 bel lt0) trodAll_mk0), rfl, bel.frame _, fun h => by cases h⟩
theorem over : Rows.dictOnceRow.holds Try.pinned (OpenSpec.ofChange Rows.dictOnceSpec) :=
  OpenClaim.holds_of_wide 9 Try.f9 rfl rfl rfl rfl rfl rfl rfl ⟨rfl, rfl, rfl, rfl, rfl⟩ rfl rfl rfl rfl rfl (by kernel_rfl) Try.func9 (by kernel_rfl)
    (of_decide_eq_true (by kernel_rfl)) (by unfold Func.isWrapper; first | (rw [if_pos (by decide +kernel)]; kernel_rfl) | (rw [if_neg (by decide +kernel)]; exact ⟨rfl, rfl⟩))
    (fun os started H enc _ => lifted os started H enc)
theorem proved : Rows.DictOnceSaid := over
end dictOnce
/-- The row, under a short name, for the claim. -/
theorem dictOnce_holds : Rows.DictOnceSaid := dictOnce.proved
#print axioms dictOnce_holds
end Go.Proofs.Ytmbfjaogimkncaa
