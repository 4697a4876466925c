/- ChunkFeeds: which frames each chunk ends, how many bytes were asked, and what is left: its walk; no condition. -/
import Derived.Test.YtmbfjaogimkncaaFI19
import Derived.Test.YtmbfjaogimkncaaLawKit
import Derived.Test.YtmbfjaogimkncaaRows
namespace Go.Proofs.Ytmbfjaogimkncaa
open Go.RowKit Go.Proofs.YtmbfjaogimkncaaW.PrintWords Go.Proofs.YtmbfjaogimkncaaW.PrintLast Go.Proofs.YtmbfjaogimkncaaW.PrintMore
open PChunkFeeds (S40 S42 S45 k40 k42 k45 rd_T42 rd_T45)
set_option linter.unusedVariables false
set_option linter.unusedSimpArgs false
/-- The document's frames of bytes. -/
theorem refframes_calls (A : Option Addr) (n c : Nat) (l : List Int) (most : Int) (w : World) (hn : l.length = n) (hC : (Kd.int .u8).C w A n l) (hc : n ≤ c) (h0 : 0 ≤ most) (hm : most ≤ 1048576) (hx : ∀ x ∈ l, 0 ≤ x ∧ x < 256) (hl : l.length ≤ 1000000) :
    Calls Try.prog 19 #[.slice A n c, .int .i64 most] w fun e w' => ∃ A' c', e = .returned (.tuple #[.slice A' (frl most (l.length + 1) 0 l).1.length c', .int .i64 ((frl most (l.length + 1) 0 l).2.1 : Int), .bool (frl most (l.length + 1) 0 l).2.2]) ∧ k45.C w' A' (frl most (l.length + 1) 0 l).1.length ((frl most (l.length + 1) 0 l).1.map FX.r) ∧ (frl most (l.length + 1) 0 l).1.length ≤ c' ∧ Below w.heap.size w w' := by
  subst hn
  refine (PChunkFeeds.forebayref19_Frames.calls (l.length + 13) (fun k => k < w.heap.size) A c l most _ _ _ w (Kd.V_mk hc (F_low hC)) (refFrames l most h0 hm hx hl)).mono ?_
  rintro e w' ⟨v, rfl, hN, hb⟩
  obtain ⟨A', c', rfl, hl', hC'⟩ := Kd.N_reads hN
  rw [List.length_map] at hl' hC' ⊢
  exact ⟨A', c', rfl, hC', hl', hb⟩
theorem cuts_calls (A : Option Addr) (n c : Nat) (l : List Int) (A1 : Option Addr) (n1 c1 : Nat) (cuts : List Int) (w : World) (hn : l.length = n) (hn1 : cuts.length = n1) (hC : (Kd.int .u8).C w A n l) (hc : n ≤ c) (hC1 : (Kd.int .i64).C w A1 n1 cuts) (hc1 : n1 ≤ c1) (hl : l.length ≤ 1000000) (hcl : cuts.length ≤ 100) (P : Nat → Prop) (hP : Kd.F (Kd.int .u8) w P A n l) :
    Calls Try.prog 17 #[.slice A n c, .slice A1 n1 c1] w fun e w' => ∃ A' c' r, e = .returned (.slice A' r.length c') ∧ r.length ≤ c' ∧ r.flatten = l ∧ r.length ≤ 101 ∧ Kd.N (Kd.slice 5 (Kd.int .u8)) 22 w' 0 (fun k => P k ∨ w.heap.size ≤ k ∧ k < w'.heap.size) (.slice A' r.length c') r ∧ Below w.heap.size w w' := by
  subst hn hn1
  obtain ⟨r, hr, hf, hlen⟩ := cuts_flat l cuts hl hcl
  refine (PChunkFeeds.forebaylaw18_Cuts.calls (2 * cuts.length + 4) P A c l A1 c1 cuts r w (Kd.V_mk hc hP) hC1 hc1 hr).mono ?_
  rintro e w' ⟨v, rfl, hN, hb⟩
  obtain ⟨A', c', rfl, hl', hC'⟩ := Kd.N_reads hN
  refine ⟨A', c', r, rfl, hl', hf, by omega, ?_, hb⟩
  refine Kd.N_mono (Kd.N_bound (Kd.N_lower hN (Nat.zero_le _))) (fun k hk => ?_)
  rcases hk with ⟨hk | hk, h2⟩
  · exact .inl hk
  · exact .inr ⟨hk, h2⟩
/-- What the law keeps from chunk to chunk. -/
structure FeedW (w : World) (lo hi : Nat) (most : Int) (b : List Int) (r : List (List Int)) (Al : Option Addr) (cl : Nat) (i p dn : Nat) (en : Bool) (S : FS) (outs : List FX) (v : Value) (W : World) : Prop where
  fi : FI w lo hi most r Al cl S v W
  pre : (r.take i).flatten = b.take p
  pl : p ≤ b.length
  run : frun most ⟨0, [], 0, false⟩ (b.take p) = (S, outs)
  cnt : dn = outs.length
  end' : S.ended = en
theorem FeedW.next {w : World} {lo hi : Nat} {most : Int} {b : List Int} {r : List (List Int)} {Al : Option Addr} {cl i p dn : Nat} {en : Bool} {S : FS} {outs : List FX} {v : Value} {W : World} (h : FeedW w lo hi most b r Al cl i p dn en S outs v W) (hf : r.flatten = b) {x : List Int} (hx : r[i]? = some x) :
    (r.take (i + 1)).flatten = b.take (p + x.length) ∧ p + x.length ≤ b.length ∧ b.take (p + x.length) = b.take p ++ x ∧ ∃ T, b = b.take p ++ x ++ T := by
  obtain ⟨hi', hxx⟩ := List.getElem?_eq_some_iff.1 hx
  have e1 : r.take (i + 1) = r.take i ++ [x] := by rw [List.take_add_one, hx]; rfl
  have e2 : (r.take (i + 1)).flatten = b.take p ++ x := by rw [e1, List.flatten_append, h.pre]; simp
  have e3 : b = (r.take (i + 1)).flatten ++ (r.drop (i + 1)).flatten := by rw [← List.flatten_append, List.take_append_drop, hf]
  rw [e2] at e3
  have e4 : (b.take p ++ x).length = p + x.length := by rw [List.length_append, List.length_take, Nat.min_eq_left h.pl]
  have e5 : b.take (p + x.length) = b.take p ++ x := by
    conv => lhs; rw [e3]
    rw [← e4, List.take_left]
  have e6 : p + x.length ≤ b.length := by
    have := congrArg List.length e3
    rw [List.length_append, e4] at this
    omega
  exact ⟨by rw [e2, e5], e6, e5, _, e3⟩
theorem frun_by (most : Int) : ∀ (xs : List Int) (s : FS) (N : Nat), s.op.length + xs.length ≤ N → ∀ y ∈ (frun most s xs).2, y.by'.length ≤ N
  | [], s, N, h, y, hy => by cases hy
  | x :: xs, s, N, h, y, hy => by
    rw [List.length_cons] at h
    simp only [frun, List.mem_append] at hy
    have h2 : (fstep most s x).1.op.length ≤ s.op.length + 1 ∧ ∀ z ∈ (fstep most s x).2, z.by'.length ≤ s.op.length + 1 := by
      unfold fstep
      split
      · exact ⟨Nat.le_succ _, fun z hz => by cases hz⟩
      · split
        · split
          · exact ⟨by simp, fun z hz => by cases hz⟩
          · refine ⟨Nat.zero_le _, fun z hz => ?_⟩
            rw [List.mem_singleton.1 hz]
            exact Nat.zero_le _
        · split
          · exact ⟨by simp, fun z hz => by cases hz⟩
          · refine ⟨Nat.zero_le _, fun z hz => ?_⟩
            rw [List.mem_singleton.1 hz]
            simp
    rcases hy with hy | hy
    · have := h2.2 y hy
      omega
    · exact frun_by most xs _ N (by have := h2.1; omega) y hy
theorem alike2 (A0 : Option Addr) (n c0 : Nat) (A1 : Option Addr) (m c1 : Nat) (xs : List FX) (hn : xs.length = n) (hm : xs.length = m) (w : World) (h0 : k42.C w A0 n (xs.map FX.s)) (h1 : k45.C w A1 m (xs.map FX.r)) (hs : n ≤ 1000000000000) (hb : ∀ x ∈ xs, x.by'.length ≤ 1000000000000) :
    Calls Try.prog 20 #[.slice A0 n c0, .slice A1 m c1] w fun e w' => e = .returned (.bool true) ∧ Drawn0 w w' := by
  subst hn hm
  exact alike_calls A0 _ c0 A1 c1 xs rfl w h0 h1 hs hb
theorem drop45 {w : World} {A : Option Addr} {FO c dn M : Nat} {fo o1 o2 : List FX} (h : k45.C w A FO (fo.map FX.r)) (hc : FO ≤ c) (hl : fo.length = FO) (hf : fo = o1 ++ o2) (hd : dn = o1.length) (hM : o2.length = M) :
    k45.C w (if c = dn then A else Option.map (fun x => x.add (dn * 5)) A) (FO - dn) (o2.map FX.r) := by
  subst hl
  have h2 := Kd.C_drop (k := k45) (m := dn) (c := c) (xs := fo.map FX.r) (by rw [List.length_map]; exact h) (by rw [List.length_map, hf, List.length_append]; omega) (by rw [List.length_map]; exact hc)
  have e1 : (fo.map FX.r).drop dn = o2.map FX.r := by rw [hf, List.map_append, hd, ← List.length_map (f := FX.r), List.drop_left]
  rw [e1, List.length_map] at h2
  have e2 : o2.length = fo.length - dn := by rw [hf, List.length_append]; omega
  rw [e2] at h2
  exact h2
theorem frl_hi (most : Int) : ∀ (k pos : Nat) (l : List Int), (frl most k pos l).2.2 = false → (frl most k pos l).2.1 ≤ pos + l.length
  | 0, pos, l, h => Nat.le_add_right _ _
  | k + 1, pos, l, h => by
    unfold frl at h ⊢
    split
    · exact Nat.le_add_right _ _
    · rename_i h1
      rw [if_neg h1] at h
      split
      · rename_i h2
        rw [if_pos h2] at h
        cases h
      · rename_i h2
        rw [if_neg h2] at h
        split
        · exact Nat.le_add_right _ _
        · rename_i h3
          rw [if_neg h3] at h
          have h4 := frl_hi most k _ _ h
          rw [List.length_drop] at h4
          have h5 : ¬ (l.length : Int) < (hd l most).1 + (hd l most).2.1 + 4 := fun h6 => h3 (.inr h6)
          refine Nat.le_trans h4 ?_
          omega
theorem frun_pos (most : Int) : ∀ (xs : List Int) (s : FS), (frun most s xs).1.pos ≤ s.pos + xs.length
  | [], s => Nat.le_refl _
  | x :: xs, s => by
    simp only [frun, List.length_cons]
    have h1 := frun_pos most xs (fstep most s x).1
    have h2 : (fstep most s x).1.pos ≤ s.pos + 1 := by
      unfold fstep
      split
      · exact Nat.le_succ _
      · split
        · split
          · exact Nat.le_refl _
          · exact Nat.le_refl _
        · split
          · exact Nat.le_refl _
          · exact Nat.le_refl _
    omega
attribute [local go_sem high] eq19
set_option maxHeartbeats 2000000 in
set_option maxRecDepth 100000 in
theorem chunkFeeds_walk (A0 : Option Addr) (c0 : Nat) (b : List Int) (A1 : Option Addr) (c1 : Nat) (cuts : List Int) (most : Int) (w : World)
    (hC0 : (Kd.int .u8).C w A0 b.length b) (hwf0 : ∀ x ∈ b, (Lit.int .u8 x).wf = true) (hsz0 : b.length * 1 ≤ 140737488351232) (hcap0 : b.length ≤ c0)
    (hC1 : (Kd.int .i64).C w A1 cuts.length cuts) (hwf1 : ∀ x ∈ cuts, (Lit.int .i64 x).wf = true) (hsz1 : cuts.length * 8 ≤ 140737488351232) (hcap1 : cuts.length ≤ c1)
    (hmb : -9223372036854775808 ≤ most ∧ most ≤ 9223372036854775807) :
    Calls Try.prog 3 #[.slice A0 b.length c0, .slice A1 cuts.length c1, .int .i64 most] w fun e w' => e = .returned (.bool true) ∧ Below w.heap.size w w' := by
  have hby := bytes_of_wf hwf0
  have HBY := Aside0.mk hby
  obtain ⟨n, hn⟩ : ∃ n, b.length = n := ⟨_, rfl⟩
  obtain ⟨m, hm⟩ : ∃ m, cuts.length = m := ⟨_, rfl⟩
  have HC0 := Aside0.mk hC0
  have HC1 := Aside0.mk hC1
  rw [hn] at HC0 hcap0
  rw [hm] at HC1 hcap1
  rw [hn, hm]
  have HN := Aside0.mk hn
  have HM := Aside0.mk hm
  clear hwf0 hwf1 hsz0 hsz1 hC0 hC1 hby hn hm
  by_cases h8 : 800 < n
  · go_enter Try.func3, Try.ntmps3
    go_wp2_with fail
    with_reducible refine (awake19_calls _).mono ?_
    rintro e w1 ⟨rfl, hb⟩
    go_wp2
    go_ret
    exact ⟨rfl, hb⟩
  · by_cases h1 : 100 < m
    · go_enter Try.func3, Try.ntmps3
      go_wp2_with fail
      with_reducible refine (awake19_calls _).mono ?_
      rintro e w1 ⟨rfl, hb⟩
      go_wp2
      go_ret
      exact ⟨rfl, hb⟩
    · by_cases hq1 : most < 1
      · have HNW := Aside0.mk (frnew_bad most w (.inl hq1))
        go_enter Try.func3, Try.ntmps3
        go_wp2_with fail
        with_reducible refine HNW.out.mono ?_
        rintro e w1 ⟨rfl, rfl⟩
        go_wp2_with fail
        with_reducible refine (awake19_calls _).mono ?_
        rintro e w1 ⟨rfl, hb⟩
        go_wp2
        go_ret
        exact ⟨rfl, hb⟩
      · by_cases hq2 : 1048576 < most
        · have HNW := Aside0.mk (frnew_bad most w (.inr hq2))
          go_enter Try.func3, Try.ntmps3
          go_wp2_with fail
          with_reducible refine HNW.out.mono ?_
          rintro e w1 ⟨rfl, rfl⟩
          go_wp2_with fail
          with_reducible refine (awake19_calls _).mono ?_
          rintro e w1 ⟨rfl, hb⟩
          go_wp2
          go_ret
          exact ⟨rfl, hb⟩
        · have HNW := Aside0.mk (frnew_calls most w (by omega) (by omega))
          go_enter Try.func3, Try.ntmps3
          go_wp2_with fail
          with_reducible refine HNW.out.mono ?_
          clear HNW
          rintro e w1 ⟨rfl, hf1, hb1⟩
          have hlt1 := blk_lt hf1.blk
          have HCC := Aside0.mk (cuts_calls A0 n c0 b A1 m c1 cuts w1 HN.out HM.out (Kd.C_below HC0.out hb1) hcap0 (Kd.C_below HC1.out hb1) hcap1 (by have := HN.out; omega) (by have := HM.out; omega) (fun k => k < w.heap.size) (Kd.F_below (F_low HC0.out) hb1))
          have HF1 := Aside0.mk hf1
          have HB1 := Aside0.mk hb1
          have HL1 := Aside0.mk hlt1
          clear hf1 hb1 hlt1
          go_wp2_with fail
          with_reducible refine HCC.out.mono ?_
          clear HCC
          rintro e w2 ⟨Al, cl, r, rfl, hcl, hfl, hr101, hrows, hb2⟩
          have hown0 : ∀ k, (ofS w.heap.size most (.slice none 0 0) ⟨0, [], 0, false⟩).F k → k = w.heap.size ∨ w2.heap.size ≤ k := by
            rintro k (hk | hk)
            · exact .inl hk
            · cases hk
          have HFW : Aside0 (FeedW w w1.heap.size w2.heap.size most b r Al cl 0 0 0 false ⟨0, [], 0, false⟩ [] (.slice none 0 0) w2) := ⟨⟨⟨below_step HB1.out hb2, HF1.out.below hb2, hown0, hrows, HL1.out, Nat.le_refl _, Nat.le_trans HB1.out.size hb2.size⟩, rfl, Nat.zero_le _, rfl, rfl, rfl⟩⟩
          clear hown0
          have HFL := Aside0.mk hfl
          obtain ⟨R, hR⟩ : ∃ R, r.length = R := ⟨_, rfl⟩
          rw [hR] at hcl hr101 ⊢
          have HR := Aside0.mk hR
          clear hrows hb2 hfl hR HF1 HB1 HL1
          go_wp2
          go_loopw [10, 11, 12, 13] (fun v10 v11 v12 v13 w' => ∃ (i p dn : Nat) (en : Bool), v10 = .int .i64 (p : Int) ∧ v11 = .int .i64 (dn : Int) ∧ v12 = .bool en ∧ v13 = .int .i64 (i : Int) ∧ i ≤ R ∧ ∃ S outs v, Aside0 (FeedW w w1.heap.size w2.heap.size most b r Al cl i p dn en S outs v w')) (fun v10 v11 v12 v13 _ => R - (intOf v13).toNat)
          case atStart => exact ⟨0, 0, 0, false, rfl, rfl, rfl, rfl, Nat.zero_le _, _, _, _, HFW⟩
          case round =>
            obtain ⟨i, p, dn, en, rfl, rfl, rfl, rfl, hi, S, outs, v, HF⟩ := hrel
            by_cases hin : i < R
            · have hir : i < r.length := by rw [HR.out]; exact hin
              obtain ⟨x, hx⟩ : ∃ x, r[i]? = some x := ⟨_, List.getElem?_eq_getElem hir⟩
              obtain ⟨hp1, hp2, hp3, T, hT⟩ := HF.out.next HFL.out hx
              obtain ⟨ad, A, c, e0, hcell, hxc, hxC⟩ := HF.out.fi.chunk i x hx
              obtain ⟨L, hL⟩ : ∃ L, x.length = L := ⟨_, rfl⟩
              rw [hL] at hcell hxc hxC hp1 hp2 hp3
              obtain ⟨p2, hpp⟩ : ∃ p2, p + L = p2 := ⟨_, rfl⟩
              rw [hpp] at hp1 hp2 hp3
              have hp2n : p2 ≤ n := by rw [← HN.out]; exact hp2
              have hxb : ∀ y ∈ x, 0 ≤ y ∧ y < 256 := fun y hy => HBY.out y (by rw [hT]; simp [hy])
              have hin1 : (i : Int) < (R : Int) := by omega
              have hwb : -1000000000000000 ≤ (p : Int) + (L : Int) ∧ (p : Int) + (L : Int) ≤ 1000000000000000 := by omega
              have hwc : (p : Int) + (L : Int) = (p2 : Int) := by omega
              have HPA := Aside0.mk hp1
              have HPB := Aside0.mk hp2
              have HPC := Aside0.mk hp3
              have HLL := Aside0.mk hL
              have HXC := Aside0.mk hxC
              have HXB := Aside0.mk hxb
              have HPP := Aside0.mk hpp
              have hrun2 : frun most ⟨0, [], 0, false⟩ (b.take p2) = ((frun most S x).1, outs ++ (frun most S x).2) := by rw [hp3, frun_append, HF.out.run]
              have HRUN := Aside0.mk hrun2
              have HEN := Aside0.mk HF.out.end'
              have HDN := Aside0.mk HF.out.cnt
              subst e0
              have hwp : wrap64 ((p : Int) + (L : Int)) = (p2 : Int) := (w64 _ hwb).trans hwc
              have hwp2 : IntKind.i64.wrap ((p : Int) + (L : Int)) = (p2 : Int) := (i64_w _).trans hwp
              have HWP := Aside0.mk hwp
              clear hp1 hp2 hp3 hT hx hir hL hxC hxb hpp hrun2 hwb hwc
              cases en with
              | true =>
                have HFE : Aside0 (Calls Try.prog 18 #[.pointer (some ⟨w.heap.size, 0, none⟩), .slice A L c] wr fun e w' => e = .returned (.tuple #[.slice none 0 0, .int .i64 28]) ∧ wr = w') := ⟨frfeed_ended (ofS w.heap.size most v S) A L c wr HF.out.fi.fr HEN.out⟩
                go_wp2_with fail
                with_reducible refine HFE.out.mono ?_
                clear HFE
                rintro e w3 ⟨rfl, rfl⟩
                go_wp2
                go_roundw
                clear hwp hwp2
                have hS2 : frun most S x = (S, []) := frun_ended most x S HEN.out
                case rel =>
                  refine ⟨i + 1, p2, dn, true, by first | rfl | rw [HWP.out], rfl, rfl, by go_num, by omega, S, outs, v, ⟨HF.out.fi, HPA.out, HPB.out, ?_, HF.out.cnt, HEN.out⟩⟩
                  rw [HRUN.out, hS2, List.append_nil]
                case measure => simp [intOf]; omega
              | false =>
                clear hwp hwp2
                have hok : FSok most S := by
                  have h1 := frun_ok (by omega) hq2 (b.take p) ⟨0, [], 0, false⟩ (fun y hy => (HBY.out y (List.mem_of_mem_take hy)).1) (FSok.new most (by omega) 0)
                  rw [HF.out.run] at h1
                  exact h1
                obtain ⟨S', hS'⟩ : ∃ S', (frun most S x).1 = S' := ⟨_, rfl⟩
                obtain ⟨o2, ho2⟩ : ∃ o2, (frun most S x).2 = o2 := ⟨_, rfl⟩
                have hSp : frun most S x = (S', o2) := by rw [← hS', ← ho2]
                have hrun3 := HRUN.out
                rw [hS', ho2] at hrun3
                have HRUN3 := Aside0.mk hrun3
                have hfr : S.pos + x.length ≤ 1000000000000 := by
                  have h1 := frun_pos most (b.take p) ⟨0, [], 0, false⟩
                  rw [HF.out.run, List.length_take] at h1
                  have h2 : S.pos ≤ 0 + min p b.length := h1
                  have h3 := HN.out
                  have h4 := HLL.out
                  have h5 := HPP.out
                  omega
                have HFE := Aside0.mk (HF.out.fi.feed (n := L) (c := c) hSp HEN.out hok (by omega) hq2 HXC.out HXB.out hfr)
                have HBY2 : Aside0 (∀ y ∈ o2, y.by'.length ≤ 1000000000000) := ⟨by
                  have h1 := frun_by most x S 1000000000000 (by have h2 := HF.out.fi.fr.le; have h3 : S.op.length ≤ S.pos := h2; omega)
                  rw [ho2] at h1
                  exact h1⟩
                clear hok hS' ho2 hSp hrun3 hfr
                have hwp := HWP.out
                have hwp2 : IntKind.i64.wrap ((p : Int) + (L : Int)) = (p2 : Int) := (i64_w _).trans hwp
                go_wp2_with fail
                with_reducible refine HFE.out.mono ?_
                clear HFE
                rintro e w3 ⟨A3, c3, v3, F3, rfl, hc3, hfi3, hrow3, hoff3, hch3⟩
                clear hwp hwp2
                have htl : (b.take p2).length = p2 := by rw [List.length_take]; have := HPB.out; omega
                have hbt : ∀ y ∈ b.take p2, 0 ≤ y ∧ y < 256 := fun y hy => HBY.out y (List.mem_of_mem_take hy)
                have hRF := refframes_calls A0 p2 c0 (b.take p2) most w3 htl (C_take (Kd.C_below HC0.out hfi3.bel) p2 hp2n) (by omega) (by omega) hq2 hbt (by omega)
                have hfl := frun_frl most (by omega) hq2 ((b.take p2).length + 1) 0 (b.take p2) (by omega) (fun y hy => (hbt y hy).1)
                rw [HRUN3.out, htl] at hfl
                rw [htl] at hRF
                obtain ⟨q, hq⟩ : ∃ q, frl most (p2 + 1) 0 (b.take p2) = q := ⟨_, rfl⟩
                rw [hq] at hfl hRF
                have hfp : q.2.2 = false → q.2.1 ≤ p2 := by
                  rw [← hq]
                  intro h1
                  have h2 := frl_hi most (p2 + 1) 0 (b.take p2) h1
                  rw [htl] at h2
                  omega
                obtain ⟨fo, ff, fe⟩ := q
                have hfp : fe = false → ff ≤ p2 := hfp
                have hS1 : S' = (if fe = true then ⟨ff, [], 0, true⟩ else ⟨0 + p2, (b.take p2).drop (ff - 0), needOf most ((b.take p2).drop (ff - 0)), false⟩) := congrArg Prod.fst hfl
                have hfo : fo = outs ++ o2 := (congrArg Prod.snd hfl).symm
                have hRF2 : Calls Try.prog 19 #[.slice A0 p2 c0, .int .i64 most] w3 fun e w' => ∃ A' c', e = .returned (.tuple #[.slice A' fo.length c', .int .i64 (ff : Int), .bool fe]) ∧ k45.C w' A' fo.length (fo.map FX.r) ∧ fo.length ≤ c' ∧ Below w3.heap.size w3 w' := hRF
                obtain ⟨FO, hFO⟩ : ∃ k, fo.length = k := ⟨_, rfl⟩
                obtain ⟨M, hM⟩ : ∃ k, o2.length = k := ⟨_, rfl⟩
                rw [hFO] at hRF2
                rw [hM] at hc3 hrow3 ⊢
                have hFM : dn + M = FO := by rw [← hFO, hfo, List.length_append, hM, HDN.out]
                have hMl : M ≤ 1000000 := by
                  have h1 := frun_few most (b.take p2) ⟨0, [], 0, false⟩
                  rw [HRUN3.out, htl] at h1
                  have h2 : (outs ++ o2).length ≤ p2 := h1
                  rw [List.length_append, hM] at h2
                  have := HN.out
                  omega
                have hbyl := HBY2.out
                have HFP := Aside0.mk hfp
                have HRF := Aside0.mk hRF2
                have HS1 := Aside0.mk hS1
                have HFO := Aside0.mk hfo
                have HFI3 := Aside0.mk hfi3
                have HROW3 := Aside0.mk hrow3
                have HMM := Aside0.mk hM
                have HFOL := Aside0.mk hFO
                have HFM := Aside0.mk hFM
                have HBYL := Aside0.mk hbyl
                have HOFF := Aside0.mk hoff3
                have hp2c : (p2 : Int) ≤ (c0 : Int) := by omega
                have hdf : (dn : Int) ≤ (FO : Int) := by omega
                clear htl hbt hRF hfl hq hfp hS1 hfo hRF2 hFO hM hfi3 hrow3 hoff3 hch3 hbyl
                have hwp := HWP.out
                have hwp2 : IntKind.i64.wrap ((p : Int) + (L : Int)) = (p2 : Int) := (i64_w _).trans hwp
                go_wp2_with fail
                with_reducible refine HRF.out.mono ?_
                clear HRF
                rintro e w4 ⟨A5, c5, rfl, hC5, hc5, hb4⟩
                have hC42 := (R_reads19 (Kd.R_below HROW3.out hb4)).2.2
                have hC45 := drop45 (M := M) hC5 hc5 HFOL.out HFO.out HDN.out HMM.out
                have hFM2 : o2.length = FO - dn := by have h1 := HFM.out; have h2 := HMM.out; clear hwp hwp2; omega
                have HAL := Aside0.mk (alike2 A3 M c3 (if c5 = dn then A5 else Option.map (fun x => x.add (dn * 5)) A5) (FO - dn) (c5 - dn) o2 HMM.out hFM2 w4 hC42 hC45 (by clear hwp hwp2; omega) HBYL.out)
                have HFI4 := Aside0.mk (HFI3.out.step hb4)
                have hdc : (dn : Int) ≤ (c5 : Int) := by clear hwp hwp2; omega
                clear hC42 hC45 hFM2 hC5 hb4 HFI3 HROW3
                by_cases hcd : c5 = dn
                · rw [if_pos hcd] at HAL
                  subst hcd
                  rw [Nat.sub_self, Nat.sub_eq_zero_of_le hc5] at HAL
                  go_wp2_with fail
                  with_reducible refine HAL.out.mono ?_
                  clear HAL
                  rintro e w5 ⟨rfl, ⟨nd, rfl⟩⟩
                  have HFI5 := Aside0.mk (HFI4.out.step (pw_below_drewN (Below.refl _ _) nd))
                  clear HFI4
                  cases fe with
                  | true =>
                    have hS2 : S' = ⟨ff, [], 0, true⟩ := HS1.out
                    subst hS2
                    have HAT : Aside0 (Calls Try.prog 21 #[.pointer (some ⟨w.heap.size, 0, none⟩)] (w4.drewN nd) fun e w' => e = .returned (.int .i64 (ff : Int)) ∧ w4.drewN nd = w') := ⟨frat_calls _ _ HFI5.out.fr⟩
                    have HHE : Aside0 (Calls Try.prog 22 #[.pointer (some ⟨w.heap.size, 0, none⟩)] (w4.drewN nd) fun e w' => e = .returned (.int .i64 0) ∧ w4.drewN nd = w') := ⟨frheld_calls _ _ HFI5.out.fr⟩
                    go_wp2_with fail
                    with_reducible refine HAT.out.mono ?_
                    clear HAT
                    rintro e w6 ⟨rfl, rfl⟩
                    go_wp2_with fail
                    with_reducible refine HHE.out.mono ?_
                    clear HHE
                    rintro e w6 ⟨rfl, rfl⟩
                    go_wp2
                    go_roundw
                    clear hwp hwp2
                    case rel =>
                      refine ⟨i + 1, p2, FO, true, rfl, rfl, rfl, by go_num, by omega, _, outs ++ o2, v3, ⟨HFI5.out, HPA.out, HPB.out, HRUN3.out, ?_, rfl⟩⟩
                      rw [← HFOL.out, HFO.out]
                    case measure => simp [intOf]; omega
                  | false =>
                    have hS2 : S' = ⟨0 + p2, (b.take p2).drop (ff - 0), needOf most ((b.take p2).drop (ff - 0)), false⟩ := HS1.out
                    subst hS2
                    obtain ⟨hl, hhl⟩ : ∃ k, ((b.take p2).drop (ff - 0)).length = k := ⟨_, rfl⟩
                    have hl2 : hl = p2 - ff := by
                      rw [← hhl, List.length_drop, List.length_take]
                      have := HPB.out
                      clear hwp hwp2
                      omega
                    have hffp : ff ≤ p2 := HFP.out rfl
                    have hsb : wrap64 ((p2 : Int) - (ff : Int)) = (hl : Int) := (w64 _ (by clear hwp hwp2; omega)).trans (by clear hwp hwp2; omega)
                    have HAT : Aside0 (Calls Try.prog 21 #[.pointer (some ⟨w.heap.size, 0, none⟩)] (w4.drewN nd) fun e w' => e = .returned (.int .i64 (p2 : Int)) ∧ w4.drewN nd = w') := ⟨by
                      have h1 := frat_calls _ _ HFI5.out.fr
                      have e1 : ((0 + p2 : Nat) : Int) = (p2 : Int) := by rw [Nat.zero_add]
                      rw [← e1]
                      exact h1⟩
                    have HHE : Aside0 (Calls Try.prog 22 #[.pointer (some ⟨w.heap.size, 0, none⟩)] (w4.drewN nd) fun e w' => e = .returned (.int .i64 (hl : Int)) ∧ w4.drewN nd = w') := ⟨by
                      rw [← hhl]
                      exact frheld_calls _ _ HFI5.out.fr⟩
                    clear hhl hl2 hffp
                    go_wp2_with fail
                    with_reducible refine HAT.out.mono ?_
                    clear HAT
                    rintro e w6 ⟨rfl, rfl⟩
                    go_wp2_with fail
                    with_reducible refine HHE.out.mono ?_
                    clear HHE
                    rintro e w6 ⟨rfl, rfl⟩
                    go_wp2
                    go_roundw
                    clear hwp hwp2 hsb
                    case rel =>
                      refine ⟨i + 1, p2, FO, false, rfl, rfl, rfl, by go_num, by omega, _, outs ++ o2, v3, ⟨HFI5.out, HPA.out, HPB.out, HRUN3.out, ?_, rfl⟩⟩
                      rw [← HFOL.out, HFO.out]
                    case measure => simp [intOf]; omega
                · rw [if_neg hcd] at HAL
                  go_wp2_with fail
                  with_reducible refine HAL.out.mono ?_
                  clear HAL
                  rintro e w5 ⟨rfl, ⟨nd, rfl⟩⟩
                  have HFI5 := Aside0.mk (HFI4.out.step (pw_below_drewN (Below.refl _ _) nd))
                  clear HFI4
                  cases fe with
                  | true =>
                    have hS2 : S' = ⟨ff, [], 0, true⟩ := HS1.out
                    subst hS2
                    have HAT : Aside0 (Calls Try.prog 21 #[.pointer (some ⟨w.heap.size, 0, none⟩)] (w4.drewN nd) fun e w' => e = .returned (.int .i64 (ff : Int)) ∧ w4.drewN nd = w') := ⟨frat_calls _ _ HFI5.out.fr⟩
                    have HHE : Aside0 (Calls Try.prog 22 #[.pointer (some ⟨w.heap.size, 0, none⟩)] (w4.drewN nd) fun e w' => e = .returned (.int .i64 0) ∧ w4.drewN nd = w') := ⟨frheld_calls _ _ HFI5.out.fr⟩
                    go_wp2_with fail
                    with_reducible refine HAT.out.mono ?_
                    clear HAT
                    rintro e w6 ⟨rfl, rfl⟩
                    go_wp2_with fail
                    with_reducible refine HHE.out.mono ?_
                    clear HHE
                    rintro e w6 ⟨rfl, rfl⟩
                    go_wp2
                    go_roundw
                    clear hwp hwp2
                    case rel =>
                      refine ⟨i + 1, p2, FO, true, rfl, rfl, rfl, by go_num, by omega, _, outs ++ o2, v3, ⟨HFI5.out, HPA.out, HPB.out, HRUN3.out, ?_, rfl⟩⟩
                      rw [← HFOL.out, HFO.out]
                    case measure => simp [intOf]; omega
                  | false =>
                    have hS2 : S' = ⟨0 + p2, (b.take p2).drop (ff - 0), needOf most ((b.take p2).drop (ff - 0)), false⟩ := HS1.out
                    subst hS2
                    obtain ⟨hl, hhl⟩ : ∃ k, ((b.take p2).drop (ff - 0)).length = k := ⟨_, rfl⟩
                    have hl2 : hl = p2 - ff := by
                      rw [← hhl, List.length_drop, List.length_take]
                      have := HPB.out
                      clear hwp hwp2
                      omega
                    have hffp : ff ≤ p2 := HFP.out rfl
                    have hsb : wrap64 ((p2 : Int) - (ff : Int)) = (hl : Int) := (w64 _ (by clear hwp hwp2; omega)).trans (by clear hwp hwp2; omega)
                    have HAT : Aside0 (Calls Try.prog 21 #[.pointer (some ⟨w.heap.size, 0, none⟩)] (w4.drewN nd) fun e w' => e = .returned (.int .i64 (p2 : Int)) ∧ w4.drewN nd = w') := ⟨by
                      have h1 := frat_calls _ _ HFI5.out.fr
                      have e1 : ((0 + p2 : Nat) : Int) = (p2 : Int) := by rw [Nat.zero_add]
                      rw [← e1]
                      exact h1⟩
                    have HHE : Aside0 (Calls Try.prog 22 #[.pointer (some ⟨w.heap.size, 0, none⟩)] (w4.drewN nd) fun e w' => e = .returned (.int .i64 (hl : Int)) ∧ w4.drewN nd = w') := ⟨by
                      rw [← hhl]
                      exact frheld_calls _ _ HFI5.out.fr⟩
                    clear hhl hl2 hffp
                    go_wp2_with fail
                    with_reducible refine HAT.out.mono ?_
                    clear HAT
                    rintro e w6 ⟨rfl, rfl⟩
                    go_wp2_with fail
                    with_reducible refine HHE.out.mono ?_
                    clear HHE
                    rintro e w6 ⟨rfl, rfl⟩
                    go_wp2
                    go_roundw
                    clear hwp hwp2 hsb
                    case rel =>
                      refine ⟨i + 1, p2, FO, false, rfl, rfl, rfl, by go_num, by omega, _, outs ++ o2, v3, ⟨HFI5.out, HPA.out, HPB.out, HRUN3.out, ?_, rfl⟩⟩
                      rw [← HFOL.out, HFO.out]
                    case measure => simp [intOf]; omega
            · obtain rfl : i = R := by omega
              have hpn : p = n := by
                have h1 := HF.out.pre
                rw [List.take_of_length_le (by rw [HR.out]; exact Nat.le_refl _), HFL.out] at h1
                have h2 := congrArg List.length h1
                rw [List.length_take, HN.out] at h2
                have h3 := HF.out.pl
                rw [HN.out] at h3
                omega
              subst hpn
              have hbb : b.take p = b := List.take_of_length_le (by rw [HN.out]; exact Nat.le_refl _)
              have hbr := HF.out.run
              rw [hbb] at hbr
              have HBR := Aside0.mk hbr
              have HEN := Aside0.mk HF.out.end'
              clear hin hbb hbr
              cases en with
              | true =>
                have HCL : Aside0 (Calls Try.prog 23 #[.pointer (some ⟨w.heap.size, 0, none⟩)] wr fun e w' => e = .returned (.tuple #[.agg #[.int .i64 0, .int .i64 0, .slice none 0 0, .int .i64 0, .int .i64 0], .bool false, .int .i64 28]) ∧ Below wr.heap.size wr w') := ⟨frclose_ended (ofS w.heap.size most v S) wr HF.out.fi.fr HEN.out⟩
                go_wp2_with fail
                with_reducible refine HCL.out.mono ?_
                clear HCL
                rintro e w3 ⟨rfl, hb3⟩
                have HB3 := Aside0.mk (below_step HF.out.fi.bel hb3)
                have HX := Aside0.mk (blk_new w3 (.cells #[.int .i64 0, .int .i64 0, .slice none 0 0, .int .i64 0, .int .i64 0] 42))
                have x1 := (blk_cell HX.out 1).trans rfl
                have x2 := (blk_cell HX.out 2).trans rfl
                clear hb3
                go_wp2_with fail
                with_reducible refine (awake19_calls _).mono ?_
                rintro e w4 ⟨rfl, hb4⟩
                go_wp2
                go_ret
                exact ⟨rfl, below_step (below_alloc HB3.out _) hb4⟩
              | false =>
                have hRF := refframes_calls A0 p c0 b most
                have hfl := frun_frl most (by omega) hq2 (b.length + 1) 0 b (by omega) (fun y hy => (HBY.out y hy).1)
                rw [HBR.out, HN.out] at hfl
                obtain ⟨q, hq⟩ : ∃ q, frl most (p + 1) 0 b = q := ⟨_, rfl⟩
                have hfp : q.2.2 = false → q.2.1 ≤ p := by
                  rw [← hq]
                  intro h1
                  have h2 := frl_hi most (p + 1) 0 b h1
                  rw [HN.out] at h2
                  omega
                have HRF : Aside0 (∀ W, Below w.heap.size w W → Calls Try.prog 19 #[.slice A0 p c0, .int .i64 most] W fun e w' => ∃ A' c', e = .returned (.tuple #[.slice A' q.1.length c', .int .i64 (q.2.1 : Int), .bool q.2.2]) ∧ k45.C w' A' q.1.length (q.1.map FX.r) ∧ q.1.length ≤ c' ∧ Below W.heap.size W w') := ⟨fun W hW => by
                  have h1 := hRF W HN.out (Kd.C_below HC0.out hW) hcap0 (by omega) hq2 HBY.out (by have := HN.out; omega)
                  rw [HN.out, hq] at h1
                  exact h1⟩
                rw [hq] at hfl
                obtain ⟨fo, ff, fe⟩ := q
                have hS1 : S = (if fe = true then ⟨ff, [], 0, true⟩ else ⟨0 + p, b.drop (ff - 0), needOf most (b.drop (ff - 0)), false⟩) := congrArg Prod.fst hfl
                have hfe : fe = false := by
                  cases fe with
                  | false => rfl
                  | true =>
                    have h1 := HEN.out
                    rw [hS1] at h1
                    cases h1
                subst hfe
                have hS2 : S = ⟨0 + p, b.drop (ff - 0), needOf most (b.drop (ff - 0)), false⟩ := hS1
                have hffp : ff ≤ p := hfp rfl
                have hSl : S.op.length = p - ff := by rw [hS2]; show (b.drop (ff - 0)).length = _; rw [List.length_drop, HN.out]; omega
                have hSp : S.pos = p := by rw [hS2]; exact Nat.zero_add _
                have HSL := Aside0.mk hSl
                have HSP := Aside0.mk hSp
                obtain ⟨FO, hFO⟩ : ∃ k, fo.length = k := ⟨_, rfl⟩
                have HRF2 : Aside0 (∀ W, Below w.heap.size w W → Calls Try.prog 19 #[.slice A0 p c0, .int .i64 most] W fun e w' => ∃ A' c', e = .returned (.tuple #[.slice A' FO c', .int .i64 (ff : Int), .bool false]) ∧ Below W.heap.size W w') := ⟨fun W hW => (HRF.out W hW).mono (fun e w' ⟨A', c', h1, _, _, h2⟩ => ⟨A', c', by rw [← hFO]; exact h1, h2⟩)⟩
                clear hRF hfl hq hfp hS1 hS2 hSl hSp HRF hFO
                by_cases hop : S.op = []
                · have hff : ff = p := by have h1 := HSL.out; rw [hop, List.length_nil] at h1; omega
                  have HCL : Aside0 (Calls Try.prog 23 #[.pointer (some ⟨w.heap.size, 0, none⟩)] wr fun e w' => e = .returned (.tuple #[.agg #[.int .i64 0, .int .i64 0, .slice none 0 0, .int .i64 0, .int .i64 0], .bool false, .int .i64 0]) ∧ FrAt { ofS w.heap.size most v S with ended := true } w' ∧ Chg (fun k => k = w.heap.size) wr w') := ⟨frclose_empty (ofS w.heap.size most v S) wr HF.out.fi.fr HEN.out hop⟩
                  subst hff
                  have HHL : Aside0 (∀ W, FrAt { ofS w.heap.size most v S with ended := true } W → Calls Try.prog 22 #[.pointer (some ⟨w.heap.size, 0, none⟩)] W fun e w' => e = .returned (.int .i64 0) ∧ W = w') := ⟨fun W h => by
                    have h1 := frheld_calls _ W h
                    have h2 : (((ofS w.heap.size most v S).op.length : Nat) : Int) = 0 := by show ((S.op.length : Nat) : Int) = 0; rw [hop]; rfl
                    rw [← h2]
                    exact h1⟩
                  clear hop
                  go_wp2_with fail
                  with_reducible refine HCL.out.mono ?_
                  clear HCL
                  rintro e w3 ⟨rfl, hf3, hc3⟩
                  have HB3 := Aside0.mk (below_chg HF.out.fi.bel (Nat.le_refl _) hc3 (fun k hk => Nat.le_of_eq hk.symm))
                  have HF3 := Aside0.mk hf3
                  have HX := Aside0.mk (blk_new w3 (.cells #[.int .i64 0, .int .i64 0, .slice none 0 0, .int .i64 0, .int .i64 0] 42))
                  have HRF3 := Aside0.mk (HRF2.out (w3.alloc (.cells #[.int .i64 0, .int .i64 0, .slice none 0 0, .int .i64 0, .int .i64 0] 42)) (below_alloc HB3.out _))
                  clear hf3 hc3 HF
                  go_wp2_with fail
                  with_reducible refine HRF3.out.mono ?_
                  clear HRF3 HRF2
                  rintro e w4 ⟨A4, c4, rfl, hb4⟩
                  have HB4 := Aside0.mk (below_step (below_alloc HB3.out (.cells #[.int .i64 0, .int .i64 0, .slice none 0 0, .int .i64 0, .int .i64 0] 42)) hb4)
                  have HX4 := Aside0.mk (blk_below HX.out hb4)
                  have HF4 := Aside0.mk ((HF3.out.alloc (.cells #[.int .i64 0, .int .i64 0, .slice none 0 0, .int .i64 0, .int .i64 0] 42)).below hb4)
                  have hlt4 : w3.heap.size < w4.heap.size := blk_lt HX4.out
                  have hne4 : w4.heap.size ≠ w3.heap.size := by omega
                  have hne5 : w3.heap.size ≠ w4.heap.size := by omega
                  have HHE := Aside0.mk (HHL.out w4 HF4.out)
                  have hx4 := HX4.out
                  clear HHL hb4 HX HB3 HF3
                  have x0 := (blk_cell hx4 0).trans rfl
                  have x1 := (blk_cell hx4 1).trans rfl
                  have x2 := (blk_cell hx4 2).trans rfl
                  have x3 := (blk_cell hx4 3).trans rfl
                  have x4 := (blk_cell hx4 4).trans rfl
                  have hy4 := blk_alloc hx4 (.cells #[.int .i64 0, .int .i64 0, .slice none 0 0, .int .i64 0, .int .i64 0] 45)
                  have y0 := (blk_cell hy4 0).trans rfl
                  have y1 := (blk_cell hy4 1).trans rfl
                  have y2 := (blk_cell hy4 2).trans rfl
                  have y3 := (blk_cell hy4 3).trans rfl
                  have y4 := (blk_cell hy4 4).trans rfl
                  have hz4 := blk_new w4 (.cells #[.int .i64 0, .int .i64 0, .slice none 0 0, .int .i64 0, .int .i64 0] 45)
                  have z0 := (blk_cell hz4 0).trans rfl
                  have z1 := (blk_cell hz4 1).trans rfl
                  have z2 := (blk_cell hz4 2).trans rfl
                  have z3 := (blk_cell hz4 3).trans rfl
                  have z4 := (blk_cell hz4 4).trans rfl
                  have hzz := blk_alloc hz4 (.cells #[.int .i64 0, .int .i64 0, .slice none 0 0, .int .i64 0, .int .i64 0] 42)
                  have zz0 := (blk_cell hzz 0).trans rfl
                  have zz1 := (blk_cell hzz 1).trans rfl
                  have zz2 := (blk_cell hzz 2).trans rfl
                  have zz3 := (blk_cell hzz 3).trans rfl
                  have zz4 := (blk_cell hzz 4).trans rfl
                  have hC1' := one42 (w4.alloc (.cells #[.int .i64 0, .int .i64 0, .slice none 0 0, .int .i64 0, .int .i64 0] 45)) ⟨0, 0, [], 0, 0⟩ rfl
                  have hC2' := one45 ((w4.alloc (.cells #[.int .i64 0, .int .i64 0, .slice none 0 0, .int .i64 0, .int .i64 0] 45)).alloc (.cells #[.int .i64 0, .int .i64 0, .slice none 0 0, .int .i64 0, .int .i64 0] 42)) ⟨0, 0, [], 0, 0⟩ rfl
                  rw [World.size_alloc] at hC1'
                  rw [World.size_alloc, World.size_alloc] at hC2'
                  have HAL : Aside0 (Calls Try.prog 20 #[.slice (some ⟨w4.heap.size + 1, 0, none⟩) 1 1, .slice (some ⟨w4.heap.size + 1 + 1, 0, none⟩) 1 1] (((w4.alloc (.cells #[.int .i64 0, .int .i64 0, .slice none 0 0, .int .i64 0, .int .i64 0] 45)).alloc (.cells #[.int .i64 0, .int .i64 0, .slice none 0 0, .int .i64 0, .int .i64 0] 42)).alloc (.cells #[.int .i64 0, .int .i64 0, .slice none 0 0, .int .i64 0, .int .i64 0] 45)) fun e w' => e = .returned (.bool true) ∧ Drawn0 (((w4.alloc (.cells #[.int .i64 0, .int .i64 0, .slice none 0 0, .int .i64 0, .int .i64 0] 45)).alloc (.cells #[.int .i64 0, .int .i64 0, .slice none 0 0, .int .i64 0, .int .i64 0] 42)).alloc (.cells #[.int .i64 0, .int .i64 0, .slice none 0 0, .int .i64 0, .int .i64 0] 45)) w') := ⟨alike_calls (some ⟨w4.heap.size + 1, 0, none⟩) 1 1 (some ⟨w4.heap.size + 1 + 1, 0, none⟩) 1 [⟨0, 0, [], 0, 0⟩] rfl _ (Kd.C_alloc hC1' _) hC2' (by decide) (fun y hy => by rw [List.mem_singleton.1 hy]; exact Nat.zero_le _)⟩
                  clear hx4 hy4 hz4 hzz hC1' hC2'
                  go_wp2_with fail
                  with_reducible refine HHE.out.mono ?_
                  clear HHE
                  rintro e w5 ⟨rfl, rfl⟩
                  go_wp2_with fail
                  with_reducible refine HAL.out.mono ?_
                  clear HAL
                  rintro e w5 ⟨rfl, ⟨nd, rfl⟩⟩
                  go_wp2_with fail
                  with_reducible refine (awake19_calls _).mono ?_
                  rintro e w6 ⟨rfl, hb6⟩
                  go_wp2
                  go_ret
                  exact ⟨rfl, below_step (pw_below_drewN (below_alloc (below_alloc (below_alloc HB4.out _) _) _) nd) hb6⟩
                · have hff : ff < p := by
                    have h1 := HSL.out
                    have h2 : S.op.length ≠ 0 := fun e => hop (List.length_eq_zero_iff.1 e)
                    omega
                  have hlo : ((ofS w.heap.size most v S).pos : Int) - (ofS w.heap.size most v S).op.length = (ff : Int) := by
                    show (S.pos : Int) - (S.op.length : Int) = ff
                    rw [HSL.out, HSP.out]
                    omega
                  have hhi : ((ofS w.heap.size most v S).pos : Int) = (p : Int) := by show (S.pos : Int) = p; rw [HSP.out]
                  have hcl := frclose_left (ofS w.heap.size most v S) wr HF.out.fi.fr HEN.out hop
                  rw [hlo, hhi] at hcl
                  have HCL : Aside0 (Calls Try.prog 23 #[.pointer (some ⟨w.heap.size, 0, none⟩)] wr fun e w' => e = .returned (.tuple #[.agg #[.int .i64 ff, .int .i64 p, .slice none 0 0, .int .i64 13, .int .i64 p], .bool true, .int .i64 0]) ∧ FrAt { ofS w.heap.size most v S with v := .slice none 0 0, op := [], need := 0, ended := true } w' ∧ Chg (fun k => k = w.heap.size) wr w') := ⟨hcl⟩
                  have HHL : Aside0 (∀ W, FrAt { ofS w.heap.size most v S with v := .slice none 0 0, op := [], need := 0, ended := true } W → Calls Try.prog 22 #[.pointer (some ⟨w.heap.size, 0, none⟩)] W fun e w' => e = .returned (.int .i64 0) ∧ W = w') := ⟨fun W h => frheld_calls _ W h⟩
                  clear hop hcl hlo hhi
                  go_wp2_with fail
                  with_reducible refine HCL.out.mono ?_
                  clear HCL
                  rintro e w3 ⟨rfl, hf3, hc3⟩
                  have HB3 := Aside0.mk (below_chg HF.out.fi.bel (Nat.le_refl _) hc3 (fun k hk => Nat.le_of_eq hk.symm))
                  have HF3 := Aside0.mk hf3
                  have HX := Aside0.mk (blk_new w3 (.cells #[.int .i64 (ff : Int), .int .i64 (p : Int), .slice none 0 0, .int .i64 13, .int .i64 (p : Int)] 42))
                  have HRF3 := Aside0.mk (HRF2.out (w3.alloc (.cells #[.int .i64 (ff : Int), .int .i64 (p : Int), .slice none 0 0, .int .i64 13, .int .i64 (p : Int)] 42)) (below_alloc HB3.out _))
                  clear hf3 hc3 HF
                  go_wp2_with fail
                  with_reducible refine HRF3.out.mono ?_
                  clear HRF3 HRF2
                  rintro e w4 ⟨A4, c4, rfl, hb4⟩
                  have HB4 := Aside0.mk (below_step (below_alloc HB3.out (.cells #[.int .i64 (ff : Int), .int .i64 (p : Int), .slice none 0 0, .int .i64 13, .int .i64 (p : Int)] 42)) hb4)
                  have HX4 := Aside0.mk (blk_below HX.out hb4)
                  have HF4 := Aside0.mk ((HF3.out.alloc (.cells #[.int .i64 (ff : Int), .int .i64 (p : Int), .slice none 0 0, .int .i64 13, .int .i64 (p : Int)] 42)).below hb4)
                  have hlt4 : w3.heap.size < w4.heap.size := blk_lt HX4.out
                  have hne4 : w4.heap.size ≠ w3.heap.size := by omega
                  have hne5 : w3.heap.size ≠ w4.heap.size := by omega
                  have HHE := Aside0.mk (HHL.out w4 HF4.out)
                  have hx4 := HX4.out
                  clear HHL hb4 HX HB3 HF3
                  have x0 := (blk_cell hx4 0).trans rfl
                  have x1 := (blk_cell hx4 1).trans rfl
                  have x2 := (blk_cell hx4 2).trans rfl
                  have x3 := (blk_cell hx4 3).trans rfl
                  have x4 := (blk_cell hx4 4).trans rfl
                  have hy4 := blk_alloc hx4 (.cells #[.int .i64 (ff : Int), .int .i64 (p : Int), .slice none 0 0, .int .i64 13, .int .i64 (p : Int)] 45)
                  have y0 := (blk_cell hy4 0).trans rfl
                  have y1 := (blk_cell hy4 1).trans rfl
                  have y2 := (blk_cell hy4 2).trans rfl
                  have y3 := (blk_cell hy4 3).trans rfl
                  have y4 := (blk_cell hy4 4).trans rfl
                  have hz4 := blk_new w4 (.cells #[.int .i64 (ff : Int), .int .i64 (p : Int), .slice none 0 0, .int .i64 13, .int .i64 (p : Int)] 45)
                  have z0 := (blk_cell hz4 0).trans rfl
                  have z1 := (blk_cell hz4 1).trans rfl
                  have z2 := (blk_cell hz4 2).trans rfl
                  have z3 := (blk_cell hz4 3).trans rfl
                  have z4 := (blk_cell hz4 4).trans rfl
                  have hzz := blk_alloc hz4 (.cells #[.int .i64 (ff : Int), .int .i64 (p : Int), .slice none 0 0, .int .i64 13, .int .i64 (p : Int)] 42)
                  have zz0 := (blk_cell hzz 0).trans rfl
                  have zz1 := (blk_cell hzz 1).trans rfl
                  have zz2 := (blk_cell hzz 2).trans rfl
                  have zz3 := (blk_cell hzz 3).trans rfl
                  have zz4 := (blk_cell hzz 4).trans rfl
                  have hC1' := one42 (w4.alloc (.cells #[.int .i64 (ff : Int), .int .i64 (p : Int), .slice none 0 0, .int .i64 13, .int .i64 (p : Int)] 45)) ⟨(ff : Int), (p : Int), [], 13, (p : Int)⟩ rfl
                  have hC2' := one45 ((w4.alloc (.cells #[.int .i64 (ff : Int), .int .i64 (p : Int), .slice none 0 0, .int .i64 13, .int .i64 (p : Int)] 45)).alloc (.cells #[.int .i64 (ff : Int), .int .i64 (p : Int), .slice none 0 0, .int .i64 13, .int .i64 (p : Int)] 42)) ⟨(ff : Int), (p : Int), [], 13, (p : Int)⟩ rfl
                  rw [World.size_alloc] at hC1'
                  rw [World.size_alloc, World.size_alloc] at hC2'
                  have HAL : Aside0 (Calls Try.prog 20 #[.slice (some ⟨w4.heap.size + 1, 0, none⟩) 1 1, .slice (some ⟨w4.heap.size + 1 + 1, 0, none⟩) 1 1] (((w4.alloc (.cells #[.int .i64 (ff : Int), .int .i64 (p : Int), .slice none 0 0, .int .i64 13, .int .i64 (p : Int)] 45)).alloc (.cells #[.int .i64 (ff : Int), .int .i64 (p : Int), .slice none 0 0, .int .i64 13, .int .i64 (p : Int)] 42)).alloc (.cells #[.int .i64 (ff : Int), .int .i64 (p : Int), .slice none 0 0, .int .i64 13, .int .i64 (p : Int)] 45)) fun e w' => e = .returned (.bool true) ∧ Drawn0 (((w4.alloc (.cells #[.int .i64 (ff : Int), .int .i64 (p : Int), .slice none 0 0, .int .i64 13, .int .i64 (p : Int)] 45)).alloc (.cells #[.int .i64 (ff : Int), .int .i64 (p : Int), .slice none 0 0, .int .i64 13, .int .i64 (p : Int)] 42)).alloc (.cells #[.int .i64 (ff : Int), .int .i64 (p : Int), .slice none 0 0, .int .i64 13, .int .i64 (p : Int)] 45)) w') := ⟨alike_calls (some ⟨w4.heap.size + 1, 0, none⟩) 1 1 (some ⟨w4.heap.size + 1 + 1, 0, none⟩) 1 [⟨(ff : Int), (p : Int), [], 13, (p : Int)⟩] rfl _ (Kd.C_alloc hC1' _) hC2' (by decide) (fun y hy => by rw [List.mem_singleton.1 hy]; exact Nat.zero_le _)⟩
                  clear hx4 hy4 hz4 hzz hC1' hC2'
                  go_wp2_with fail
                  with_reducible refine HHE.out.mono ?_
                  clear HHE
                  rintro e w5 ⟨rfl, rfl⟩
                  go_wp2_with fail
                  with_reducible refine HAL.out.mono ?_
                  clear HAL
                  rintro e w5 ⟨rfl, ⟨nd, rfl⟩⟩
                  go_wp2_with fail
                  with_reducible refine (awake19_calls _).mono ?_
                  rintro e w6 ⟨rfl, hb6⟩
                  go_wp2
                  go_ret
                  exact ⟨rfl, below_step (pw_below_drewN (below_alloc (below_alloc (below_alloc HB4.out _) _) _) nd) hb6⟩
namespace chunkFeeds
open Go.ChangeShapes Go.WideShapes Go.ChangeAt Go.RowKit
open Go.ChangeMaps (open_string shut_string)
theorem own : ownKnob Try.prog.godebug = none := by kernel_rfl
theorem laidOut : laidOutB Try.prog = true := by kernel_rfl
set_option maxRecDepth 100000 in
theorem lifted (os : Os) (started : os.Started) (H : Type) (enc : TypeId × Value → H) :
    ReturnsInHanded {} Try.checked os 3 .any (Rows.chunkFeedsSpec.pre6 enc Try.prog Try.f3 Rows.chunkFeedsRow.domain false) (Rows.chunkFeedsSpec.post enc Try.prog Try.f3 false true false false) := by
  refine returnsInHanded_of_change_sized (C := Try.checked) own started (by kernel_rfl) Try.func3
    (ChangeSpec.witness6 (enc := enc) (C := Try.checked) false ⟨#[], #[.slice none 0 0, .slice none 0 0, .int .i64 0], []⟩ 8 (by kernel_rfl) (by kernel_rfl) (by kernel_rfl) (by kernel_rfl)) ?_
  intro W base args ds gs before hval0 hW hcnd hsz0 _
  have hsz : (DataW.weightsEach Try.prog (Try.f3.params.toList ++ Rows.chunkFeedsSpec.plain.varTypes Try.prog) (ds ++ gs)).all (· ≤ reachBytes) = true := hsz0
  have hval : ∀ (j : Nat) t v, Try.f3.params[j]? = some t → args[j]? = some v → Value.okWide Try.prog W .any base t v := hval0
  have hW' := hW
  obtain ⟨p, q, hA0, hV, rfl, hfz, hnd⟩ := hW
  have hA : DataW.TrodAll enc Try.prog W 0 (fun _ => true) true Try.f3.params.toList args.toList ds p := hA0
  rw [Try.params3] at hA hval hsz
  obtain ⟨v0, vs0, d0, ds0, p0, q0, hargs, rfl, rfl, h0, r0⟩ := trodAll_cons hA
  obtain ⟨v1, vs1, d1, ds1, p1, q1, rfl, rfl, rfl, h1, r1⟩ := trodAll_cons r0
  obtain ⟨v2, vs2, d2, ds2, p2, q2, rfl, rfl, rfl, h2, r2⟩ := trodAll_cons r1
  obtain ⟨rfl, rfl, rfl⟩ := trodAll_nil r2
  obtain rfl : args = #[v0, v1, v2] := by cases args; simp_all
  obtain ⟨rfl, rfl⟩ := trodVars_none hV
  obtain ⟨a0, len0, cap0, rfl⟩ := okWide_slice Try.underlying22 (hval 0 22 v0 rfl rfl)
  have k0 := h0
  have lt0 : ∀ x ∈ p0, x.block < W.heap.size := by obtain ⟨m, hm⟩ := k0; exact DataW.trod_lt m _ _ _ hm
  have y0 : len0 * 1 ≤ 140737488351232 := sized_ints hsz (j := 0) (t := 22) rfl rfl Try.underlying22 Try.underlying5 (by kernel_rfl) (by kernel_rfl) h0
  obtain ⟨l0, c0, b0, e0⟩ := open_row Try.underlying22 Try.underlying5 (by kernel_rfl) (by omega) h0
  obtain rfl := c0.1.symm
  obtain ⟨a1, len1, cap1, rfl⟩ := okWide_slice Try.underlying23 (hval 1 23 v1 rfl rfl)
  have k1 := h1
  have lt1 : ∀ x ∈ p1, x.block < W.heap.size := by obtain ⟨m, hm⟩ := k1; exact DataW.trod_lt m _ _ _ hm
  have y1 : len1 * 8 ≤ 140737488351232 := sized_ints hsz (j := 1) (t := 23) rfl rfl Try.underlying23 Try.underlying3 (by kernel_rfl) (by kernel_rfl) h1
  obtain ⟨l1, c1, b1, e1⟩ := open_row Try.underlying23 Try.underlying3 (by kernel_rfl) (by omega) h1
  obtain rfl := c1.1.symm
  obtain ⟨a2, rfl, rfl, rfl, w2⟩ := open_int Try.underlying3 (hval 2 3 v2 rfl rfl) h2
  clear hA0 hval0 hsz0 hsz
  refine (chunkFeeds_walk a0 cap0 l0 a1 cap1 l1 a2 W c0 b0 y0 e0 c1 b1 y1 e1 (bounds_i64 w2)).mono fun e W' ⟨he, bel⟩ => ?_
  subst he
  exact ⟨_, rfl, _, _, _, [], _, [], hW', trodAll_mk1 (shut_bool Try.underlying4 _), (trodAll_cons_mk (Below.trod laidOut (by kernel_rfl) (of_decide_eq_true (by kernel_rfl)) k0 bel lt0) (trodAll_cons_mk (Below.trod laidOut (by kernel_rfl) (of_decide_eq_true (by kernel_rfl)) k1 bel lt1) (trodAll_cons_mk (shut_int Try.underlying3 w2) trodAll_mk0))), rfl, bel.frame _, fun h => by cases h⟩
theorem over : Rows.chunkFeedsRow.holds Try.pinned (OpenSpec.ofChange Rows.chunkFeedsSpec) :=
  OpenClaim.holds_of_wide 3 Try.f3 rfl rfl rfl rfl rfl rfl rfl ⟨rfl, rfl, rfl, rfl, rfl⟩ rfl rfl rfl rfl rfl (by kernel_rfl) Try.func3 (by kernel_rfl)
    (of_decide_eq_true (by kernel_rfl)) (by unfold Func.isWrapper; first | (rw [if_pos (by decide +kernel)]; kernel_rfl) | (rw [if_neg (by decide +kernel)]; exact ⟨rfl, rfl⟩))
    (fun os started H enc _ => lifted os started H enc)
theorem proved : Rows.ChunkFeedsSaid := over
end chunkFeeds
/-- The row, under a short name, for the claim. -/
theorem chunkFeeds_holds : Rows.ChunkFeedsSaid := chunkFeeds.proved
#print axioms chunkFeeds_holds
end Go.Proofs.Ytmbfjaogimkncaa
