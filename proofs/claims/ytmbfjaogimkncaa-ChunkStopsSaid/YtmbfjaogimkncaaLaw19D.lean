/- ChunkStops: a framer that was stopped, or closed, takes nothing any more: its walk; no condition. -/
import Derived.Test.YtmbfjaogimkncaaFI19
import Derived.Test.YtmbfjaogimkncaaLawKit
import Derived.Test.YtmbfjaogimkncaaRows
namespace Go.Proofs.Ytmbfjaogimkncaa
open Go.RowKit Go.Proofs.YtmbfjaogimkncaaW.PrintWords Go.Proofs.YtmbfjaogimkncaaW.PrintLast Go.Proofs.YtmbfjaogimkncaaW.PrintMore
open PChunkFeeds (S40 S42 S45 k40 k42 k45 rd_T42 rd_T45)
set_option linter.unusedVariables false
set_option linter.unusedSimpArgs false
theorem R_empty5 (W : World) (e : TypeId) : (Kd.int .u8).R e (W.alloc (.cells #[] e)) 0 (fun k => k = W.heap.size) (.slice (some ⟨W.heap.size, 0, none⟩) 0 0) [] := by
  refine ⟨fun k hk => ?_, [], ⟨rfl, .inr ⟨W.heap.size, 0, #[], rfl, Nat.zero_le _, blk_new W _, Nat.le_refl _, by decide, rfl, rfl⟩⟩, ⟨rfl, fun j p hj => by cases hj⟩⟩
  injection hk with hk
  exact hk.symm
theorem frun_by19 (most : Int) : ∀ (xs : List Int) (s : FS) (N : Nat), s.op.length + xs.length ≤ N → ∀ y ∈ (frun most s xs).2, y.by'.length ≤ N
  | [], s, N, h, y, hy => by cases hy
  | x :: xs, s, N, h, y, hy => by
    rw [List.length_cons] at h
    simp only [frun, List.mem_append] at hy
    have h2 : (fstep most s x).1.op.length ≤ s.op.length + 1 ∧ ∀ z ∈ (fstep most s x).2, z.by'.length ≤ s.op.length + 1 := by
      unfold fstep
      split
      · exact ⟨Nat.le_succ _, fun z hz => by cases hz⟩
      · split
        · split
          · exact ⟨by simp, fun z hz => by cases hz⟩
          · refine ⟨Nat.zero_le _, fun z hz => ?_⟩
            rw [List.mem_singleton.1 hz]
            exact Nat.zero_le _
        · split
          · exact ⟨by simp, fun z hz => by cases hz⟩
          · refine ⟨Nat.zero_le _, fun z hz => ?_⟩
            rw [List.mem_singleton.1 hz]
            simp
    rcases hy with hy | hy
    · have := h2.2 y hy
      omega
    · exact frun_by19 most xs _ N (by have := h2.1; omega) y hy
/-- A framer that has ended, whatever ended it. -/
def goneF (g : Nat) (most : Int) (pos : Nat) (v : Value) (need : Nat) : Fr := ⟨g, most, pos, v, [], need, true⟩
theorem close_gone (g : Nat) (most : Int) (v : Value) (S : FS) (w : World) (hok : FSok most S) (h : FrAt (ofS g most v S) w) : Calls Try.prog 23 #[.pointer (some ⟨g, 0, none⟩)] w fun e w' => (∃ (a b c d : Int) (q : Bool) (r : Int), e = .returned (.tuple #[.agg #[.int .i64 a, .int .i64 b, .slice none 0 0, .int .i64 c, .int .i64 d], .bool q, .int .i64 r])) ∧ (∃ v' nd, FrAt (goneF g most S.pos v' nd) w' ∧ (v' = v ∨ v' = .slice none 0 0)) ∧ Chg (fun k => k = g) w w' := by
  cases he : S.ended with
  | true =>
    refine (frclose_ended (ofS g most v S) w h he).mono ?_
    rintro e w' ⟨rfl, hb⟩
    refine ⟨⟨_, _, _, _, _, _, rfl⟩, ⟨v, S.need, ?_, .inl rfl⟩, Chg.of_below hb _⟩
    have h1 := h.below hb
    have e1 : ofS g most v S = goneF g most S.pos v S.need := by
      unfold ofS goneF
      rw [hok.gone he, he]
    rw [e1] at h1
    exact h1
  | false =>
    by_cases hop : S.op = []
    · refine (frclose_empty (ofS g most v S) w h he hop).mono ?_
      rintro e w' ⟨rfl, hf, hc⟩
      refine ⟨⟨_, _, _, _, _, _, rfl⟩, ⟨v, S.need, ?_, .inl rfl⟩, hc⟩
      have e1 : ({ ofS g most v S with ended := true } : Fr) = goneF g most S.pos v S.need := by
        unfold ofS goneF
        rw [hop]
      rw [e1] at hf
      exact hf
    · refine (frclose_left (ofS g most v S) w h he hop).mono ?_
      rintro e w' ⟨rfl, hf, hc⟩
      exact ⟨⟨_, _, _, _, _, _, rfl⟩, ⟨.slice none 0 0, 0, hf, .inr rfl⟩, hc⟩
/-- What holds once both framers were fed. -/
structure StopW (w : World) (k10 g1 g2 lo B : Nat) (most : Int) (S : FS) (v1 v2 : Value) (L : Nat) (outs : List FX) (Ay : Option Addr) (cy : Nat) (Az : Option Addr) (cz : Nat) (W : World) : Prop where
  bel : Below w.heap.size w W
  p : FrAt (ofS g1 most v1 S) W
  q : FrAt (ofS g2 most v2 S) W
  po : ∀ k, (ofS g1 most v1 S).F k → k = g1 ∨ B ≤ k
  qo : ∀ k, (ofS g2 most v2 S).F k → k = g2 ∨ B ≤ k
  z : W.heap[k10]? = some (.cells #[.int .i64 0, .int .i64 0, .slice none 0 0, .int .i64 0, .int .i64 0] 42 (0, 0))
  y : k42.R 42 W 0 (fun k => B ≤ k) (.slice Ay L cy) (outs.map FX.s)
  zz : k42.R 42 W 0 (fun k => B ≤ k) (.slice Az L cz) (outs.map FX.s)
  o1 : k10 < g1
  o2 : g1 < g2
  o3 : g2 < lo
  o4 : lo ≤ B
  o5 : w.heap.size ≤ k10
theorem StopW.turn {w : World} {k10 g1 g2 lo B : Nat} {most : Int} {S : FS} {v1 v2 : Value} {L : Nat} {outs : List FX} {Ay : Option Addr} {cy : Nat} {Az : Option Addr} {cz : Nat} {W W' : World} {T : Nat → Prop} (h : StopW w k10 g1 g2 lo B most S v1 v2 L outs Ay cy Az cz W) (hc : Chg T W W') (hT : ∀ k, T k → lo ≤ k ∧ k < B) : StopW w k10 g1 g2 lo B most S v1 v2 L outs Ay cy Az cz W' where
  bel := below_chg h.bel (Nat.le_refl _) hc (fun k hk => by have := (hT k hk).1; have := h.o1; have := h.o2; have := h.o3; have := h.o5; omega)
  p := h.p.step hc (fun k hk ht => by have h1 := hT k ht; have := h.o2; have := h.o3; rcases h.po k hk with h2 | h2 <;> omega)
  q := h.q.step hc (fun k hk ht => by have h1 := hT k ht; have := h.o3; rcases h.qo k hk with h2 | h2 <;> omega)
  po := h.po
  qo := h.qo
  z := (hc.block _ (blk_lt h.z) (fun ht => by have h1 := hT _ ht; have := h.o1; have := h.o2; have := h.o3; omega)).trans h.z
  y := Kd.R_step h.y (fun k hk hl => hc.block k hl (fun ht => by have h1 := hT k ht; omega))
  zz := Kd.R_step h.zz (fun k hk hl => hc.block k hl (fun ht => by have h1 := hT k ht; omega))
  o1 := h.o1
  o2 := h.o2
  o3 := h.o3
  o4 := h.o4
  o5 := h.o5
/-- The bytes that were handed in, as they may be written. -/
def Hand (A : Option Addr) (n : Nat) (W : World) : Prop := n = 0 ∨ ∃ kh cur, A = some ⟨kh, 0, none⟩ ∧ W.heap[kh]? = some (.cells cur 5 (0, 0)) ∧ ∀ j, j < n → ∃ x, cur[j]? = some (.int .u8 x)
theorem hand_of {A : Option Addr} {n c : Nat} {b : List Int} {W : World} {ok : Nat → Prop} (h : (Kd.int .u8).R 5 W 0 ok (.slice A n c) b) (hn : b.length = n) : Hand A n W := by
  have h1 := Kd.own_of_R h
  rcases h1.2 with ⟨hv, h0⟩ | ⟨g, cap, cur, hv, _, hh, hnc, _, hsz, htk⟩
  · exact .inl (by rw [← hn]; exact h0)
  · injection hv with hA hn2 hc
    refine .inr ⟨g, cur, hA, hh, fun j hj => ?_⟩
    have hjb : j < b.length := by rw [hn]; exact hj
    have h3 : (cur.toList.take (b.length * 1))[j]? = (encs (Value.int .u8) b)[j]? := by rw [htk]
    rw [List.getElem?_take_of_lt (by omega)] at h3
    refine ⟨b[j], ?_⟩
    rw [← Array.getElem?_toList, h3]
    simp [encs, List.getElem?_eq_getElem hjb]
attribute [local go_sem high] eq19
set_option maxHeartbeats 4000000 in
set_option maxRecDepth 100000 in
theorem chunkStops_walk (A0 : Option Addr) (c0 : Nat) (b : List Int) (most : Int) (stop : Bool) (w : World)
    (hC0 : (Kd.int .u8).C w A0 b.length b) (hwf0 : ∀ x ∈ b, (Lit.int .u8 x).wf = true) (hsz0 : b.length * 1 ≤ 140737488351232) (hcap0 : b.length ≤ c0)
    (hmb : -9223372036854775808 ≤ most ∧ most ≤ 9223372036854775807) :
    Calls Try.prog 6 #[.slice A0 b.length c0, .int .i64 most, .bool stop] w fun e w' => e = .returned (.bool true) ∧ Below w.heap.size w w' := by
  have HBY := Aside0.mk (bytes_of_wf hwf0)
  obtain ⟨n, hn⟩ : ∃ n, b.length = n := ⟨_, rfl⟩
  rw [hn] at hC0 hcap0
  rw [hn]
  have HC0 := Aside0.mk hC0
  have HN := Aside0.mk hn
  have hn9 : n ≤ 140737488351232 := by rw [← hn]; omega
  clear hwf0 hsz0 hC0 hn
  go_enter Try.func6, Try.ntmps6
  go_wp2_with fail
  with_reducible refine (frstop_nil _).mono ?_
  rintro e w1 ⟨rfl, rfl⟩
  go_wp2_with fail
  with_reducible refine (frfeed_nil A0 n c0 _).mono ?_
  rintro e w1 ⟨rfl, rfl⟩
  go_wp2_with fail
  with_reducible refine (frclose_nil _).mono ?_
  rintro e w1 ⟨rfl, hb1⟩
  have HBZ := Aside0.mk (below_alloc hb1 (.cells #[.int .i64 0, .int .i64 0, .slice none 0 0, .int .i64 0, .int .i64 0] 42))
  have HZ := Aside0.mk (blk_new w1 (.cells #[.int .i64 0, .int .i64 0, .slice none 0 0, .int .i64 0, .int .i64 0] 42))
  have HS1 := Aside0.mk hb1.size
  have z1 := (blk_cell HZ.out 1).trans rfl
  clear hb1
  go_wp2_with fail
  with_reducible refine (frheld_nil _).mono ?_
  rintro e w2 ⟨rfl, rfl⟩
  go_wp2_with fail
  with_reducible refine (frat_nil _).mono ?_
  rintro e w2 ⟨rfl, rfl⟩
  have haw : ∀ (h : (400 < n ∨ most < 1) ∨ 1048576 < most), True := fun _ => trivial
  by_cases h4 : 400 < n
  · have hd : decide (400 < (n : Int)) = true := decide_eq_true (by omega)
    go_wp2_with fail
    with_reducible refine (awake19_calls _).mono ?_
    rintro e w2 ⟨rfl, hb⟩
    go_wp2
    go_ret
    exact ⟨rfl, below_step HBZ.out hb⟩
  · have hd : decide (400 < (n : Int)) = false := decide_eq_false (by omega)
    by_cases hq1 : most < 1
    · have hd1 : decide (most < 1) = true := decide_eq_true hq1
      go_wp2_with fail
      with_reducible refine (awake19_calls _).mono ?_
      rintro e w2 ⟨rfl, hb⟩
      go_wp2
      go_ret
      exact ⟨rfl, below_step HBZ.out hb⟩
    · have hd1 : decide (most < 1) = false := decide_eq_false hq1
      by_cases hq2 : 1048576 < most
      · have hd2 : decide (1048576 < most) = true := decide_eq_true hq2
        go_wp2_with fail
        with_reducible refine (awake19_calls _).mono ?_
        rintro e w2 ⟨rfl, hb⟩
        go_wp2
        go_ret
        exact ⟨rfl, below_step HBZ.out hb⟩
      · have hd2 : decide (1048576 < most) = false := decide_eq_false hq2
        go_wp2_with fail
        obtain ⟨Wz, hWz⟩ : ∃ Wz, w1.alloc (.cells #[.int .i64 0, .int .i64 0, .slice none 0 0, .int .i64 0, .int .i64 0] 42) = Wz := ⟨_, rfl⟩
        have hzs : Wz.heap.size = w1.heap.size + 1 := by rw [← hWz, World.size_alloc]
        rw [hWz] at HBZ HZ ⊢
        have HZS := Aside0.mk hzs
        clear hzs
        with_reducible refine (frnew_calls most Wz (by omega) (by omega)).mono ?_
        rintro e w2 ⟨rfl, hp2, hb2⟩
        go_wp2_with fail
        with_reducible refine (frnew_calls most w2 (by omega) (by omega)).mono ?_
        rintro e w3 ⟨rfl, hq3, hb3⟩
        have hp3 := hp2.below hb3
        have hz3 := blk_below (blk_below HZ.out hb2) hb3
        have hl2 := blk_lt hp2.blk
        have hl3 := blk_lt hq3.blk
        have HP3 := Aside0.mk hp3
        have HQ3 := Aside0.mk hq3
        have HZ3 := Aside0.mk hz3
        have HB3 := Aside0.mk (below_step (below_step HBZ.out hb2) hb3)
        have HLL : Aside0 (Wz.heap.size < w2.heap.size ∧ w2.heap.size < w3.heap.size ∧ Wz.heap.size = w1.heap.size + 1) := ⟨⟨hl2, hl3, HZS.out⟩⟩
        have HRE := Aside0.mk (R_empty5 w3 5)
        have HCB := Aside0.mk (Kd.C_alloc (Kd.C_below HC0.out HB3.out) (.cells #[] 5))
        have hll : ([] : List Int).length + n ≤ 140737488355328 := by rw [List.length_nil]; omega
        have hn1 : n = ([] : List Int).length + n := by simp
        have HLN := Aside0.mk hll
        have HN1 := Aside0.mk hn1
        clear hp2 hb2 hq3 hb3 hp3 hz3 hl2 hl3 hWz HZ HBZ z1 hll hn1
        go_wp2_with (first | ((with_reducible refine gate_dst (N := 106) rfl ?_); at_builtin; go_must (refine R_apps_row (v := .slice (some ⟨w3.heap.size, 0, none⟩) 0 0) rfl rfl rfl rfl uB HRE.out HCB.out (Nat.zero_le _) HLN.out HN1.out ?_); intro A1 c1 w4 hr4 hg4 hat4; have HR4 := Aside0.mk hr4; have HG4 := Aside0.mk hg4; have HAT4 := Aside0.mk hat4; clear hr4 hg4 hat4) | fail)
        have hch4 : Chg (fun k => k = w3.heap.size) w3 w4 := ((Chg.refl _ w3).alloc (.cells #[] 5)).trans (Chg.of_grown HG4.out (S := fun k => k = w3.heap.size) (fun k hk => by injection hk with hk; exact hk.symm)) (fun k hk => .inl hk)
        have hkh : ∀ k, some k = (Value.slice A1 n c1).ownBlock → w3.heap.size ≤ k ∧ k < w4.heap.size := by
          intro k hk
          refine ⟨?_, Kd.R_lt HR4.out k hk.symm⟩
          rcases HAT4.out with h | ⟨j, h, hj⟩
          · rw [h] at hk
            injection hk with hk
            have hk2 : k = w3.heap.size := hk
            omega
          · rw [h] at hk
            injection hk with hk
            have : w3.heap.size + 1 ≤ j := by simpa using hj
            omega
        have hr4 := HR4.out
        rw [List.nil_append] at hr4
        obtain ⟨hxx, hc14, hC4⟩ := Kd.R_reads' hr4
        rw [HN.out] at hC4
        clear hxx
        have hch4' : Chg (fun k => k = w3.heap.size) w3 w4 := hch4
        have hp4 : FrAt (ofS Wz.heap.size most (.slice none 0 0) ⟨0, [], 0, false⟩) w4 := HP3.out.step hch4 (fun k hk e => by
          have h1 := HLL.out
          rcases hk with hk | hk
          · have hk2 : k = Wz.heap.size := hk
            omega
          · cases hk)
        have hq4 : FrAt (ofS w2.heap.size most (.slice none 0 0) ⟨0, [], 0, false⟩) w4 := HQ3.out.step hch4 (fun k hk e => by
          have h1 := HLL.out
          rcases hk with hk | hk
          · have hk2 : k = w2.heap.size := hk
            omega
          · cases hk)
        have hz4 := (hch4.block _ (blk_lt HZ3.out) (fun e => by have := HLL.out; omega)).trans HZ3.out
        have hb4 := below_chg HB3.out (Nat.le_refl _) hch4 (fun k hk => by have h1 := HB3.out.size; omega)
        obtain ⟨S, hS⟩ : ∃ S, (frun most ⟨0, [], 0, false⟩ b).1 = S := ⟨_, rfl⟩
        obtain ⟨outs, hO⟩ : ∃ o, (frun most ⟨0, [], 0, false⟩ b).2 = o := ⟨_, rfl⟩
        have hrun : frun most ⟨0, [], 0, false⟩ b = (S, outs) := by rw [← hS, ← hO]
        have hok : FSok most S := by
          have h1 := frun_ok (most := most) (by omega) hq2 b ⟨0, [], 0, false⟩ (fun y hy => (HBY.out y hy).1) (FSok.new most (by omega) 0)
          rw [hS] at h1
          exact h1
        have hof := frun_few most b ⟨0, [], 0, false⟩
        rw [hO, HN.out] at hof
        have hby2 := frun_by19 most b ⟨0, [], 0, false⟩ n (by rw [HN.out]; exact Nat.le_of_eq (Nat.zero_add _))
        rw [hO] at hby2
        obtain ⟨L, hL⟩ : ∃ L, outs.length = L := ⟨_, rfl⟩
        have HFP : Aside0 (Calls Try.prog 18 #[.pointer (some ⟨Wz.heap.size, 0, none⟩), .slice A1 n c1] w4 fun e w' => ∃ A' c' v' F, e = .returned (.tuple #[.slice A' L c', .int .i64 0]) ∧ L ≤ c' ∧ Fed (ofS Wz.heap.size most (.slice none 0 0) ⟨0, [], 0, false⟩) S outs w4 w' (.slice A' L c') v' F) := ⟨by
          rw [← hL]
          exact frfeed2 (ofS Wz.heap.size most (.slice none 0 0) ⟨0, [], 0, false⟩) A1 n c1 b w4 S outs hrun hp4 rfl (FSok.new most (by omega) 0) (show 0 ≤ most by omega) hq2 hC4 HBY.out (show 0 + b.length ≤ 1000000000000 by have := HN.out; omega)⟩
        have HFQ : Aside0 (∀ W, FrAt (ofS w2.heap.size most (.slice none 0 0) ⟨0, [], 0, false⟩) W → (Kd.int .u8).C W A0 n b → Calls Try.prog 18 #[.pointer (some ⟨w2.heap.size, 0, none⟩), .slice A0 n c0] W fun e w' => ∃ A' c' v' F, e = .returned (.tuple #[.slice A' L c', .int .i64 0]) ∧ L ≤ c' ∧ Fed (ofS w2.heap.size most (.slice none 0 0) ⟨0, [], 0, false⟩) S outs W w' (.slice A' L c') v' F) := ⟨fun W h1 h2 => by
          rw [← hL]
          exact frfeed2 (ofS w2.heap.size most (.slice none 0 0) ⟨0, [], 0, false⟩) A0 n c0 b W S outs hrun h1 rfl (FSok.new most (by omega) 0) (show 0 ≤ most by omega) hq2 h2 HBY.out (show 0 + b.length ≤ 1000000000000 by have := HN.out; omega)⟩
        rw [hL] at hof
        have HOL := Aside0.mk hL
        have HOK := Aside0.mk hok
        have HBY2 := Aside0.mk hby2
        have HHA := Aside0.mk (hand_of hr4 HN.out)
        have HR4' := Aside0.mk hr4
        have HZ4 := Aside0.mk hz4
        have HB4 := Aside0.mk hb4
        have HQ4 := Aside0.mk hq4
        have HKH := Aside0.mk hkh
        have HW34 : Aside0 (w3.heap.size ≤ w4.heap.size) := ⟨hch4.size⟩
        clear hr4 hC4 hch4 hch4' hp4 hq4 hz4 hb4 hS hO hrun hok hby2 hL hkh HP3 HQ3 HZ3 HRE HCB HLN HN1 HG4 HAT4 HR4
        go_wp2_with fail
        with_reducible refine HFP.out.mono ?_
        clear HFP
        rintro e w5 ⟨Ay, cy, v1, F1, rfl, hcy, hf5⟩
        have hch5 : Chg (fun k => k = Wz.heap.size) w4 w5 := hf5.chg.mono' (fun k hk => by rcases hk with h | h; exact h; cases h)
        have hl := HLL.out
        have h34 := HW34.out
        have hq5 := HQ4.out.step hch5 (fun k hk e => by
          rcases hk with hk | hk
          · have hk2 : k = w2.heap.size := hk
            omega
          · cases hk)
        have hb5 := below_chg HB4.out (Nat.le_refl _) hch5 (fun k hk => by have h1 := HS1.out; omega)
        have hz5 := (hch5.block _ (blk_lt HZ4.out) (fun e => by omega)).trans HZ4.out
        have hha5 : Hand A1 n w5 := by
          rcases HHA.out with h | ⟨kh, cur, e1, e2, e3⟩
          · exact .inl h
          · have h1 := (HKH.out kh (by rw [e1]; rfl)).1
            exact .inr ⟨kh, cur, e1, (hch5.block _ (blk_lt e2) (fun e => by omega)).trans e2, e3⟩
        have hy5 : k42.R 42 w5 0 (fun k => w4.heap.size ≤ k) (.slice Ay L cy) (outs.map FX.s) := by
          have h1 := hf5.row
          refine Kd.R_mono h1 (fun k hk => ?_)
          obtain ⟨h2, h3⟩ := hf5.off k hk
          rcases h3 with (h3 | h3) | h3
          · exact absurd (Or.inl h3) h2
          · cases h3
          · exact h3
        have hpo : ∀ k, (ofS Wz.heap.size most v1 S).F k → k = Wz.heap.size ∨ w4.heap.size ≤ k := by
          intro k hk
          rcases hf5.own k hk with (h3 | h3) | h3
          · exact .inl h3
          · cases h3
          · exact .inr h3
        have HP5 : Aside0 (FrAt (ofS Wz.heap.size most v1 S) w5) := ⟨hf5.fr⟩
        have HFQ5 := Aside0.mk (HFQ.out w5 hq5 (Kd.C_below HC0.out hb5))
        have HY5 := Aside0.mk hy5
        have HPO := Aside0.mk hpo
        have HB5 := Aside0.mk hb5
        have HZ5 := Aside0.mk hz5
        have HHA5 := Aside0.mk hha5
        have H45 : Aside0 (w4.heap.size ≤ w5.heap.size) := ⟨hch5.size⟩
        clear hf5 hch5 hq5 hb5 hz5 hha5 hy5 hpo HFQ HQ4 HB4 HZ4 HHA HR4' hl h34
        go_wp2_with fail
        with_reducible refine HFQ5.out.mono ?_
        clear HFQ5
        rintro e w6 ⟨Az, cz, v2, F2, rfl, hcz, hf6⟩
        have hch6 : Chg (fun k => k = w2.heap.size) w5 w6 := hf6.chg.mono' (fun k hk => by rcases hk with h | h; exact h; cases h)
        have hl := HLL.out
        have h34 := HW34.out
        have h45 := H45.out
        have hSW : StopW w w1.heap.size Wz.heap.size w2.heap.size w3.heap.size w4.heap.size most S v1 v2 L outs Ay cy Az cz w6 := by
          refine ⟨below_chg HB5.out (Nat.le_refl _) hch6 (fun k hk => by have h1 := HS1.out; omega), HP5.out.step hch6 (fun k hk e => ?_), hf6.fr, HPO.out, fun k hk => ?_, (hch6.block _ (blk_lt HZ5.out) (fun e => by omega)).trans HZ5.out, Kd.R_step HY5.out (fun k hk hlt => hch6.block k hlt (fun e => by omega)), ?_, by omega, by omega, by omega, by omega, HS1.out⟩
          · rcases HPO.out k hk with h1 | h1 <;> omega
          · rcases hf6.own k hk with (h3 | h3) | h3
            · exact .inl h3
            · cases h3
            · exact .inr (by omega)
          · have h1 := hf6.row
            refine Kd.R_mono h1 (fun k hk => ?_)
            obtain ⟨h2, h3⟩ := hf6.off k hk
            rcases h3 with (h3 | h3) | h3
            · exact absurd (Or.inl h3) h2
            · cases h3
            · omega
        have hha6 : Hand A1 n w6 := by
          rcases HHA5.out with h | ⟨kh, cur, e1, e2, e3⟩
          · exact .inl h
          · have h1 := (HKH.out kh (by rw [e1]; rfl)).1
            exact .inr ⟨kh, cur, e1, (hch6.block _ (blk_lt e2) (fun e => by omega)).trans e2, e3⟩
        have HSW := Aside0.mk hSW
        have HHA6 := Aside0.mk hha6
        clear hf6 hch6 hSW hha6 hl h34 h45 HP5 HY5 HPO HB5 HZ5 HHA5
        go_wp2
        go_loopw [22] (fun v22 w' => ∃ i : Nat, v22 = .int .i64 (i : Int) ∧ i ≤ n ∧ Aside0 (StopW w w1.heap.size Wz.heap.size w2.heap.size w3.heap.size w4.heap.size most S v1 v2 L outs Ay cy Az cz w') ∧ Aside0 (Hand A1 n w')) (fun v22 _ => n - (intOf v22).toNat)
        case atStart => exact ⟨0, rfl, Nat.zero_le _, HSW, HHA6⟩
        case round =>
          clear HSW HHA6
          obtain ⟨i, rfl, hi, HSW, HHA⟩ := hrel
          by_cases hin : i < n
          · have hha := HHA.out
            rcases hha with h | ⟨kh, cur, e1, e2, e3⟩
            · omega
            · obtain ⟨x, hx⟩ := e3 i hin
              have hkk := HKH.out kh (by rw [e1]; rfl)
              have HKK := Aside0.mk hkk
              have hadd : (⟨kh, 0, none⟩ : Addr).add i = ⟨kh, i, none⟩ := by
                unfold Addr.add
                split
                · rename_i h0
                  rw [h0]
                · simp
              have hcell : wr.cell? ⟨kh, i, none⟩ = some (.int .u8 x) := (blk_cell e2 i).trans hx
              have hfz : wr.frozen? ⟨kh, i, none⟩ = false := blk_frozen e2 i
              have hin1 : (i : Int) < (n : Int) := by omega
              have HE2 := Aside0.mk e2
              have HE3 := Aside0.mk e3
              subst e1
              clear hkk e2 e3 hx
              go_wp2
              go_roundw
              case rel =>
                refine ⟨i + 1, by go_num, by omega, ⟨HSW.out.turn ((Chg.refl (fun k => k = kh) wr).set1 i _) (fun k hk => by rw [hk]; exact HKK.out)⟩, ⟨.inr ⟨kh, cur.setIfInBounds i (.int .u8 ((x + 1) % 256)), rfl, (blk_put HE2.out i _ rfl).trans rfl, fun j hj => ?_⟩⟩⟩
                by_cases hji : j = i
                · subst hji
                  obtain ⟨y, hy⟩ := HE3.out j hj
                  have hlt : j < cur.size := (Array.getElem?_eq_some_iff.1 hy).1
                  exact ⟨(x + 1) % 256, by simp [Array.getElem?_setIfInBounds, hlt]⟩
                · obtain ⟨y, hy⟩ := HE3.out j hj
                  exact ⟨y, by rw [Array.getElem?_setIfInBounds_ne (fun e => hji e.symm)]; exact hy⟩
              case measure => simp [intOf]; omega
          · obtain rfl : i = n := by omega
            clear hin HHA
            obtain ⟨H, hH⟩ : ∃ H, S.op.length = H := ⟨_, rfl⟩
            have HH1 : Aside0 (Calls Try.prog 22 #[.pointer (some ⟨Wz.heap.size, 0, none⟩)] wr fun e w' => e = .returned (.int .i64 (H : Int)) ∧ wr = w') := ⟨by rw [← hH]; exact frheld_calls _ _ HSW.out.p⟩
            have HH2 : Aside0 (Calls Try.prog 22 #[.pointer (some ⟨w2.heap.size, 0, none⟩)] wr fun e w' => e = .returned (.int .i64 (H : Int)) ∧ wr = w') := ⟨by rw [← hH]; exact frheld_calls _ _ HSW.out.q⟩
            have HA1 : Aside0 (Calls Try.prog 21 #[.pointer (some ⟨Wz.heap.size, 0, none⟩)] wr fun e w' => e = .returned (.int .i64 (S.pos : Int)) ∧ wr = w') := ⟨frat_calls _ _ HSW.out.p⟩
            have HA2 : Aside0 (Calls Try.prog 21 #[.pointer (some ⟨w2.heap.size, 0, none⟩)] wr fun e w' => e = .returned (.int .i64 (S.pos : Int)) ∧ wr = w') := ⟨frat_calls _ _ HSW.out.q⟩
            clear hH
            go_wp2_with fail
            with_reducible refine HH1.out.mono ?_
            rintro e wy ⟨rfl, rfl⟩
            go_wp2_with fail
            with_reducible refine HH2.out.mono ?_
            rintro e wy ⟨rfl, rfl⟩
            go_wp2_with fail
            with_reducible refine HA1.out.mono ?_
            rintro e wy ⟨rfl, rfl⟩
            go_wp2_with fail
            with_reducible refine HA2.out.mono ?_
            rintro e wy ⟨rfl, rfl⟩
            clear HH1 HH2 HA1 HA2
            go_wp2
            go_loopw [23] (fun v23 w' => ∃ j : Nat, v23 = .int .i64 (j : Int) ∧ j ≤ L ∧ Aside0 (Drawn0 wr w')) (fun v23 _ => L - (intOf v23).toNat)
            case atStart => exact ⟨0, rfl, Nat.zero_le _, ⟨⟨0, rfl⟩⟩⟩
            case round =>
              obtain ⟨j, rfl, hj, HD⟩ := hrel
              obtain ⟨nd0, rfl⟩ := HD.out
              clear HD
              by_cases hjn : j < L
              · have hix : j < outs.length := by rw [HOL.out]; exact hjn
                obtain ⟨x, hx⟩ : ∃ x, outs[j]? = some x := ⟨_, List.getElem?_eq_getElem hix⟩
                have hmem : x ∈ outs := List.mem_of_getElem? hx
                obtain ⟨ad0, A2', k2, e0, _, _, p2, _, _, pl, pC⟩ := at19 (R_reads19 HSW.out.y).2.2 j x hx
                obtain ⟨ad1, A3', k3, e1, _, _, q2, _, _, ql, qC⟩ := at19 (R_reads19 HSW.out.zz).2.2 j x hx
                have HSM : Aside0 (x.by'.length ≤ 1000000000000) := ⟨by have h3 := HBY2.out x hmem; omega⟩
                obtain ⟨lo, hi', by', code, at'⟩ := x
                obtain ⟨Lb, hLb⟩ : ∃ k, by'.length = k := ⟨_, rfl⟩
                have p2' : wr.cell? ⟨(ad0.add (j * 5)).block, (ad0.add (j * 5)).off + 2, none⟩ = some (.slice A2' Lb k2) := by rw [← hLb]; exact p2
                have q2' : wr.cell? ⟨(ad1.add (j * 5)).block, (ad1.add (j * 5)).off + 2, none⟩ = some (.slice A3' Lb k3) := by rw [← hLb]; exact q2
                have PC : Aside0 ((Kd.int .u8).C wr A2' Lb by' ∧ Lb ≤ k2) := ⟨by rw [← hLb]; exact ⟨pC, pl⟩⟩
                have QC : Aside0 ((Kd.int .u8).C wr A3' Lb by' ∧ Lb ≤ k3) := ⟨by rw [← hLb]; exact ⟨qC, ql⟩⟩
                have HLB := Aside0.mk hLb
                have hjn1 : (j : Int) < (L : Int) := by omega
                clear p2 q2 pl pC ql qC hLb hx hmem hix
                subst e0 e1
                go_wp2
                refine start_ (n := 12) (S := fun w' => w'.cell? ⟨(ad0.add (j * 5)).block, (ad0.add (j * 5)).off + 2, none⟩ = some (.slice A2' Lb k2) ∧ w'.cell? ⟨(ad1.add (j * 5)).block, (ad1.add (j * 5)).off + 2, none⟩ = some (.slice A3' Lb k3)) (ds := []) #[false, false, false, false, false, false, false, false, false, false, false, false] (by kernel_rfl) rfl rfl ⟨p2', q2'⟩ (fun hHeld => ?_)
                refine pure_ (i := 0) (N := some 158) (v := ?_) (a' := ?_) #[true, false, false, false, false, false, false, false, false, false, false, false] rfl rfl (by kernel_rfl) (fun _ _ _ h => h) (Or.inl ⟨by rfl, ?_⟩) ?_ ?_
                rotate_left
                · intro w'
                  go_simp
                  with_reducible rfl
                rotate_left
                · simp only [Act.put, List.setIfInBounds_toArray, List.set_cons_zero, List.set_cons_succ, i64_w, i32_w]
                  rfl
                refine pure_ (i := 1) (N := some 159) (v := ?_) (a' := ?_) #[true, true, false, false, false, false, false, false, false, false, false, false] rfl rfl (by kernel_rfl) (fun _ _ _ h => h) (Or.inl ⟨by rfl, ?_⟩) ?_ ?_
                rotate_left
                · intro w'
                  go_simp
                  with_reducible rfl
                rotate_left
                · simp only [Act.put, List.setIfInBounds_toArray, List.set_cons_zero, List.set_cons_succ, i64_w, i32_w]
                  rfl
                refine pure_ (i := 2) (N := some 160) (v := ?_) (a' := ?_) #[true, true, true, false, false, false, false, false, false, false, false, false] rfl rfl (by kernel_rfl) (fun _ _ _ h => h) (Or.inl ⟨by rfl, ?_⟩) ?_ ?_
                rotate_left
                · intro w'
                  go_simp
                  with_reducible rfl
                rotate_left
                · simp only [Act.put, List.setIfInBounds_toArray, List.set_cons_zero, List.set_cons_succ, i64_w, i32_w]
                  rfl
                refine pure_ (i := 3) (N := some 161) (v := ?_) (a' := ?_) #[true, true, true, true, false, false, false, false, false, false, false, false] rfl rfl (by kernel_rfl) (fun _ _ _ h => h) (Or.inl ⟨by rfl, ?_⟩) ?_ ?_
                rotate_left
                · intro w'
                  go_simp
                  with_reducible rfl
                rotate_left
                · simp only [Act.put, List.setIfInBounds_toArray, List.set_cons_zero, List.set_cons_succ, i64_w, i32_w]
                  rfl
                refine pure_ (i := 5) (N := some 163) (v := ?_) (a' := ?_) #[true, true, true, true, false, true, false, false, false, false, false, false] rfl rfl (by kernel_rfl) (fun _ _ _ h => h) (Or.inl ⟨by rfl, ?_⟩) ?_ ?_
                rotate_left
                · intro w'
                  go_simp
                  with_reducible rfl
                rotate_left
                · simp only [Act.put, List.setIfInBounds_toArray, List.set_cons_zero, List.set_cons_succ, i64_w, i32_w]
                  rfl
                refine pure_ (i := 6) (N := some 164) (v := ?_) (a' := ?_) #[true, true, true, true, false, true, true, false, false, false, false, false] rfl rfl (by kernel_rfl) (fun _ _ _ h => h) (Or.inl ⟨by rfl, ?_⟩) ?_ ?_
                rotate_left
                · intro w'
                  go_simp
                  with_reducible rfl
                rotate_left
                · simp only [Act.put, List.setIfInBounds_toArray, List.set_cons_zero, List.set_cons_succ, i64_w, i32_w]
                  rfl
                refine pure_ (i := 7) (N := some 165) (v := ?_) (a' := ?_) #[true, true, true, true, false, true, true, true, false, false, false, false] rfl rfl (by kernel_rfl) (fun _ _ _ h => h) (Or.inl ⟨by rfl, ?_⟩) ?_ ?_
                rotate_left
                · intro w'
                  go_simp
                  with_reducible rfl
                rotate_left
                · simp only [Act.put, List.setIfInBounds_toArray, List.set_cons_zero, List.set_cons_succ, i64_w, i32_w]
                  rfl
                refine pure_ (i := 8) (N := some 166) (v := ?_) (a' := ?_) #[true, true, true, true, false, true, true, true, true, false, false, false] rfl rfl (by kernel_rfl) (fun _ _ _ h => h) (Or.inl ⟨by rfl, ?_⟩) ?_ ?_
                rotate_left
                · intro w'
                  go_simp
                  with_reducible rfl
                rotate_left
                · simp only [Act.put, List.setIfInBounds_toArray, List.set_cons_zero, List.set_cons_succ, i64_w, i32_w]
                  rfl
                refine take_ (i := 4) (N := some 162) (v := ?_) (a' := ?_) #[true, true, true, true, true, true, true, true, true, false, false, false] rfl rfl (by kernel_rfl) (fun _ _ _ h => h) (Or.inl ⟨by rfl, ?_⟩) hHeld ?_ ?_
                rotate_left
                · rintro w' ⟨s0, s1⟩
                  go_simp
                  with_reducible rfl
                rotate_left
                · simp only [Act.put, List.setIfInBounds_toArray, List.set_cons_zero, List.set_cons_succ, i64_w, i32_w]
                  rfl
                refine take_ (i := 9) (N := some 167) (v := ?_) (a' := ?_) #[true, true, true, true, true, true, true, true, true, true, false, false] rfl rfl (by kernel_rfl) (fun _ _ _ h => h) (Or.inl ⟨by rfl, ?_⟩) hHeld ?_ ?_
                rotate_left
                · rintro w' ⟨s0, s1⟩
                  go_simp
                  with_reducible rfl
                rotate_left
                · simp only [Act.put, List.setIfInBounds_toArray, List.set_cons_zero, List.set_cons_succ, i64_w, i32_w]
                  rfl
                refine one_ (i := 10) (N := some 168) #[true, true, true, true, true, true, true, true, true, true, true, false] rfl rfl (by kernel_rfl) (by decide) (fun K hK => ?_)
                refine goes_ Try.func25 (by kernel_rfl) rfl #[.slice A2' Lb k2, .slice A3' Lb k3] (by rfl) rfl rfl (by first | (simp only [List.map_toArray, List.map_cons, List.map_nil]; done) | (simp only [List.map_toArray, List.map_cons, List.map_nil]; rfl) | simp) ?_
                with_reducible refine (same19_calls A2' Lb k2 A3' Lb k3 by' HLB.out HLB.out _ (Kd.C_drew (Kd.C_drewN PC.out.1 nd0)) PC.out.2 (Kd.C_drew (Kd.C_drewN QC.out.1 nd0)) QC.out.2 HSM.out).mono ?_
                rintro e w5 ⟨rfl, ⟨nd5, rfl⟩⟩
                refine ⟨_, rfl, ?_⟩
                refine hK.out _ _ ⟨p2', q2'⟩ (fun hHeld => ?_)
                clear hK K
                refine norm_ (a' := ?_) ?_ ?_
                rotate_left
                · show Act.put _ (some 168) _ = _
                  simp only [Act.put, List.setIfInBounds_toArray, List.set_cons_zero, List.set_cons_succ, i64_w, i32_w]
                  rfl
                refine pure_ (i := 11) (N := some 169) (v := ?_) (a' := ?_) #[true, true, true, true, true, true, true, true, true, true, true, true] rfl rfl (by kernel_rfl) (fun _ _ _ h => h) (Or.inl ⟨by rfl, ?_⟩) ?_ ?_
                rotate_left
                · intro w'
                  go_simp
                  with_reducible rfl
                rotate_left
                · simp only [Act.put, List.setIfInBounds_toArray, List.set_cons_zero, List.set_cons_succ, i64_w, i32_w]
                  rfl
                refine done_ (by kernel_rfl) ?_
                go_wp2
                go_roundw
                case rel => exact ⟨j + 1, by go_num, by omega, ⟨by repeat (first | exact Drawn0.refl _ | apply Drawn0.step)⟩⟩
                case measure => simp [intOf]; omega
              · obtain rfl : j = L := by omega
                clear hjn
                have HSX := Aside0.mk (HSW.out.turn ((Chg.refl (fun _ => False) wr).drewN nd0) (fun _ h => h.elim))
                have HA3 : Aside0 (Calls Try.prog 21 #[.pointer (some ⟨Wz.heap.size, 0, none⟩)] (wr.drewN nd0) fun e w' => e = .returned (.int .i64 (S.pos : Int)) ∧ wr.drewN nd0 = w') := ⟨frat_calls _ _ HSX.out.p⟩
                clear HSW
                go_wp2_with fail
                with_reducible refine HA3.out.mono ?_
                rintro e wy ⟨rfl, rfl⟩
                clear HA3
                cases stop with
                | true =>
                  have HST : Aside0 (Calls Try.prog 27 #[.pointer (some ⟨Wz.heap.size, 0, none⟩)] (wr.drewN nd0) fun e w' => e = .returned (.tuple #[]) ∧ FrAt (goneF Wz.heap.size most S.pos (.slice none 0 0) 0) w' ∧ Chg (fun k => k = Wz.heap.size) (wr.drewN nd0) w') := ⟨frstop_calls (ofS Wz.heap.size most v1 S) _ HSX.out.p⟩
                  go_wp2_with fail
                  with_reducible refine HST.out.mono ?_
                  clear HST
                  rintro e w8 ⟨rfl, hf8, hc8⟩
                  obtain ⟨v8, nd8, hf8⟩ : ∃ v8 nd8, FrAt (goneF Wz.heap.size most S.pos v8 nd8) w8 := ⟨_, _, hf8⟩
                  have hz8 := (hc8.block _ (blk_lt HSX.out.z) (fun e => by have := HSX.out.o1; omega)).trans HSX.out.z
                  have hb8 := below_chg HSX.out.bel (Nat.le_refl _) hc8 (fun k hk => by have := HSX.out.o1; have := HSX.out.o5; omega)
                  have ho1 := HSX.out.o1
                  have HO1 : Aside0 (w1.heap.size ≠ Wz.heap.size) := ⟨by omega⟩
                  have HZ8 := Aside0.mk hz8
                  have HB8 := Aside0.mk hb8
                  have HF8 := Aside0.mk hf8
                  have HO5 := Aside0.mk HSX.out.o5
                  clear hz8 hb8 hf8 hc8 ho1 HSX
                  have HFE : Aside0 (Calls Try.prog 18 #[.pointer (some ⟨Wz.heap.size, 0, none⟩), .slice (some ⟨w8.heap.size, 0, none⟩) 1 1] (w8.alloc (.cells #[.int .u8 77] 5)) fun e w' => e = .returned (.tuple #[.slice none 0 0, .int .i64 28]) ∧ w8.alloc (.cells #[.int .u8 77] 5) = w') := ⟨frfeed_ended (goneF Wz.heap.size most S.pos v8 nd8) _ 1 1 _ (HF8.out.alloc _) rfl⟩
                  have HCE : Aside0 (Calls Try.prog 23 #[.pointer (some ⟨Wz.heap.size, 0, none⟩)] (w8.alloc (.cells #[.int .u8 77] 5)) fun e w' => e = .returned (.tuple #[.agg #[.int .i64 0, .int .i64 0, .slice none 0 0, .int .i64 0, .int .i64 0], .bool false, .int .i64 28]) ∧ Below (w8.alloc (.cells #[.int .u8 77] 5)).heap.size (w8.alloc (.cells #[.int .u8 77] 5)) w') := ⟨frclose_ended (goneF Wz.heap.size most S.pos v8 nd8) _ (HF8.out.alloc _) rfl⟩
                  go_wp2_with fail
                  with_reducible refine HFE.out.mono ?_
                  clear HFE
                  rintro e w9 ⟨rfl, rfl⟩
                  go_wp2_with fail
                  with_reducible refine HCE.out.mono ?_
                  clear HCE
                  rintro e w9 ⟨rfl, hb9⟩
                  have hz9 := blk_below (blk_alloc HZ8.out (.cells #[.int .u8 77] 5)) hb9
                  have hbb9 := below_step (below_alloc HB8.out (.cells #[.int .u8 77] 5)) hb9
                  have hf9 := (HF8.out.alloc (.cells #[.int .u8 77] 5)).below hb9
                  have hf10 := hf9.step ((((((Chg.refl (fun k => k = w1.heap.size) w9).set1 0 (.int .i64 0)).set1 1 (.int .i64 0)).set1 2 (.slice none 0 0)).set1 3 (.int .i64 0)).set1 4 (.int .i64 0)) (fun k hk e => by
                    rcases hk with hk | hk
                    · exact HO1.out (e.symm.trans hk)
                    · exact absurd hk (Kd.R_ne hf9.row (by rw [e]; exact hz9) (by decide)))
                  have hb10 := below_chg hbb9 (Nat.le_refl _) ((((((Chg.refl (fun k => k = w1.heap.size) w9).set1 0 (.int .i64 0)).set1 1 (.int .i64 0)).set1 2 (.slice none 0 0)).set1 3 (.int .i64 0)).set1 4 (.int .i64 0)) (fun k hk => by have := HO5.out; omega)
                  have HB10 := Aside0.mk hb10
                  have HAT : Aside0 (Calls Try.prog 21 #[.pointer (some ⟨Wz.heap.size, 0, none⟩)] (((((w9.setCell ⟨w1.heap.size, 0, none⟩ (.int .i64 0)).setCell ⟨w1.heap.size, 1, none⟩ (.int .i64 0)).setCell ⟨w1.heap.size, 2, none⟩ (.slice none 0 0)).setCell ⟨w1.heap.size, 3, none⟩ (.int .i64 0)).setCell ⟨w1.heap.size, 4, none⟩ (.int .i64 0)) fun e w' => e = .returned (.int .i64 (S.pos : Int)) ∧ (((((w9.setCell ⟨w1.heap.size, 0, none⟩ (.int .i64 0)).setCell ⟨w1.heap.size, 1, none⟩ (.int .i64 0)).setCell ⟨w1.heap.size, 2, none⟩ (.slice none 0 0)).setCell ⟨w1.heap.size, 3, none⟩ (.int .i64 0)).setCell ⟨w1.heap.size, 4, none⟩ (.int .i64 0)) = w') := ⟨frat_calls _ _ hf10⟩
                  have HHE : Aside0 (Calls Try.prog 22 #[.pointer (some ⟨Wz.heap.size, 0, none⟩)] (((((w9.setCell ⟨w1.heap.size, 0, none⟩ (.int .i64 0)).setCell ⟨w1.heap.size, 1, none⟩ (.int .i64 0)).setCell ⟨w1.heap.size, 2, none⟩ (.slice none 0 0)).setCell ⟨w1.heap.size, 3, none⟩ (.int .i64 0)).setCell ⟨w1.heap.size, 4, none⟩ (.int .i64 0)) fun e w' => e = .returned (.int .i64 0) ∧ (((((w9.setCell ⟨w1.heap.size, 0, none⟩ (.int .i64 0)).setCell ⟨w1.heap.size, 1, none⟩ (.int .i64 0)).setCell ⟨w1.heap.size, 2, none⟩ (.slice none 0 0)).setCell ⟨w1.heap.size, 3, none⟩ (.int .i64 0)).setCell ⟨w1.heap.size, 4, none⟩ (.int .i64 0)) = w') := ⟨frheld_calls _ _ hf10⟩
                  have zf0 := blk_frozen hz9 0
                  have zf1 := blk_frozen hz9 1
                  have zf2 := blk_frozen hz9 2
                  have zf3 := blk_frozen hz9 3
                  have zf4 := blk_frozen hz9 4
                  have zc0 := (blk_cell hz9 0).trans rfl
                  have zc1 := (blk_cell hz9 1).trans rfl
                  have zc2 := (blk_cell hz9 2).trans rfl
                  have zc3 := (blk_cell hz9 3).trans rfl
                  have zc4 := (blk_cell hz9 4).trans rfl
                  clear hb9 hz9 hbb9 hf9 hf10 hb10 HF8 HZ8 HB8
                  go_wp2_with fail
                  with_reducible refine HAT.out.mono ?_
                  rintro e wy ⟨rfl, rfl⟩
                  go_wp2_with fail
                  with_reducible refine HHE.out.mono ?_
                  rintro e wy ⟨rfl, rfl⟩
                  go_wp2_with fail
                  with_reducible refine (awake19_calls _).mono ?_
                  rintro e w11 ⟨rfl, hb11⟩
                  go_wp2
                  go_ret
                  exact ⟨rfl, below_step HB10.out hb11⟩
                | false =>
                  have HST := Aside0.mk (close_gone Wz.heap.size most v1 S (wr.drewN nd0) HOK.out HSX.out.p)
                  go_wp2_with fail
                  with_reducible refine HST.out.mono ?_
                  clear HST
                  rintro e w8 ⟨⟨ga, gb, gc, gd, gq, gr, rfl⟩, ⟨v8, nd8, hf8, _⟩, hc8⟩
                  have hz8 := (hc8.block _ (blk_lt HSX.out.z) (fun e => by have := HSX.out.o1; omega)).trans HSX.out.z
                  have hb8 := below_chg HSX.out.bel (Nat.le_refl _) hc8 (fun k hk => by have := HSX.out.o1; have := HSX.out.o5; omega)
                  have ho1 := HSX.out.o1
                  have HO1 : Aside0 (w1.heap.size ≠ Wz.heap.size) := ⟨by omega⟩
                  have HZ8 := Aside0.mk hz8
                  have HB8 := Aside0.mk hb8
                  have HF8 := Aside0.mk hf8
                  have HO5 := Aside0.mk HSX.out.o5
                  clear hz8 hb8 hf8 hc8 ho1 HSX
                  have HFE : Aside0 (Calls Try.prog 18 #[.pointer (some ⟨Wz.heap.size, 0, none⟩), .slice (some ⟨w8.heap.size, 0, none⟩) 1 1] (w8.alloc (.cells #[.int .u8 77] 5)) fun e w' => e = .returned (.tuple #[.slice none 0 0, .int .i64 28]) ∧ w8.alloc (.cells #[.int .u8 77] 5) = w') := ⟨frfeed_ended (goneF Wz.heap.size most S.pos v8 nd8) _ 1 1 _ (HF8.out.alloc _) rfl⟩
                  have HCE : Aside0 (Calls Try.prog 23 #[.pointer (some ⟨Wz.heap.size, 0, none⟩)] (w8.alloc (.cells #[.int .u8 77] 5)) fun e w' => e = .returned (.tuple #[.agg #[.int .i64 0, .int .i64 0, .slice none 0 0, .int .i64 0, .int .i64 0], .bool false, .int .i64 28]) ∧ Below (w8.alloc (.cells #[.int .u8 77] 5)).heap.size (w8.alloc (.cells #[.int .u8 77] 5)) w') := ⟨frclose_ended (goneF Wz.heap.size most S.pos v8 nd8) _ (HF8.out.alloc _) rfl⟩
                  go_wp2_with fail
                  with_reducible refine HFE.out.mono ?_
                  clear HFE
                  rintro e w9 ⟨rfl, rfl⟩
                  go_wp2_with fail
                  with_reducible refine HCE.out.mono ?_
                  clear HCE
                  rintro e w9 ⟨rfl, hb9⟩
                  have hz9 := blk_below (blk_alloc HZ8.out (.cells #[.int .u8 77] 5)) hb9
                  have hbb9 := below_step (below_alloc HB8.out (.cells #[.int .u8 77] 5)) hb9
                  have hf9 := (HF8.out.alloc (.cells #[.int .u8 77] 5)).below hb9
                  have hf10 := hf9.step ((((((Chg.refl (fun k => k = w1.heap.size) w9).set1 0 (.int .i64 0)).set1 1 (.int .i64 0)).set1 2 (.slice none 0 0)).set1 3 (.int .i64 0)).set1 4 (.int .i64 0)) (fun k hk e => by
                    rcases hk with hk | hk
                    · exact HO1.out (e.symm.trans hk)
                    · exact absurd hk (Kd.R_ne hf9.row (by rw [e]; exact hz9) (by decide)))
                  have hb10 := below_chg hbb9 (Nat.le_refl _) ((((((Chg.refl (fun k => k = w1.heap.size) w9).set1 0 (.int .i64 0)).set1 1 (.int .i64 0)).set1 2 (.slice none 0 0)).set1 3 (.int .i64 0)).set1 4 (.int .i64 0)) (fun k hk => by have := HO5.out; omega)
                  have HB10 := Aside0.mk hb10
                  have HAT : Aside0 (Calls Try.prog 21 #[.pointer (some ⟨Wz.heap.size, 0, none⟩)] (((((w9.setCell ⟨w1.heap.size, 0, none⟩ (.int .i64 0)).setCell ⟨w1.heap.size, 1, none⟩ (.int .i64 0)).setCell ⟨w1.heap.size, 2, none⟩ (.slice none 0 0)).setCell ⟨w1.heap.size, 3, none⟩ (.int .i64 0)).setCell ⟨w1.heap.size, 4, none⟩ (.int .i64 0)) fun e w' => e = .returned (.int .i64 (S.pos : Int)) ∧ (((((w9.setCell ⟨w1.heap.size, 0, none⟩ (.int .i64 0)).setCell ⟨w1.heap.size, 1, none⟩ (.int .i64 0)).setCell ⟨w1.heap.size, 2, none⟩ (.slice none 0 0)).setCell ⟨w1.heap.size, 3, none⟩ (.int .i64 0)).setCell ⟨w1.heap.size, 4, none⟩ (.int .i64 0)) = w') := ⟨frat_calls _ _ hf10⟩
                  have HHE : Aside0 (Calls Try.prog 22 #[.pointer (some ⟨Wz.heap.size, 0, none⟩)] (((((w9.setCell ⟨w1.heap.size, 0, none⟩ (.int .i64 0)).setCell ⟨w1.heap.size, 1, none⟩ (.int .i64 0)).setCell ⟨w1.heap.size, 2, none⟩ (.slice none 0 0)).setCell ⟨w1.heap.size, 3, none⟩ (.int .i64 0)).setCell ⟨w1.heap.size, 4, none⟩ (.int .i64 0)) fun e w' => e = .returned (.int .i64 0) ∧ (((((w9.setCell ⟨w1.heap.size, 0, none⟩ (.int .i64 0)).setCell ⟨w1.heap.size, 1, none⟩ (.int .i64 0)).setCell ⟨w1.heap.size, 2, none⟩ (.slice none 0 0)).setCell ⟨w1.heap.size, 3, none⟩ (.int .i64 0)).setCell ⟨w1.heap.size, 4, none⟩ (.int .i64 0)) = w') := ⟨frheld_calls _ _ hf10⟩
                  have zf0 := blk_frozen hz9 0
                  have zf1 := blk_frozen hz9 1
                  have zf2 := blk_frozen hz9 2
                  have zf3 := blk_frozen hz9 3
                  have zf4 := blk_frozen hz9 4
                  have zc0 := (blk_cell hz9 0).trans rfl
                  have zc1 := (blk_cell hz9 1).trans rfl
                  have zc2 := (blk_cell hz9 2).trans rfl
                  have zc3 := (blk_cell hz9 3).trans rfl
                  have zc4 := (blk_cell hz9 4).trans rfl
                  clear hb9 hz9 hbb9 hf9 hf10 hb10 HF8 HZ8 HB8
                  go_wp2_with fail
                  with_reducible refine HAT.out.mono ?_
                  rintro e wy ⟨rfl, rfl⟩
                  go_wp2_with fail
                  with_reducible refine HHE.out.mono ?_
                  rintro e wy ⟨rfl, rfl⟩
                  go_wp2_with fail
                  with_reducible refine (awake19_calls _).mono ?_
                  rintro e w11 ⟨rfl, hb11⟩
                  go_wp2
                  go_ret
                  exact ⟨rfl, below_step HB10.out hb11⟩
namespace chunkStops
open Go.ChangeShapes Go.WideShapes Go.ChangeAt Go.RowKit
open Go.ChangeMaps (open_string shut_string)
theorem own : ownKnob Try.prog.godebug = none := by kernel_rfl
theorem laidOut : laidOutB Try.prog = true := by kernel_rfl
set_option maxRecDepth 100000 in
theorem lifted (os : Os) (started : os.Started) (H : Type) (enc : TypeId × Value → H) :
    ReturnsInHanded {} Try.checked os 6 .any (Rows.chunkStopsSpec.pre6 enc Try.prog Try.f6 Rows.chunkStopsRow.domain false) (Rows.chunkStopsSpec.post enc Try.prog Try.f6 false true false false) := by
  refine returnsInHanded_of_change_sized (C := Try.checked) own started (by kernel_rfl) Try.func6
    (ChangeSpec.witness6 (enc := enc) (C := Try.checked) false ⟨#[], #[.slice none 0 0, .int .i64 0, .bool false], []⟩ 8 (by kernel_rfl) (by kernel_rfl) (by kernel_rfl) (by kernel_rfl)) ?_
  intro W base args ds gs before hval0 hW hcnd hsz0 _
  have hsz : (DataW.weightsEach Try.prog (Try.f6.params.toList ++ Rows.chunkStopsSpec.plain.varTypes Try.prog) (ds ++ gs)).all (· ≤ reachBytes) = true := hsz0
  have hval : ∀ (j : Nat) t v, Try.f6.params[j]? = some t → args[j]? = some v → Value.okWide Try.prog W .any base t v := hval0
  have hW' := hW
  obtain ⟨p, q, hA0, hV, rfl, hfz, hnd⟩ := hW
  have hA : DataW.TrodAll enc Try.prog W 0 (fun _ => true) true Try.f6.params.toList args.toList ds p := hA0
  rw [Try.params6] at hA hval hsz
  obtain ⟨v0, vs0, d0, ds0, p0, q0, hargs, rfl, rfl, h0, r0⟩ := trodAll_cons hA
  obtain ⟨v1, vs1, d1, ds1, p1, q1, rfl, rfl, rfl, h1, r1⟩ := trodAll_cons r0
  obtain ⟨v2, vs2, d2, ds2, p2, q2, rfl, rfl, rfl, h2, r2⟩ := trodAll_cons r1
  obtain ⟨rfl, rfl, rfl⟩ := trodAll_nil r2
  obtain rfl : args = #[v0, v1, v2] := by cases args; simp_all
  obtain ⟨rfl, rfl⟩ := trodVars_none hV
  obtain ⟨a0, len0, cap0, rfl⟩ := okWide_slice Try.underlying22 (hval 0 22 v0 rfl rfl)
  have k0 := h0
  have lt0 : ∀ x ∈ p0, x.block < W.heap.size := by obtain ⟨m, hm⟩ := k0; exact DataW.trod_lt m _ _ _ hm
  have y0 : len0 * 1 ≤ 140737488351232 := sized_ints hsz (j := 0) (t := 22) rfl rfl Try.underlying22 Try.underlying5 (by kernel_rfl) (by kernel_rfl) h0
  obtain ⟨l0, c0, b0, e0⟩ := open_row Try.underlying22 Try.underlying5 (by kernel_rfl) (by omega) h0
  obtain rfl := c0.1.symm
  obtain ⟨a1, rfl, rfl, rfl, w1⟩ := open_int Try.underlying3 (hval 1 3 v1 rfl rfl) h1
  obtain ⟨a2, rfl, rfl, rfl⟩ := open_bool Try.underlying4 (hval 2 4 v2 rfl rfl) h2
  clear hA0 hval0 hsz0 hsz
  refine (chunkStops_walk a0 cap0 l0 a1 a2 W c0 b0 y0 e0 (bounds_i64 w1)).mono fun e W' ⟨he, bel⟩ => ?_
  subst he
  exact ⟨_, rfl, _, _, _, [], _, [], hW', trodAll_mk1 (shut_bool Try.underlying4 _), (trodAll_cons_mk (Below.trod laidOut (by kernel_rfl) (of_decide_eq_true (by kernel_rfl)) k0 bel lt0) (trodAll_cons_mk (shut_int Try.underlying3 w1) (trodAll_cons_mk (shut_bool Try.underlying4 _) trodAll_mk0))), rfl, bel.frame _, fun h => by cases h⟩
theorem over : Rows.chunkStopsRow.holds Try.pinned (OpenSpec.ofChange Rows.chunkStopsSpec) :=
  OpenClaim.holds_of_wide 6 Try.f6 rfl rfl rfl rfl rfl rfl rfl ⟨rfl, rfl, rfl, rfl, rfl⟩ rfl rfl rfl rfl rfl (by kernel_rfl) Try.func6 (by kernel_rfl)
    (of_decide_eq_true (by kernel_rfl)) (by unfold Func.isWrapper; first | (rw [if_pos (by decide +kernel)]; kernel_rfl) | (rw [if_neg (by decide +kernel)]; exact ⟨rfl, rfl⟩))
    (fun os started H enc _ => lifted os started H enc)
theorem proved : Rows.ChunkStopsSaid := over
end chunkStops
/-- The row, under a short name, for the claim. -/
theorem chunkStops_holds : Rows.ChunkStopsSaid := chunkStops.proved
#print axioms chunkStops_holds
end Go.Proofs.Ytmbfjaogimkncaa
