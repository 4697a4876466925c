/- The law's awake: the chapter's examples; no condition. -/
import Derived.Test.YtmbfjaogimkncaaSame19
namespace Go.Proofs.Ytmbfjaogimkncaa
open Go.RowKit Go.Proofs.YtmbfjaogimkncaaW.PrintWords Go.Proofs.YtmbfjaogimkncaaW.PrintLast Go.Proofs.YtmbfjaogimkncaaW.PrintMore
open PChunkFeeds (S40 S42 S45 k40 k42 k45 rd_T42 rd_T45)
set_option linter.unusedVariables false
set_option linter.unusedSimpArgs false
theorem below_chg {B : Nat} {S : Nat → Prop} {w w1 w2 : World} (hb : Below B w w1) (hB : B ≤ w.heap.size) (hc : Chg S w1 w2) (hs : ∀ k, S k → B ≤ k) : Below B w w2 :=
  ⟨hc.os.trans hb.os, hc.tape.trans hb.tape, hc.output.trans hb.output, Nat.le_trans hb.size hc.size, fun k hk => (hc.block k (Nat.lt_of_lt_of_le hk (Nat.le_trans hB hb.size)) (fun e => by have := hs k e; omega)).trans (hb.block k hk)⟩
theorem R_reads19 {w : World} {ok : Nat → Prop} {A : Option Addr} {n c : Nat} {xs : List FX} (h : k42.R 42 w 0 ok (.slice A n c) (xs.map FX.s)) : xs.length = n ∧ n ≤ c ∧ k42.C w A n (xs.map FX.s) := by
  obtain ⟨A', c', hv, hc', hC⟩ := Kd.R_reads h
  injection hv with h1 h2 h3
  rw [List.length_map] at h2 hc' hC
  subst h1 h2 h3
  exact ⟨rfl, hc', hC⟩
/-- A frame of a row of frames. -/
theorem at19 {w : World} {A : Option Addr} {n : Nat} {xs : List FX} (h : k42.C w A n (xs.map FX.s)) (i : Nat) (x : FX) (hx : xs[i]? = some x) : ∃ ad A2 c2, A = some ad ∧ w.cell? (ad.add (i * 5)) = some (.int .i64 x.lo) ∧ w.cell? ⟨(ad.add (i * 5)).block, (ad.add (i * 5)).off + 1, none⟩ = some (.int .i64 x.hi) ∧ w.cell? ⟨(ad.add (i * 5)).block, (ad.add (i * 5)).off + 2, none⟩ = some (.slice A2 x.by'.length c2) ∧ w.cell? ⟨(ad.add (i * 5)).block, (ad.add (i * 5)).off + 3, none⟩ = some (.int .i64 x.code) ∧ w.cell? ⟨(ad.add (i * 5)).block, (ad.add (i * 5)).off + 4, none⟩ = some (.int .i64 x.at') ∧ x.by'.length ≤ c2 ∧ (Kd.int .u8).C w A2 x.by'.length x.by' := by
  obtain ⟨hi, hxx⟩ := List.getElem?_eq_some_iff.1 hx
  have hn : xs.length = n := by have := h.1; rwa [List.length_map] at this
  obtain ⟨ad0, A2, c2, e0, p0, p1, p2, p3, p4, pl, pC⟩ := PChunkFeeds.at_T42 h (i : Int) (by omega) (by omega)
  rw [rd42 xs i hi, hxx] at p0 p1 p2 p3 p4 pl pC
  rw [Int.toNat_natCast] at p0 p1 p2 p3 p4
  exact ⟨ad0, A2, c2, e0, p0, p1, p2, p3, p4, pl, pC⟩
theorem cell_al {w : World} {p : Addr} {v : Value} (o : Obj) (h : w.cell? p = some v) : (w.alloc o).cell? p = some v := by
  obtain ⟨o', ho, _⟩ := not_walk_of_cell h
  exact (World.cell?_of_block (Below.heap_alloc w o p.block (Array.getElem?_eq_some_iff.1 ho).1)).trans h
theorem lit19 {w : World} (e : TypeId) (xs : List Int) (hl : xs.length ≤ 9223372036854775807) : (Kd.int .u8).C (w.alloc (.cells (nums .u8 xs).toArray e)) (some ⟨w.heap.size, 0, none⟩) xs.length xs := by
  obtain ⟨A, c, e1, _, h⟩ := Kd.R_reads (R_lit_u8 (w := w) (base := 0) e (Nat.zero_le _) xs hl)
  injection e1 with e1
  subst e1
  exact h
theorem fr_of {f : Fr} {S : FS} {g : Nat} {most : Int} (h1 : f.g = g) (h2 : f.most = most) (h3 : f.fs = S) : f = ⟨g, most, S.pos, f.v, S.op, S.need, S.ended⟩ := by
  subst h1 h2 h3
  rfl
def ofS (g : Nat) (most : Int) (v : Value) (S : FS) : Fr := ⟨g, most, S.pos, v, S.op, S.need, S.ended⟩
/-- What Feed leaves. -/
structure Fed (f : Fr) (S : FS) (outs : List FX) (w w' : World) (v v' : Value) (F : Nat → Prop) : Prop where
  row : k42.R 42 w' 0 F v (outs.map FX.s)
  fr : FrAt (ofS f.g f.most v' S) w'
  off : ∀ k, F k → ¬ (ofS f.g f.most v' S).F k ∧ (f.F k ∨ w.heap.size ≤ k)
  own : ∀ k, (ofS f.g f.most v' S).F k → f.F k ∨ w.heap.size ≤ k
  chg : Chg f.F w w'
theorem frfeed2 (f : Fr) (A : Option Addr) (n c : Nat) (xs : List Int) (w : World) (S : FS) (outs : List FX) (hS : frun f.most f.fs xs = (S, outs)) (h : FrAt f w) (he : f.ended = false) (hok : FSok f.most f.fs) (h0 : 0 ≤ f.most) (hm : f.most ≤ 1048576) (hC : (Kd.int .u8).C w A n xs) (hx : ∀ x ∈ xs, 0 ≤ x ∧ x < 256) (hbig : f.pos + xs.length ≤ 1000000000000) :
    Calls Try.prog 18 #[.pointer (some ⟨f.g, 0, none⟩), .slice A n c] w fun e w' => ∃ A' c' v' F, e = .returned (.tuple #[.slice A' outs.length c', .int .i64 0]) ∧ outs.length ≤ c' ∧ Fed f S outs w w' (.slice A' outs.length c') v' F := by
  refine (frfeed_calls f A n c xs w h he hok h0 hm hC hx hbig).mono ?_
  rintro e w' ⟨v, f', F, h1, h2, h3, h4, h5, h6, h7, h8, h9⟩
  rw [hS] at h2 h6
  obtain ⟨A', c', hv, hc', _⟩ := Kd.R_reads h2
  rw [List.length_map] at hv hc'
  subst hv
  have hf := fr_of h4 h5 h6
  have hf2 : f' = ofS f.g f.most f'.v S := hf
  refine ⟨A', c', f'.v, F, h1, hc', ⟨h2, by rw [← hf2]; exact h3, fun k hk => ?_, fun k hk => ?_, h9⟩⟩
  · rw [← hf2]; exact h7 k hk
  · rw [← hf2] at hk; exact h8 k hk
theorem run19_a : frun 5 ⟨0, [], 0, false⟩ [77, 71, 1, 1] = (⟨4, [77, 71, 1, 1], 9, false⟩, []) := by kernel_rfl
theorem run19_b : frun 5 ⟨4, [77, 71, 1, 1], 9, false⟩ [9, 0, 0, 0, 0, 77, 72] = (⟨11, [], 0, true⟩, [⟨0, 9, [77, 71, 1, 1, 9, 0, 0, 0, 0], 0, 0⟩, ⟨9, 11, [], 22, 10⟩]) := by kernel_rfl
theorem run19_c : frun 5 ⟨0, [], 0, false⟩ [77, 71, 1, 6] = (⟨4, [], 0, true⟩, [⟨0, 4, [], 12, 3⟩]) := by kernel_rfl
theorem fed_a (g : Nat) (w : World) (h : FrAt ⟨g, 5, 0, .slice none 0 0, [], 0, false⟩ w) : Calls Try.prog 18 #[.pointer (some ⟨g, 0, none⟩), .slice (some ⟨w.heap.size, 0, none⟩) 4 4] (w.alloc (.cells #[.int .u8 77, .int .u8 71, .int .u8 1, .int .u8 1] 5)) fun e w' =>
    ∃ A' c' v' F, e = .returned (.tuple #[.slice A' 0 c', .int .i64 0]) ∧ 0 ≤ c' ∧ Fed ⟨g, 5, 0, .slice none 0 0, [], 0, false⟩ ⟨4, [77, 71, 1, 1], 9, false⟩ [] (w.alloc (.cells #[.int .u8 77, .int .u8 71, .int .u8 1, .int .u8 1] 5)) w' (.slice A' 0 c') v' F :=
  frfeed2 ⟨g, 5, 0, .slice none 0 0, [], 0, false⟩ (some ⟨w.heap.size, 0, none⟩) 4 4 [77, 71, 1, 1] (w.alloc (.cells #[.int .u8 77, .int .u8 71, .int .u8 1, .int .u8 1] 5)) ⟨4, [77, 71, 1, 1], 9, false⟩ [] run19_a (h.alloc _) rfl (FSok.new 5 (by decide) 0) (show (0 : Int) ≤ 5 by decide) (show (5 : Int) ≤ 1048576 by decide) (lit19 5 [77, 71, 1, 1] (by decide)) (by decide) (show 0 + 4 ≤ 1000000000000 by decide)
theorem fed_b (g : Nat) (v : Value) (w : World) (h : FrAt ⟨g, 5, 4, v, [77, 71, 1, 1], 9, false⟩ w) : Calls Try.prog 18 #[.pointer (some ⟨g, 0, none⟩), .slice (some ⟨w.heap.size, 0, none⟩) 7 7] (w.alloc (.cells #[.int .u8 9, .int .u8 0, .int .u8 0, .int .u8 0, .int .u8 0, .int .u8 77, .int .u8 72] 5)) fun e w' =>
    ∃ A' c' v' F, e = .returned (.tuple #[.slice A' 2 c', .int .i64 0]) ∧ 2 ≤ c' ∧ Fed ⟨g, 5, 4, v, [77, 71, 1, 1], 9, false⟩ ⟨11, [], 0, true⟩ [⟨0, 9, [77, 71, 1, 1, 9, 0, 0, 0, 0], 0, 0⟩, ⟨9, 11, [], 22, 10⟩] (w.alloc (.cells #[.int .u8 9, .int .u8 0, .int .u8 0, .int .u8 0, .int .u8 0, .int .u8 77, .int .u8 72] 5)) w' (.slice A' 2 c') v' F :=
  frfeed2 ⟨g, 5, 4, v, [77, 71, 1, 1], 9, false⟩ (some ⟨w.heap.size, 0, none⟩) 7 7 [9, 0, 0, 0, 0, 77, 72] (w.alloc (.cells #[.int .u8 9, .int .u8 0, .int .u8 0, .int .u8 0, .int .u8 0, .int .u8 77, .int .u8 72] 5)) ⟨11, [], 0, true⟩ [⟨0, 9, [77, 71, 1, 1, 9, 0, 0, 0, 0], 0, 0⟩, ⟨9, 11, [], 22, 10⟩] run19_b (h.alloc _) rfl ⟨fun h => absurd h (show ¬ (9 : Nat) = 0 by decide), fun _ => (show 4 < 9 by decide), (show (9 : Int) ≤ 5 + 10 by decide), fun h => (by cases h)⟩ (show (0 : Int) ≤ 5 by decide) (show (5 : Int) ≤ 1048576 by decide) (lit19 5 [9, 0, 0, 0, 0, 77, 72] (by decide)) (by decide) (show 4 + 7 ≤ 1000000000000 by decide)
theorem fed_c (g : Nat) (w : World) (h : FrAt ⟨g, 5, 0, .slice none 0 0, [], 0, false⟩ w) : Calls Try.prog 18 #[.pointer (some ⟨g, 0, none⟩), .slice (some ⟨w.heap.size, 0, none⟩) 4 4] (w.alloc (.cells #[.int .u8 77, .int .u8 71, .int .u8 1, .int .u8 6] 5)) fun e w' =>
    ∃ A' c' v' F, e = .returned (.tuple #[.slice A' 1 c', .int .i64 0]) ∧ 1 ≤ c' ∧ Fed ⟨g, 5, 0, .slice none 0 0, [], 0, false⟩ ⟨4, [], 0, true⟩ [⟨0, 4, [], 12, 3⟩] (w.alloc (.cells #[.int .u8 77, .int .u8 71, .int .u8 1, .int .u8 6] 5)) w' (.slice A' 1 c') v' F :=
  frfeed2 ⟨g, 5, 0, .slice none 0 0, [], 0, false⟩ (some ⟨w.heap.size, 0, none⟩) 4 4 [77, 71, 1, 6] (w.alloc (.cells #[.int .u8 77, .int .u8 71, .int .u8 1, .int .u8 6] 5)) ⟨4, [], 0, true⟩ [⟨0, 4, [], 12, 3⟩] run19_c (h.alloc _) rfl (FSok.new 5 (by decide) 0) (show (0 : Int) ≤ 5 by decide) (show (5 : Int) ≤ 1048576 by decide) (lit19 5 [77, 71, 1, 6] (by decide)) (by decide) (show 0 + 4 ≤ 1000000000000 by decide)
attribute [local go_sem high] eq19
set_option maxHeartbeats 8000000 in
set_option maxRecDepth 100000 in
theorem awake19_calls (w : World) : Calls Try.prog 15 #[] w fun e w' => e = .returned (.bool true) ∧ Below w.heap.size w w' := by
  go_enter Try.func15, Try.ntmps15
  go_wp2_with fail
  with_reducible refine (frnew_calls 5 w (by decide) (by decide)).mono ?_
  rintro e w1 ⟨rfl, h1, hb1⟩
  have HF := Aside0.mk h1
  have HB1 := Aside0.mk hb1
  have hlt : w.heap.size < w1.heap.size := blk_lt h1.blk
  have HL1 := Aside0.mk hlt
  clear h1 hb1 hlt
  go_wp2_with fail
  with_reducible refine (fed_a _ _ HF.out).mono ?_
  rintro e w2 ⟨Aa, ca, v2, Fa, rfl, hca, hf⟩
  have HF2 : Aside0 (FrAt ⟨w.heap.size, 5, 4, v2, [77, 71, 1, 1], 9, false⟩ w2) := ⟨hf.fr⟩
  have HO2 : Aside0 (∀ k, (⟨w.heap.size, 5, 4, v2, [77, 71, 1, 1], 9, false⟩ : Fr).F k → w.heap.size ≤ k) := ⟨fun k hk => by
    rcases hf.own k hk with (h | h) | h
    · exact Nat.le_of_eq h.symm
    · cases h
    · have := HL1.out; simp at h; omega⟩
  have HB2 : Aside0 (Below w.heap.size w w2) := ⟨below_chg (below_alloc HB1.out _) (Nat.le_refl _) hf.chg (fun k hk => by rcases hk with h | h; exact Nat.le_of_eq h.symm; cases h)⟩
  have HH : Aside0 (Calls Try.prog 22 #[.pointer (some ⟨w.heap.size, 0, none⟩)] w2 fun e w' => e = .returned (.int .i64 4) ∧ w2 = w') := ⟨frheld_calls _ _ HF2.out⟩
  clear hf HF HB1 HL1
  go_wp2_with fail
  with_reducible refine HH.out.mono ?_
  clear HH
  rintro e wx ⟨rfl, rfl⟩
  go_wp2_with fail
  with_reducible refine (fed_b _ _ _ HF2.out).mono ?_
  rintro e w3 ⟨Ab, cb, v3, Fb, rfl, hcb, hf⟩
  have HB3 : Aside0 (Below w.heap.size w w3) := ⟨below_chg (below_alloc HB2.out _) (Nat.le_refl _) hf.chg HO2.out⟩
  have HR3 := Aside0.mk hf.row
  clear hf HF2 HO2 HB2
  go_wp2_with fail
  with_reducible refine (frnew_calls 5 w3 (by decide) (by decide)).mono ?_
  rintro e w4 ⟨rfl, h1, hb1⟩
  have HF := Aside0.mk h1
  have HB4 := Aside0.mk (below_step HB3.out hb1)
  have HR4 := Aside0.mk (Kd.R_below HR3.out hb1)
  have HS4 : Aside0 (∀ k, Fb k → k < w3.heap.size → k ≠ w3.heap.size) := ⟨fun k _ h e => by omega⟩
  have HR4b := Aside0.mk (Kd.R_mono (Kd.R_bound HR3.out) (ok' := fun k => k < w3.heap.size) (fun k hk => hk.2.2.1))
  have HBB := Aside0.mk hb1
  have HS3 := Aside0.mk HB3.out.size
  clear h1 hb1 HB3 HR3 HR4 HS4
  go_wp2_with fail
  with_reducible refine (fed_c _ _ HF.out).mono ?_
  rintro e w5 ⟨Ac, cc, v5, Fc, rfl, hcc, hf⟩
  have HB5 : Aside0 (Below w.heap.size w w5) := ⟨below_chg (below_alloc HB4.out _) (Nat.le_refl _) hf.chg (fun k hk => by
    rcases hk with h | h
    · have h2 := HBB.out.size
      have h3 := HB4.out.size
      have h4 : w.heap.size ≤ w3.heap.size := HS3.out
      exact Nat.le_trans h4 (Nat.le_of_eq h.symm)
    · cases h)⟩
  have HR5 := Aside0.mk (Kd.R_step (Kd.R_alloc (Kd.R_below HR4b.out HBB.out) (.cells #[.int .u8 77, .int .u8 71, .int .u8 1, .int .u8 6] 5)) (w1 := w5) (fun k hk hl => hf.chg.block k hl (fun h => by
    rcases h with h | h
    · have h2 : k = w3.heap.size := h
      omega
    · cases h)))
  have HC5 := Aside0.mk hf.row
  clear hf HF HB4 HR4b HBB
  have HC50 := Aside0.mk (R_reads19 HR5.out).2.2
  have HC51 := Aside0.mk (R_reads19 HC5.out).2.2
  obtain ⟨ada, Aa, ca, ea, p0, p1, p2, p3, p4, pl, pC⟩ := at19 HC50.out 0 ⟨0, 9, [77, 71, 1, 1, 9, 0, 0, 0, 0], 0, 0⟩ rfl
  rw [Nat.zero_mul, Addr.add_zero'] at p0 p1 p2 p3 p4
  have qa0 : w5.cell? ada = some (.int .i64 0) := p0
  have qa1 : w5.cell? ⟨ada.block, ada.off + 1, none⟩ = some (.int .i64 9) := p1
  have qa2 : w5.cell? ⟨ada.block, ada.off + 2, none⟩ = some (.slice Aa 9 ca) := p2
  have qa3 : w5.cell? ⟨ada.block, ada.off + 3, none⟩ = some (.int .i64 0) := p3
  have qa4 : w5.cell? ⟨ada.block, ada.off + 4, none⟩ = some (.int .i64 0) := p4
  have PCa : Aside0 (9 ≤ ca ∧ (Kd.int .u8).C w5 Aa 9 [77, 71, 1, 1, 9, 0, 0, 0, 0]) := ⟨pl, pC⟩
  clear p0 p1 p2 p3 p4 pl pC
  obtain ⟨adb, Ab, cb, eb, p0, p1, p2, p3, p4, pl, pC⟩ := at19 HC50.out 1 ⟨9, 11, [], 22, 10⟩ rfl
  have qb0 : w5.cell? ⟨adb.block, adb.off + 5, none⟩ = some (.int .i64 9) := p0
  have qb1 : w5.cell? ⟨adb.block, adb.off + 5 + 1, none⟩ = some (.int .i64 11) := p1
  have qbx1 : w5.cell? ⟨adb.block, adb.off + 6, none⟩ = some (.int .i64 11) := p1
  have qb2 : w5.cell? ⟨adb.block, adb.off + 5 + 2, none⟩ = some (.slice Ab 0 cb) := p2
  have qbx2 : w5.cell? ⟨adb.block, adb.off + 7, none⟩ = some (.slice Ab 0 cb) := p2
  have qb3 : w5.cell? ⟨adb.block, adb.off + 5 + 3, none⟩ = some (.int .i64 22) := p3
  have qbx3 : w5.cell? ⟨adb.block, adb.off + 8, none⟩ = some (.int .i64 22) := p3
  have qb4 : w5.cell? ⟨adb.block, adb.off + 5 + 4, none⟩ = some (.int .i64 10) := p4
  have qbx4 : w5.cell? ⟨adb.block, adb.off + 9, none⟩ = some (.int .i64 10) := p4
  have PCb : Aside0 (0 ≤ cb ∧ (Kd.int .u8).C w5 Ab 0 []) := ⟨pl, pC⟩
  clear p0 p1 p2 p3 p4 pl pC
  obtain ⟨adc, Ac, cc, ec, p0, p1, p2, p3, p4, pl, pC⟩ := at19 HC51.out 0 ⟨0, 4, [], 12, 3⟩ rfl
  rw [Nat.zero_mul, Addr.add_zero'] at p0 p1 p2 p3 p4
  have qc0 : w5.cell? adc = some (.int .i64 0) := p0
  have qc1 : w5.cell? ⟨adc.block, adc.off + 1, none⟩ = some (.int .i64 4) := p1
  have qc2 : w5.cell? ⟨adc.block, adc.off + 2, none⟩ = some (.slice Ac 0 cc) := p2
  have qc3 : w5.cell? ⟨adc.block, adc.off + 3, none⟩ = some (.int .i64 12) := p3
  have qc4 : w5.cell? ⟨adc.block, adc.off + 4, none⟩ = some (.int .i64 3) := p4
  have PCc : Aside0 (0 ≤ cc ∧ (Kd.int .u8).C w5 Ac 0 []) := ⟨pl, pC⟩
  clear p0 p1 p2 p3 p4 pl pC
  have qbz0 : (w5.alloc (.cells #[.int .u8 77, .int .u8 71, .int .u8 1, .int .u8 1, .int .u8 9, .int .u8 0, .int .u8 0, .int .u8 0, .int .u8 0] 5)).cell? ⟨adb.block, adb.off + 5, none⟩ = some (.int .i64 9) := (cell_al _ qb0)
  have qbz1 : (w5.alloc (.cells #[.int .u8 77, .int .u8 71, .int .u8 1, .int .u8 1, .int .u8 9, .int .u8 0, .int .u8 0, .int .u8 0, .int .u8 0] 5)).cell? ⟨adb.block, adb.off + 5 + 1, none⟩ = some (.int .i64 11) := (cell_al _ qb1)
  have qbz2 : (w5.alloc (.cells #[.int .u8 77, .int .u8 71, .int .u8 1, .int .u8 1, .int .u8 9, .int .u8 0, .int .u8 0, .int .u8 0, .int .u8 0] 5)).cell? ⟨adb.block, adb.off + 5 + 2, none⟩ = some (.slice Ab 0 cb) := (cell_al _ qb2)
  have qbz3 : (w5.alloc (.cells #[.int .u8 77, .int .u8 71, .int .u8 1, .int .u8 1, .int .u8 9, .int .u8 0, .int .u8 0, .int .u8 0, .int .u8 0] 5)).cell? ⟨adb.block, adb.off + 5 + 3, none⟩ = some (.int .i64 22) := (cell_al _ qb3)
  have qbz4 : (w5.alloc (.cells #[.int .u8 77, .int .u8 71, .int .u8 1, .int .u8 1, .int .u8 9, .int .u8 0, .int .u8 0, .int .u8 0, .int .u8 0] 5)).cell? ⟨adb.block, adb.off + 5 + 4, none⟩ = some (.int .i64 10) := (cell_al _ qb4)
  have qcz0 : (w5.alloc (.cells #[.int .u8 77, .int .u8 71, .int .u8 1, .int .u8 1, .int .u8 9, .int .u8 0, .int .u8 0, .int .u8 0, .int .u8 0] 5)).cell? adc = some (.int .i64 0) := (cell_al _ qc0)
  have qcz1 : (w5.alloc (.cells #[.int .u8 77, .int .u8 71, .int .u8 1, .int .u8 1, .int .u8 9, .int .u8 0, .int .u8 0, .int .u8 0, .int .u8 0] 5)).cell? ⟨adc.block, adc.off + 1, none⟩ = some (.int .i64 4) := (cell_al _ qc1)
  have qcz2 : (w5.alloc (.cells #[.int .u8 77, .int .u8 71, .int .u8 1, .int .u8 1, .int .u8 9, .int .u8 0, .int .u8 0, .int .u8 0, .int .u8 0] 5)).cell? ⟨adc.block, adc.off + 2, none⟩ = some (.slice Ac 0 cc) := (cell_al _ qc2)
  have qcz3 : (w5.alloc (.cells #[.int .u8 77, .int .u8 71, .int .u8 1, .int .u8 1, .int .u8 9, .int .u8 0, .int .u8 0, .int .u8 0, .int .u8 0] 5)).cell? ⟨adc.block, adc.off + 3, none⟩ = some (.int .i64 12) := (cell_al _ qc3)
  have qcz4 : (w5.alloc (.cells #[.int .u8 77, .int .u8 71, .int .u8 1, .int .u8 1, .int .u8 9, .int .u8 0, .int .u8 0, .int .u8 0, .int .u8 0] 5)).cell? ⟨adc.block, adc.off + 4, none⟩ = some (.int .i64 3) := (cell_al _ qc4)
  have hab : adb = ada := by rw [ea] at eb; injection eb with eb; exact eb.symm
  subst hab
  subst ea ec
  clear eb
  go_wp2_with fail
  have HCS : Aside0 (Calls Try.prog 25 #[.slice Aa 9 ca, .slice (some ⟨w5.heap.size, 0, none⟩) 9 9] (w5.alloc (.cells #[.int .u8 77, .int .u8 71, .int .u8 1, .int .u8 1, .int .u8 9, .int .u8 0, .int .u8 0, .int .u8 0, .int .u8 0] 5)) fun e w' => e = .returned (.bool true) ∧ Drawn0 (w5.alloc (.cells #[.int .u8 77, .int .u8 71, .int .u8 1, .int .u8 1, .int .u8 9, .int .u8 0, .int .u8 0, .int .u8 0, .int .u8 0] 5)) w') := ⟨same19_calls Aa 9 ca (some ⟨w5.heap.size, 0, none⟩) 9 9 [77, 71, 1, 1, 9, 0, 0, 0, 0] rfl rfl (w5.alloc (.cells #[.int .u8 77, .int .u8 71, .int .u8 1, .int .u8 1, .int .u8 9, .int .u8 0, .int .u8 0, .int .u8 0, .int .u8 0] 5)) (Kd.C_alloc PCa.out.2 _) PCa.out.1 (lit19 5 [77, 71, 1, 1, 9, 0, 0, 0, 0] (by decide)) (Nat.le_refl _) (by decide)⟩
  with_reducible refine HCS.out.mono ?_
  clear HCS
  rintro e wy ⟨rfl, ⟨nd, rfl⟩⟩
  go_wp2
  go_ret
  exact ⟨rfl, pw_below_drewN (below_alloc HB5.out _) _⟩
end Go.Proofs.Ytmbfjaogimkncaa
