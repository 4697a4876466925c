/- Package chunk: Close, and Feed of a framer that takes nothing any more; no condition. -/
import Derived.Test.YtmbfjaogimkncaaFeed
namespace Go.Proofs.Ytmbfjaogimkncaa
open Go.RowKit Go.Proofs.YtmbfjaogimkncaaW.PrintWords Go.Proofs.YtmbfjaogimkncaaW.PrintLast Go.Proofs.YtmbfjaogimkncaaW.PrintMore
set_option linter.unusedVariables false
set_option linter.unusedSimpArgs false
section
attribute [local go_sem] wide_fn wide_depth Fence.wide_round Oper.semAt_some
set_option maxHeartbeats 2000000 in
set_option maxRecDepth 100000 in
theorem frfeed_gone (p : Option Addr) (code : Int) (A : Option Addr) (n c : Nat) (w : World) (hch : Calls Try.prog 48 #[.pointer p] w fun e w' => e = .returned (.int .i64 code) ∧ w = w') (hc : ¬ code = 0) :
    Calls Try.prog 18 #[.pointer p, .slice A n c] w fun e w' => e = .returned (.tuple #[.slice none 0 0, .int .i64 code]) ∧ w = w' := by
  have H := Aside0.mk hch
  have hb : (code != 0) = true := bne_iff_ne.mpr hc
  clear hch hc
  refine (callsIn_wide (n := 0)).1 ?_
  refine callsIn_of_wp_marks Try.func18 rfl trivial ?_ rfl
  simp only [Try.ntmps18, List.size_toArray, List.length_cons, List.length_nil, Nat.reduceAdd, Nat.reduceSub, Array.replicate_succ, Array.replicate_zero, List.push_toArray, List.append_toArray, List.nil_append, List.cons_append]
  gi_wp2_with fail
  refine (callsIn_wide.2 H.out).mono ?_
  clear H
  rintro e w1 ⟨rfl, rfl⟩
  gi_wp2
  exact ⟨.tuple #[.slice none 0 0, .int .i64 code], by simp [results, Try.results18, go_sem], rfl, rfl⟩
end
set_option maxHeartbeats 2000000 in
set_option maxRecDepth 100000 in
theorem frclose_gone (p : Option Addr) (code : Int) (w : World) (hch : ∀ W, Below w.heap.size w W → Calls Try.prog 48 #[.pointer p] W fun e w' => e = .returned (.int .i64 code) ∧ W = w') (hc : ¬ code = 0) :
    Calls Try.prog 23 #[.pointer p] w fun e w' => e = .returned (.tuple #[.agg #[.int .i64 0, .int .i64 0, .slice none 0 0, .int .i64 0, .int .i64 0], .bool false, .int .i64 code]) ∧ Below w.heap.size w w' := by
  have H := Aside0.mk (hch _ (below_alloc (Below.refl _ w) (.cells #[.int .i64 0, .int .i64 0, .slice none 0 0, .int .i64 0, .int .i64 0] 42)))
  have hb : (code != 0) = true := bne_iff_ne.mpr hc
  have HN := Aside0.mk (blk_new w (.cells #[.int .i64 0, .int .i64 0, .slice none 0 0, .int .i64 0, .int .i64 0] 42))
  clear hch hc
  go_enter Try.func23, Try.ntmps23
  go_wp2_with fail
  with_reducible refine H.out.mono ?_
  clear H
  rintro e w1 ⟨rfl, rfl⟩
  go_wp2
  have e0 := (blk_cell HN.out 0).trans rfl
  have e1 := (blk_cell HN.out 1).trans rfl
  have e2 := (blk_cell HN.out 2).trans rfl
  have e3 := (blk_cell HN.out 3).trans rfl
  have e4 := (blk_cell HN.out 4).trans rfl
  exact bodyPost_ret (v := .tuple #[.agg #[.int .i64 0, .int .i64 0, .slice none 0 0, .int .i64 0, .int .i64 0], .bool false, .int .i64 code]) (by simp [results, Try.results23, go_sem, e0, e1, e2, e3, e4]) rfl ⟨rfl, below_alloc (Below.refl _ w) _⟩
set_option maxHeartbeats 2000000 in
set_option maxRecDepth 100000 in
theorem frclose_empty (f : Fr) (w : World) (h : FrAt f w) (he : f.ended = false) (ho : f.op = []) :
    Calls Try.prog 23 #[.pointer (some ⟨f.g, 0, none⟩)] w fun e w' => e = .returned (.tuple #[.agg #[.int .i64 0, .int .i64 0, .slice none 0 0, .int .i64 0, .int .i64 0], .bool false, .int .i64 0]) ∧ FrAt { f with ended := true } w' ∧ Chg (fun k => k = f.g) w w' := by
  have HCK := Aside0.mk (frcheck_ok f _ (h.alloc (.cells #[.int .i64 0, .int .i64 0, .slice none 0 0, .int .i64 0, .int .i64 0] 42)) he)
  have HE1 := Aside0.mk (h.alloc (.cells #[.int .i64 0, .int .i64 0, .slice none 0 0, .int .i64 0, .int .i64 0] 42)).endIt
  have HE2 := Aside0.mk h.endIt
  obtain ⟨A0, c0, hv, _, _⟩ := h.slice
  rw [ho] at hv
  have hG := blk_alloc h.blk (.cells #[.int .i64 0, .int .i64 0, .slice none 0 0, .int .i64 0, .int .i64 0] 42)
  have f4 := blk_frozen hG 4
  have c4 := (blk_cell hG 4).trans rfl
  have hG2 := (blk_put h.blk 4 (.bool true) rfl).trans rfl
  have hG3 := blk_alloc hG2 (.cells #[.int .i64 0, .int .i64 0, .slice none 0 0, .int .i64 0, .int .i64 0] 42)
  rw [hv] at hG3
  have c2 := (blk_cell hG3 2).trans rfl
  have hlt := blk_lt h.blk
  have hne : w.heap.size ≠ f.g := by omega
  have HH := Aside0.mk h
  clear h he ho hG hG2 hG3 hv
  go_enter Try.func23, Try.ntmps23
  go_wp2_with fail
  with_reducible refine HCK.out.mono ?_
  clear HCK
  rintro e w1 ⟨rfl, rfl⟩
  go_wp2
  have hs : (w.setCell ⟨f.g, 4, none⟩ (.bool true)).heap.size = w.heap.size := by simp [World.setCell]
  have HN := blk_new (w.setCell ⟨f.g, 4, none⟩ (.bool true)) (.cells #[.int .i64 0, .int .i64 0, .slice none 0 0, .int .i64 0, .int .i64 0] 42)
  rw [hs] at HN
  have e0 := (blk_cell HN 0).trans rfl
  have e1 := (blk_cell HN 1).trans rfl
  have e2 := (blk_cell HN 2).trans rfl
  have e3 := (blk_cell HN 3).trans rfl
  have e4 := (blk_cell HN 4).trans rfl
  exact bodyPost_ret (v := .tuple #[.agg #[.int .i64 0, .int .i64 0, .slice none 0 0, .int .i64 0, .int .i64 0], .bool false, .int .i64 0]) (by simp [results, Try.results23, go_sem, e0, e1, e2, e3, e4]) rfl ⟨rfl, HE2.out.1.alloc _, HE2.out.2.alloc _⟩
set_option maxHeartbeats 4000000 in
set_option maxRecDepth 100000 in
theorem frclose_left (f : Fr) (w : World) (h : FrAt f w) (he : f.ended = false) (ho : f.op ≠ []) :
    Calls Try.prog 23 #[.pointer (some ⟨f.g, 0, none⟩)] w fun e w' => e = .returned (.tuple #[.agg #[.int .i64 ((f.pos : Int) - f.op.length), .int .i64 f.pos, .slice none 0 0, .int .i64 13, .int .i64 f.pos], .bool true, .int .i64 0]) ∧ FrAt { f with v := .slice none 0 0, op := [], need := 0, ended := true } w' ∧ Chg (fun k => k = f.g) w w' := by
  have HCK := Aside0.mk (frcheck_ok f _ (h.alloc (.cells #[.int .i64 0, .int .i64 0, .slice none 0 0, .int .i64 0, .int .i64 0] 42)) he)
  have HE2 := Aside0.mk h.endIt
  obtain ⟨A0, c0, hv, _, _⟩ := h.slice
  obtain ⟨L0, hL0⟩ : ∃ L, f.op.length = L := ⟨_, rfl⟩
  rw [hL0] at hv
  have hL1 : ¬ L0 = 0 := fun e => ho (List.length_eq_zero_iff.1 (hL0.trans e))
  have hL2 : (L0 == 0) = false := beq_eq_false_iff_ne.mpr hL1
  have hL3 : ((L0 : Int) == 0) = false := beq_eq_false_iff_ne.mpr (by omega)
  have hG := blk_alloc h.blk (.cells #[.int .i64 0, .int .i64 0, .slice none 0 0, .int .i64 0, .int .i64 0] 42)
  have f4 := blk_frozen hG 4
  have c4 := (blk_cell hG 4).trans rfl
  have hG2 := (blk_put h.blk 4 (.bool true) rfl).trans rfl
  have hG3 := blk_alloc hG2 (.cells #[.int .i64 0, .int .i64 0, .slice none 0 0, .int .i64 0, .int .i64 0] 42)
  rw [hv] at hG3
  have c2 := (blk_cell hG3 2).trans rfl
  have hlt := blk_lt h.blk
  have hne : w.heap.size ≠ f.g := by omega
  have HH := Aside0.mk h
  obtain ⟨A4, c5, L, lo, hi, hv2, hL, hlo, hhi, hFC⟩ := frframe2 _ _ (HE2.out.1.alloc (.cells #[.int .i64 0, .int .i64 0, .slice none 0 0, .int .i64 0, .int .i64 0] 42))
  have HFC := Aside0.mk hFC
  have HX : Aside0 (lo = (f.pos : Int) - f.op.length ∧ hi = f.pos) := ⟨hlo, hhi⟩
  have hs : (w.setCell ⟨f.g, 4, none⟩ (.bool true)).heap.size = w.heap.size := by simp [World.setCell]
  have HN0 := blk_new (w.setCell ⟨f.g, 4, none⟩ (.bool true)) (.cells #[.int .i64 0, .int .i64 0, .slice none 0 0, .int .i64 0, .int .i64 0] 42)
  rw [hs] at HN0
  have HN := Aside0.mk HN0
  clear h he ho hG hG2 hG3 hv hL0 hL1 hFC hv2 hL hlo hhi hs HN0
  go_enter Try.func23, Try.ntmps23
  go_wp2_with fail
  with_reducible refine HCK.out.mono ?_
  clear HCK
  rintro e w1 ⟨rfl, rfl⟩
  go_wp2_with fail
  with_reducible refine HFC.out.mono ?_
  clear HFC
  rintro e w4 ⟨rfl, hfr4, hch4⟩
  have hres : w4.heap[w.heap.size]? = _ := (hch4.block _ (blk_lt HN.out) (fun e => hne e)).trans HN.out
  have HRES := Aside0.mk hres
  have HFR := Aside0.mk hfr4
  have HCH := Aside0.mk (((HE2.out.2).alloc (.cells #[.int .i64 0, .int .i64 0, .slice none 0 0, .int .i64 0, .int .i64 0] 42)).trans hch4 (fun k hk => .inl hk))
  have hrv := blk_alloc hres (.cells #[.int .i64 lo, .int .i64 hi, .slice none 0 0, .int .i64 13, .int .i64 hi] 42)
  have y0 := blk_frozen hrv 0
  have y1 := blk_frozen hrv 1
  have y2 := blk_frozen hrv 2
  have y3 := blk_frozen hrv 3
  have y4 := blk_frozen hrv 4
  have z0 := (blk_cell hrv 0).trans rfl
  have z1 := (blk_cell hrv 1).trans rfl
  have z2 := (blk_cell hrv 2).trans rfl
  have z3 := (blk_cell hrv 3).trans rfl
  have z4 := (blk_cell hrv 4).trans rfl
  have x0 := blk_frozen hres 0
  have x1 := blk_frozen hres 1
  have x2 := blk_frozen hres 2
  have x3 := blk_frozen hres 3
  have x4 := blk_frozen hres 4
  have u0 := (blk_cell hres 0).trans rfl
  have u1 := (blk_cell hres 1).trans rfl
  have u2 := (blk_cell hres 2).trans rfl
  have u3 := (blk_cell hres 3).trans rfl
  have u4 := (blk_cell hres 4).trans rfl
  have HM := Aside0.mk (blk_new w4 (.cells #[.int .i64 lo, .int .i64 hi, .slice A4 L c5, .int .i64 0, .int .i64 0] 42))
  have n1 := (blk_cell HM.out 1).trans rfl
  have hlt4 : w.heap.size < w4.heap.size := blk_lt hres
  have hne4 : w4.heap.size ≠ w.heap.size := by omega
  have hne5 : w.heap.size ≠ w4.heap.size := by omega
  clear hfr4 hch4 hres hrv c2 c4 f4
  go_wp2
  have HP0 := (blk_put HRES.out 0 (.int .i64 lo) rfl).trans rfl
  have HP1 := (blk_put HP0 1 (.int .i64 hi) rfl).trans rfl
  have HP2 := (blk_put HP1 2 (.slice none 0 0) rfl).trans rfl
  have HP3 := (blk_put HP2 3 (.int .i64 13) rfl).trans rfl
  have HP4 := (blk_put HP3 4 (.int .i64 hi) rfl).trans rfl
  have HP5 := blk_alloc HP4 (.cells #[.int .i64 lo, .int .i64 hi, .slice none 0 0, .int .i64 13, .int .i64 hi] 42)
  have e0 := (blk_cell HP5 0).trans rfl
  have e1 := (blk_cell HP5 1).trans rfl
  have e2 := (blk_cell HP5 2).trans rfl
  have e3 := (blk_cell HP5 3).trans rfl
  have e4 := (blk_cell HP5 4).trans rfl
  have hcs : Chg (fun k => k = w.heap.size) w4 _ := ((((((Chg.refl _ w4).set1 0 (.int .i64 lo)).set1 1 (.int .i64 hi)).set1 2 (.slice none 0 0)).set1 3 (.int .i64 13)).set1 4 (.int .i64 hi)).alloc (.cells #[.int .i64 lo, .int .i64 hi, .slice none 0 0, .int .i64 13, .int .i64 hi] 42)
  obtain ⟨x1', x2'⟩ := HX.out
  refine bodyPost_ret (v := .tuple #[.agg #[.int .i64 lo, .int .i64 hi, .slice none 0 0, .int .i64 13, .int .i64 hi], .bool true, .int .i64 0]) (by simp [results, Try.results23, go_sem, e0, e1, e2, e3, e4]) rfl ⟨by rw [x1', x2'], HFR.out.step hcs (fun k hk e => ?_), ?_⟩
  · rcases hk with hk | hk
    · exact hne (e.symm.trans hk)
    · cases hk
  · refine ⟨hcs.os.trans HCH.out.os, hcs.tape.trans HCH.out.tape, hcs.output.trans HCH.out.output, Nat.le_trans HCH.out.size hcs.size, fun k hk hn => ?_⟩
    exact (hcs.block k (Nat.lt_of_lt_of_le hk HCH.out.size) (fun e => by omega)).trans (HCH.out.block k hk hn)
theorem frclose_ended (f : Fr) (w : World) (h : FrAt f w) (he : f.ended = true) : Calls Try.prog 23 #[.pointer (some ⟨f.g, 0, none⟩)] w fun e w' => e = .returned (.tuple #[.agg #[.int .i64 0, .int .i64 0, .slice none 0 0, .int .i64 0, .int .i64 0], .bool false, .int .i64 28]) ∧ Below w.heap.size w w' :=
  frclose_gone _ 28 w (fun W hb => frcheck_ended f W (h.below hb) he) (by decide)
theorem frclose_nil (w : World) : Calls Try.prog 23 #[.pointer none] w fun e w' => e = .returned (.tuple #[.agg #[.int .i64 0, .int .i64 0, .slice none 0 0, .int .i64 0, .int .i64 0], .bool false, .int .i64 2]) ∧ Below w.heap.size w w' :=
  frclose_gone _ 2 w (fun W hb => frcheck_nil W) (by decide)
theorem frfeed_ended (f : Fr) (A : Option Addr) (n c : Nat) (w : World) (h : FrAt f w) (he : f.ended = true) : Calls Try.prog 18 #[.pointer (some ⟨f.g, 0, none⟩), .slice A n c] w fun e w' => e = .returned (.tuple #[.slice none 0 0, .int .i64 28]) ∧ w = w' :=
  frfeed_gone _ 28 A n c w (frcheck_ended f w h he) (by decide)
theorem frfeed_nil (A : Option Addr) (n c : Nat) (w : World) : Calls Try.prog 18 #[.pointer none, .slice A n c] w fun e w' => e = .returned (.tuple #[.slice none 0 0, .int .i64 2]) ∧ w = w' :=
  frfeed_gone _ 2 A n c w (frcheck_nil w) (by decide)
end Go.Proofs.Ytmbfjaogimkncaa
