/- Package chunk: a framer; New, check, At, Held, Stop, take: what they tell and turn; no condition. -/
import Derived.Test.YtmbfjaogimkncaaBase
import Derived.Test.YtmbfjaogimkncaaCur
namespace Go.Proofs.Ytmbfjaogimkncaa
open Go.RowKit Go.Proofs.YtmbfjaogimkncaaW.PrintWords Go.Proofs.YtmbfjaogimkncaaW.PrintLast Go.Proofs.YtmbfjaogimkncaaW.PrintMore
set_option linter.unusedVariables false
set_option linter.unusedSimpArgs false
/-- A framer: its block, what a payload may have, how many bytes were asked, the slice of what is open, what is open, how many it needs, whether it has ended. -/
structure Fr where
  g : Nat
  most : Int
  pos : Nat
  v : Value
  op : List Int
  need : Nat
  ended : Bool
def Fr.F (f : Fr) (k : Nat) : Prop := k = f.g ∨ some k = f.v.ownBlock
structure FrAt (f : Fr) (w : World) : Prop where
  blk : w.heap[f.g]? = some (.cells #[.int .i64 f.most, .int .i64 f.pos, f.v, .int .i64 f.need, .bool f.ended] 89 (0, 0))
  row : (Kd.int .u8).R 5 w 0 (fun k => some k = f.v.ownBlock) f.v f.op
  le : f.op.length ≤ f.pos
  big : f.pos ≤ 140737488350000
  bytes : ∀ x ∈ f.op, 0 ≤ x ∧ x < 256
section
variable {f : Fr} {w w' : World} {S : Nat → Prop}
theorem FrAt.step (h : FrAt f w) (hc : Chg S w w') (hs : ∀ k, f.F k → ¬ S k) : FrAt f w' where
  blk := (hc.block _ (blk_lt h.blk) (hs _ (.inl rfl))).trans h.blk
  row := Kd.R_step h.row (fun k hk hl => hc.block k hl (hs k (.inr hk)))
  le := h.le
  big := h.big
  bytes := h.bytes
theorem FrAt.below (h : FrAt f w) (hb : Below w.heap.size w w') : FrAt f w' := h.step (Chg.of_below hb (fun _ => False)) (fun _ _ h => h)
theorem FrAt.drewN (h : FrAt f w) (n : Nat) : FrAt f (w.drewN n) := h.below (pw_below_drewN (Below.refl _ _) n)
theorem FrAt.drew (h : FrAt f w) : FrAt f w.drew := h.below (below_drew1 (Below.refl _ _))
theorem FrAt.alloc (h : FrAt f w) (o : Obj) : FrAt f (w.alloc o) := h.below (below_alloc (Below.refl _ _) o)
theorem FrAt.lt (h : FrAt f w) : ∀ k, f.F k → k < w.heap.size := by
  rintro k (rfl | hk)
  · exact blk_lt h.blk
  · exact Kd.R_lt h.row k hk.symm
theorem FrAt.slice (h : FrAt f w) : ∃ A c, f.v = .slice A f.op.length c ∧ f.op.length ≤ c ∧ (Kd.int .u8).C w A f.op.length f.op := Kd.R_reads h.row
theorem FrAt.own_g (h : FrAt f w) : some f.g ≠ f.v.ownBlock := Kd.R_ne h.row h.blk (by decide)
end
set_option maxRecDepth 100000 in
theorem frnew_bad (most : Int) (w : World) (h : most < 1 ∨ 1048576 < most) : Calls Try.prog 16 #[.int .i64 most] w fun e w' => e = .returned (.tuple #[.pointer none, .int .i64 10]) ∧ w = w' := by
  rcases (show most < 1 ∨ (¬ most < 1 ∧ 1048576 < most) by omega) with h1 | ⟨h1, h2⟩
  · clear h
    go_enter Try.func16, Try.ntmps16
    go_wp2
    go_ret2
    exact ⟨rfl, rfl⟩
  · clear h
    go_enter Try.func16, Try.ntmps16
    go_wp2
    go_ret2
    exact ⟨rfl, rfl⟩
set_option maxRecDepth 100000 in
theorem frnew_calls (most : Int) (w : World) (h1 : 1 ≤ most) (h2 : most ≤ 1048576) : Calls Try.prog 16 #[.int .i64 most] w fun e w' => e = .returned (.tuple #[.pointer (some ⟨w.heap.size, 0, none⟩), .int .i64 0]) ∧ FrAt ⟨w.heap.size, most, 0, .slice none 0 0, [], 0, false⟩ w' ∧ Below w.heap.size w w' := by
  have q1 : ¬ most < 1 := by omega
  have q2 : ¬ 1048576 < most := by omega
  clear h1 h2
  go_enter Try.func16, Try.ntmps16
  go_wp2
  go_ret2
  exact ⟨rfl, ⟨blk_new _ _, Kd.R_nil _ _ _ _ _, Nat.le_refl _, Nat.zero_le _, by simp⟩, below_alloc (Below.refl _ _) _⟩
theorem frcheck_nil (w : World) : Calls Try.prog 48 #[.pointer none] w fun e w' => e = .returned (.int .i64 2) ∧ w = w' := by
  go_enter Try.func48, Try.ntmps48
  go_wp2
  go_ret
  exact ⟨rfl, rfl⟩
theorem frcheck_ended (f : Fr) (w : World) (h : FrAt f w) (he : f.ended = true) : Calls Try.prog 48 #[.pointer (some ⟨f.g, 0, none⟩)] w fun e w' => e = .returned (.int .i64 28) ∧ w = w' := by
  have c4 := (blk_cell h.blk 4).trans rfl
  rw [he] at c4
  clear h he
  go_enter Try.func48, Try.ntmps48
  go_wp2
  go_ret
  exact ⟨rfl, rfl⟩
theorem frcheck_ok (f : Fr) (w : World) (h : FrAt f w) (he : f.ended = false) : Calls Try.prog 48 #[.pointer (some ⟨f.g, 0, none⟩)] w fun e w' => e = .returned (.int .i64 0) ∧ w = w' := by
  have c4 := (blk_cell h.blk 4).trans rfl
  rw [he] at c4
  clear h he
  go_enter Try.func48, Try.ntmps48
  go_wp2
  go_ret
  exact ⟨rfl, rfl⟩
theorem frat_nil (w : World) : Calls Try.prog 21 #[.pointer none] w fun e w' => e = .returned (.int .i64 0) ∧ w = w' := by
  go_enter Try.func21, Try.ntmps21
  go_wp2
  go_ret
  exact ⟨rfl, rfl⟩
theorem frat_calls (f : Fr) (w : World) (h : FrAt f w) : Calls Try.prog 21 #[.pointer (some ⟨f.g, 0, none⟩)] w fun e w' => e = .returned (.int .i64 f.pos) ∧ w = w' := by
  have c1 := (blk_cell h.blk 1).trans rfl
  clear h
  go_enter Try.func21, Try.ntmps21
  go_wp2
  go_ret
  exact ⟨rfl, rfl⟩
theorem frheld_nil (w : World) : Calls Try.prog 22 #[.pointer none] w fun e w' => e = .returned (.int .i64 0) ∧ w = w' := by
  go_enter Try.func22, Try.ntmps22
  go_wp2
  go_ret
  exact ⟨rfl, rfl⟩
theorem frheld_calls (f : Fr) (w : World) (h : FrAt f w) : Calls Try.prog 22 #[.pointer (some ⟨f.g, 0, none⟩)] w fun e w' => e = .returned (.int .i64 f.op.length) ∧ w = w' := by
  obtain ⟨A, c, hv, hc, hC⟩ := h.slice
  have c2 := (blk_cell h.blk 2).trans rfl
  rw [hv] at c2
  clear h hC hv
  go_enter Try.func22, Try.ntmps22
  go_wp2
  go_ret
  exact ⟨rfl, rfl⟩
theorem frstop_nil (w : World) : Calls Try.prog 27 #[.pointer none] w fun e w' => e = .returned (.tuple #[]) ∧ w = w' := by
  go_enter Try.func27, Try.ntmps27
  go_wp2
  go_end0
  exact ⟨rfl, rfl⟩
set_option maxHeartbeats 1000000 in
set_option maxRecDepth 100000 in
theorem frstop_calls (f : Fr) (w : World) (h : FrAt f w) : Calls Try.prog 27 #[.pointer (some ⟨f.g, 0, none⟩)] w fun e w' => e = .returned (.tuple #[]) ∧ FrAt { f with v := .slice none 0 0, op := [], need := 0, ended := true } w' ∧ Chg (fun k => k = f.g) w w' := by
  have H := Aside0.mk h
  obtain ⟨A, c, hv, hc, hC⟩ := h.slice
  have HV := Aside0.mk hv
  have hb := h.blk
  rw [hv] at hb
  have HB0 := Aside0.mk hb
  have f4 := blk_frozen hb 4
  have c4 := (blk_cell hb 4).trans rfl
  clear h hC hv hc
  have HB1 := Aside0.mk ((blk_put HB0.out 4 (.bool true) rfl).trans rfl)
  have f2 := blk_frozen HB1.out 2
  have c2 := (blk_cell HB1.out 2).trans rfl
  have HB2 := Aside0.mk ((blk_put HB1.out 2 (.slice none 0 0) rfl).trans rfl)
  have f3 := blk_frozen HB2.out 3
  have c3 := (blk_cell HB2.out 3).trans rfl
  have HB3 := Aside0.mk ((blk_put HB2.out 3 (.int .i64 0) rfl).trans rfl)
  clear hb
  go_enter Try.func27, Try.ntmps27
  go_wp2
  go_end0
  refine ⟨rfl, ⟨HB3.out, Kd.R_nil _ _ _ _ _, Nat.zero_le _, H.out.big, by simp⟩, ?_⟩
  exact (((Chg.refl (fun k => k = f.g) w).set1 4 _).set1 2 _).set1 3 _
end Go.Proofs.Ytmbfjaogimkncaa
