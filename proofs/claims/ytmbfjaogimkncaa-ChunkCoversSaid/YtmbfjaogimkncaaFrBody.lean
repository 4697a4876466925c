/- Package chunk: body: bytes behind the head; no condition. -/
import Derived.Test.YtmbfjaogimkncaaFrTake
namespace Go.Proofs.Ytmbfjaogimkncaa
open Go.RowKit Go.Proofs.YtmbfjaogimkncaaW.PrintWords Go.Proofs.YtmbfjaogimkncaaW.PrintLast Go.Proofs.YtmbfjaogimkncaaW.PrintMore
set_option linter.unusedVariables false
set_option linter.unusedSimpArgs false
set_option maxHeartbeats 4000000 in
set_option maxRecDepth 100000 in
theorem frbody_calls (f : Fr) (A : Option Addr) (c : Nat) (xs : List Int) (n : Nat) (hn : xs.length = n) (hc : n ≤ c) (k : Nat) (hk : min ((f.need : Int) - f.op.length) (n : Int) = k) (hkn : k ≤ n) (w : World) (h : FrAt f w) (hC : (Kd.int .u8).C w A n xs) (hx : ∀ x ∈ xs, 0 ≤ x ∧ x < 256) (hb : f.pos + n ≤ 140737488350000) (hneed : f.need ≤ 140737488350000) :
    Calls Try.prog 79 #[.pointer (some ⟨f.g, 0, none⟩), .slice A n c] w fun e w' => e = .returned (.tuple #[.slice (if c = k then A else Option.map (fun x => x.add k) A) (n - k) (c - k), .int .i64 0]) ∧ FrTurn f (fun v' => ⟨f.g, f.most, f.pos + k, v', f.op ++ xs.take k, f.need, f.ended⟩) w w' := by
  have H := Aside0.mk h
  have hle := h.le
  have hbig := h.big
  obtain ⟨A0, c0, hv, _, _⟩ := h.slice
  have c2 := (blk_cell h.blk 2).trans rfl
  rw [hv] at c2
  have c3 := (blk_cell h.blk 3).trans rfl
  have HT := Aside0.mk (fun W (h2 : FrAt f W) (hC2 : (Kd.int .u8).C W A k (xs.take k)) => frtake_calls f A c (xs.take k) k (by rw [List.length_take]; omega) W h2 hC2 (fun x hx2 => hx x (List.mem_of_mem_take hx2)) (by omega))
  have HC := Aside0.mk hC
  have HK := Aside0.mk hk
  have hws : wrap64 ((f.need : Int) - (f.op.length : Int)) = (f.need : Int) - (f.op.length : Int) := IntWalk.wrap64_in _ (by omega)
  clear h hC hx hv
  go_enter Try.func79, Try.ntmps79
  go_wp2
  go_quiet (fail)
  have hkc : (k : Int) ≤ (c : Int) := by omega
  go_wp2_with fail
  with_reducible refine (HT.out _ (H.out.drewN nq) (C_take (Kd.C_drewN HC.out nq) k hkn)).mono ?_
  rintro e w1 ⟨rfl, v', h1, h2, h3⟩
  have HF := Aside0.mk (show FrTurn f (fun v' => ⟨f.g, f.most, f.pos + k, v', f.op ++ xs.take k, f.need, f.ended⟩) w w1 from ⟨v', h1, ((Chg.refl f.F w).drewN nq).trans h2 (fun _ h => .inl h), h3⟩)
  clear h1 h2 h3 c2 c3
  go_wp2
  all_goals
    go_ret2
    refine ⟨?_, HF.out⟩
    simp [*]
set_option maxHeartbeats 4000000 in
set_option maxRecDepth 100000 in
theorem frframe_calls (f : Fr) (A : Option Addr) (c : Nat) (hv : f.v = .slice A f.op.length c) (w : World) (h : FrAt f w) :
    Calls Try.prog 52 #[.pointer (some ⟨f.g, 0, none⟩)] w fun e w' => e = .returned (.agg #[.int .i64 ((f.pos : Int) - f.op.length), .int .i64 f.pos, .slice A f.op.length c, .int .i64 0, .int .i64 0]) ∧ FrAt { f with v := .slice none 0 0, op := [], need := 0 } w' ∧ Chg (fun k => k = f.g) w w' := by
  have H := Aside0.mk h
  have hb := h.blk
  rw [hv] at hb
  have hle := h.le
  have hbig := h.big
  have HW := Aside0.mk (blk_new w (.cells #[.int .i64 0, .int .i64 0, .slice none 0 0, .int .i64 0, .int .i64 0] 42))
  have HG := Aside0.mk (blk_alloc hb (.cells #[.int .i64 0, .int .i64 0, .slice none 0 0, .int .i64 0, .int .i64 0] 42))
  have hlt := blk_lt hb
  clear h hb hv
  go_enter Try.func52, Try.ntmps52
  go_wp2
  have HCH := Aside0.mk ((Chg.refl (fun k => k = f.g) w).alloc (.cells #[.int .i64 0, .int .i64 0, .slice none 0 0, .int .i64 0, .int .i64 0] 42))
  have hws : w.heap.size < (w.alloc (.cells #[.int .i64 0, .int .i64 0, .slice none 0 0, .int .i64 0, .int .i64 0] 42)).heap.size := blk_lt HW.out
  obtain ⟨w0, hw0⟩ : ∃ w0, w.alloc (.cells #[.int .i64 0, .int .i64 0, .slice none 0 0, .int .i64 0, .int .i64 0] 42) = w0 := ⟨_, rfl⟩
  rw [hw0] at HG HW HCH hws ⊢
  clear hw0
  have HN := Aside0.mk (blk_new w0 (.cells #[.int .i64 0, .int .i64 0, .slice none 0 0, .int .i64 0, .int .i64 0] 42))
  have hgl := blk_lt HG.out
  have c0 := (blk_cell HN.out 0).trans rfl
  have c1 := (blk_cell HN.out 1).trans rfl
  have c2 := (blk_cell HN.out 2).trans rfl
  have c3 := (blk_cell HN.out 3).trans rfl
  have c4 := (blk_cell HN.out 4).trans rfl
  have f0 := blk_frozen HN.out 0
  have f1 := blk_frozen HN.out 1
  have f2 := blk_frozen HN.out 2
  have f3 := blk_frozen HN.out 3
  have f4 := blk_frozen HN.out 4
  have hws2 : wrap64 ((f.pos : Int) - (f.op.length : Int)) = (f.pos : Int) - (f.op.length : Int) := IntWalk.wrap64_in _ (by omega)
  refine start_ (n := 21) (S := fun w' => w'.cell? ⟨f.g, 1, none⟩ = some (.int .i64 (f.pos : Int)) ∧ w'.cell? ⟨f.g, 2, none⟩ = some (.slice A f.op.length c)) (ds := [20]) #[false, false, false, false, false, false, false, false, false, false, false, false, false, false, false, false, false, false, false, false, false] (by kernel_rfl) rfl rfl ⟨(blk_cell (blk_drew HG.out) 1).trans rfl, (blk_cell (blk_drew HG.out) 2).trans rfl⟩ (fun hHeld => ?_)
  refine pure_ (i := 0) (N := some 4) (v := ?_) (a' := ?_) #[true, false, false, false, false, false, false, false, false, false, false, false, false, false, false, false, false, false, false, false, false] rfl rfl (by kernel_rfl) (fun _ _ _ h => h) (Or.inl ⟨by rfl, ?_⟩) ?_ ?_
  rotate_left
  · intro w'
    go_simp
    with_reducible rfl
  rotate_left
  · simp only [Act.put, List.setIfInBounds_toArray, List.set_cons_zero, List.set_cons_succ, i64_w, i32_w]
    rfl
  refine pure_ (i := 1) (N := some 5) (v := ?_) (a' := ?_) #[true, true, false, false, false, false, false, false, false, false, false, false, false, false, false, false, false, false, false, false, false] rfl rfl (by kernel_rfl) (fun _ _ _ h => h) (Or.inl ⟨by rfl, ?_⟩) ?_ ?_
  rotate_left
  · intro w'
    go_simp
    with_reducible rfl
  rotate_left
  · simp only [Act.put, List.setIfInBounds_toArray, List.set_cons_zero, List.set_cons_succ, i64_w, i32_w]
    rfl
  refine pure_ (i := 2) (N := some 6) (v := ?_) (a' := ?_) #[true, true, true, false, false, false, false, false, false, false, false, false, false, false, false, false, false, false, false, false, false] rfl rfl (by kernel_rfl) (fun _ _ _ h => h) (Or.inl ⟨by rfl, ?_⟩) ?_ ?_
  rotate_left
  · intro w'
    go_simp
    with_reducible rfl
  rotate_left
  · simp only [Act.put, List.setIfInBounds_toArray, List.set_cons_zero, List.set_cons_succ, i64_w, i32_w]
    rfl
  refine pure_ (i := 4) (N := some 8) (v := ?_) (a' := ?_) #[true, true, true, false, true, false, false, false, false, false, false, false, false, false, false, false, false, false, false, false, false] rfl rfl (by kernel_rfl) (fun _ _ _ h => h) (Or.inl ⟨by rfl, ?_⟩) ?_ ?_
  rotate_left
  · intro w'
    go_simp
    with_reducible rfl
  rotate_left
  · simp only [Act.put, List.setIfInBounds_toArray, List.set_cons_zero, List.set_cons_succ, i64_w, i32_w]
    rfl
  refine pure_ (i := 5) (N := some 9) (v := ?_) (a' := ?_) #[true, true, true, false, true, true, false, false, false, false, false, false, false, false, false, false, false, false, false, false, false] rfl rfl (by kernel_rfl) (fun _ _ _ h => h) (Or.inl ⟨by rfl, ?_⟩) ?_ ?_
  rotate_left
  · intro w'
    go_simp
    with_reducible rfl
  rotate_left
  · simp only [Act.put, List.setIfInBounds_toArray, List.set_cons_zero, List.set_cons_succ, i64_w, i32_w]
    rfl
  refine pure_ (i := 6) (N := some 10) (v := ?_) (a' := ?_) #[true, true, true, false, true, true, true, false, false, false, false, false, false, false, false, false, false, false, false, false, false] rfl rfl (by kernel_rfl) (fun _ _ _ h => h) (Or.inl ⟨by rfl, ?_⟩) ?_ ?_
  rotate_left
  · intro w'
    go_simp
    with_reducible rfl
  rotate_left
  · simp only [Act.put, List.setIfInBounds_toArray, List.set_cons_zero, List.set_cons_succ, i64_w, i32_w]
    rfl
  refine pure_ (i := 10) (N := some 14) (v := ?_) (a' := ?_) #[true, true, true, false, true, true, true, false, false, false, true, false, false, false, false, false, false, false, false, false, false] rfl rfl (by kernel_rfl) (fun _ _ _ h => h) (Or.inl ⟨by rfl, ?_⟩) ?_ ?_
  rotate_left
  · intro w'
    go_simp
    with_reducible rfl
  rotate_left
  · simp only [Act.put, List.setIfInBounds_toArray, List.set_cons_zero, List.set_cons_succ, i64_w, i32_w]
    rfl
  refine pure_ (i := 11) (N := some 15) (v := ?_) (a' := ?_) #[true, true, true, false, true, true, true, false, false, false, true, true, false, false, false, false, false, false, false, false, false] rfl rfl (by kernel_rfl) (fun _ _ _ h => h) (Or.inl ⟨by rfl, ?_⟩) ?_ ?_
  rotate_left
  · intro w'
    go_simp
    with_reducible rfl
  rotate_left
  · simp only [Act.put, List.setIfInBounds_toArray, List.set_cons_zero, List.set_cons_succ, i64_w, i32_w]
    rfl
  refine pure_ (i := 12) (N := some 16) (v := ?_) (a' := ?_) #[true, true, true, false, true, true, true, false, false, false, true, true, true, false, false, false, false, false, false, false, false] rfl rfl (by kernel_rfl) (fun _ _ _ h => h) (Or.inl ⟨by rfl, ?_⟩) ?_ ?_
  rotate_left
  · intro w'
    go_simp
    with_reducible rfl
  rotate_left
  · simp only [Act.put, List.setIfInBounds_toArray, List.set_cons_zero, List.set_cons_succ, i64_w, i32_w]
    rfl
  refine pure_ (i := 14) (N := some 18) (v := ?_) (a' := ?_) #[true, true, true, false, true, true, true, false, false, false, true, true, true, false, true, false, false, false, false, false, false] rfl rfl (by kernel_rfl) (fun _ _ _ h => h) (Or.inl ⟨by rfl, ?_⟩) ?_ ?_
  rotate_left
  · intro w'
    go_simp
    with_reducible rfl
  rotate_left
  · simp only [Act.put, List.setIfInBounds_toArray, List.set_cons_zero, List.set_cons_succ, i64_w, i32_w]
    rfl
  refine pure_ (i := 15) (N := some 19) (v := ?_) (a' := ?_) #[true, true, true, false, true, true, true, false, false, false, true, true, true, false, true, true, false, false, false, false, false] rfl rfl (by kernel_rfl) (fun _ _ _ h => h) (Or.inl ⟨by rfl, ?_⟩) ?_ ?_
  rotate_left
  · intro w'
    go_simp
    with_reducible rfl
  rotate_left
  · simp only [Act.put, List.setIfInBounds_toArray, List.set_cons_zero, List.set_cons_succ, i64_w, i32_w]
    rfl
  refine pure_ (i := 16) (N := some 20) (v := ?_) (a' := ?_) #[true, true, true, false, true, true, true, false, false, false, true, true, true, false, true, true, true, false, false, false, false] rfl rfl (by kernel_rfl) (fun _ _ _ h => h) (Or.inl ⟨by rfl, ?_⟩) ?_ ?_
  rotate_left
  · intro w'
    go_simp
    with_reducible rfl
  rotate_left
  · simp only [Act.put, List.setIfInBounds_toArray, List.set_cons_zero, List.set_cons_succ, i64_w, i32_w]
    rfl
  refine take_ (i := 3) (N := some 7) (v := ?_) (a' := ?_) #[true, true, true, true, true, true, true, false, false, false, true, true, true, false, true, true, true, false, false, false, false] rfl rfl (by kernel_rfl) (fun _ _ _ h => h) (Or.inl ⟨by rfl, ?_⟩) hHeld ?_ ?_
  rotate_left
  · rintro w' ⟨s0, s1⟩
    go_simp
    with_reducible rfl
  rotate_left
  · simp only [Act.put, List.setIfInBounds_toArray, List.set_cons_zero, List.set_cons_succ, i64_w, i32_w]
    rfl
  refine take_ (i := 7) (N := some 11) (v := ?_) (a' := ?_) #[true, true, true, true, true, true, true, true, false, false, true, true, true, false, true, true, true, false, false, false, false] rfl rfl (by kernel_rfl) (fun _ _ _ h => h) (Or.inl ⟨by rfl, ?_⟩) hHeld ?_ ?_
  rotate_left
  · rintro w' ⟨s0, s1⟩
    go_simp
    with_reducible rfl
  rotate_left
  · simp only [Act.put, List.setIfInBounds_toArray, List.set_cons_zero, List.set_cons_succ, i64_w, i32_w]
    rfl
  refine pure_ (i := 8) (N := some 12) (v := ?_) (a' := ?_) #[true, true, true, true, true, true, true, true, true, false, true, true, true, false, true, true, true, false, false, false, false] rfl rfl (by kernel_rfl) (fun _ _ _ h => h) (Or.inl ⟨by rfl, ?_⟩) ?_ ?_
  rotate_left
  · intro w'
    go_simp
    with_reducible rfl
  rotate_left
  · simp only [Act.put, List.setIfInBounds_toArray, List.set_cons_zero, List.set_cons_succ, i64_w, i32_w]
    rfl
  refine pure_ (i := 9) (N := some 13) (v := ?_) (a' := ?_) #[true, true, true, true, true, true, true, true, true, true, true, true, true, false, true, true, true, false, false, false, false] rfl rfl (by kernel_rfl) (fun _ _ _ h => h) (Or.inl ⟨by rfl, ?_⟩) ?_ ?_
  rotate_left
  · intro w'
    go_simp
    with_reducible rfl
  rotate_left
  · simp only [Act.put, List.setIfInBounds_toArray, List.set_cons_zero, List.set_cons_succ, i64_w, i32_w]
    rfl
  refine take_ (i := 13) (N := some 17) (v := ?_) (a' := ?_) #[true, true, true, true, true, true, true, true, true, true, true, true, true, true, true, true, true, false, false, false, false] rfl rfl (by kernel_rfl) (fun _ _ _ h => h) (Or.inl ⟨by rfl, ?_⟩) hHeld ?_ ?_
  rotate_left
  · rintro w' ⟨s0, s1⟩
    go_simp
    with_reducible rfl
  rotate_left
  · simp only [Act.put, List.setIfInBounds_toArray, List.set_cons_zero, List.set_cons_succ, i64_w, i32_w]
    rfl
  refine take_ (i := 17) (N := some 21) (v := ?_) (a' := ?_) #[true, true, true, true, true, true, true, true, true, true, true, true, true, true, true, true, true, true, false, false, false] rfl rfl (by kernel_rfl) (fun _ _ _ h => h) (Or.inl ⟨by rfl, ?_⟩) hHeld ?_ ?_
  rotate_left
  · rintro w' ⟨s0, s1⟩
    go_simp
    with_reducible rfl
  rotate_left
  · simp only [Act.put, List.setIfInBounds_toArray, List.set_cons_zero, List.set_cons_succ, i64_w, i32_w]
    rfl
  refine pure_ (i := 18) (N := some 22) (v := ?_) (a' := ?_) #[true, true, true, true, true, true, true, true, true, true, true, true, true, true, true, true, true, true, true, false, false] rfl rfl (by kernel_rfl) (fun _ _ _ h => h) (Or.inl ⟨by rfl, ?_⟩) ?_ ?_
  rotate_left
  · intro w'
    go_simp
    with_reducible rfl
  rotate_left
  · simp only [Act.put, List.setIfInBounds_toArray, List.set_cons_zero, List.set_cons_succ, i64_w, i32_w]
    rfl
  refine one_ (i := 19) (N := some 3) #[true, true, true, true, true, true, true, true, true, true, true, true, true, true, true, true, true, true, true, true, false] rfl rfl (by kernel_rfl) (by decide) (fun K hK => ?_)
  refine value_ (w1 := ?_) (v := ?_) (by rfl) rfl ?_ ?_
  rotate_left 2
  · go_simp
    constructor
    · rfl
    · rfl
  refine hK.out _ _ ⟨(blk_cell (blk_alloc (blk_drew HG.out) _) 1).trans rfl, (blk_cell (blk_alloc (blk_drew HG.out) _) 2).trans rfl⟩ (fun hHeld => ?_)
  clear hK K
  refine norm_ (a' := ?_) ?_ ?_
  rotate_left
  · show Act.put _ (some 3) _ = _
    simp only [Act.put, List.setIfInBounds_toArray, List.set_cons_zero, List.set_cons_succ, i64_w, i32_w]
    rfl
  refine last_ (i := 20) (N := none) #[true, true, true, true, true, true, true, true, true, true, true, true, true, true, true, true, true, true, true, true, true] rfl rfl (by kernel_rfl) (by decide) (fun K hK => ?_)
  refine skip_ (w1 := ?_) (by rfl) rfl ?_ ?_
  rotate_left
  · go_simp
    rfl
  refine hK.out _ _ ?_
  clear hK K
  refine done_ (by kernel_rfl) ?_
  clear c0 c1 c2 c3 c4 f0 f1 f2 f3 f4
  have hne1 : w0.heap.size ≠ f.g := by omega
  have hne2 : w.heap.size ≠ f.g := by omega
  have hne3 : w.heap.size ≠ w0.heap.size := by omega
  have HGV := Aside0.mk (blk_alloc HG.out (.cells #[.int .i64 ((f.pos : Int) - (f.op.length : Int)), .int .i64 (f.pos : Int), .slice A f.op.length c, .int .i64 0, .int .i64 0] 42))
  have g2 := blk_frozen HGV.out 2
  have d2 := (blk_cell HGV.out 2).trans rfl
  have HG1 := Aside0.mk ((blk_put HG.out 2 (.slice none 0 0) rfl).trans rfl)
  have HGV1 := Aside0.mk (blk_alloc HG1.out (.cells #[.int .i64 ((f.pos : Int) - (f.op.length : Int)), .int .i64 (f.pos : Int), .slice A f.op.length c, .int .i64 0, .int .i64 0] 42))
  have g3 := blk_frozen HGV1.out 3
  have d3 := (blk_cell HGV1.out 3).trans rfl
  have HG2 := Aside0.mk ((blk_put HG1.out 3 (.int .i64 0) rfl).trans rfl)
  have HW2 := Aside0.mk (show ((w0.setCell ⟨f.g, 2, none⟩ (.slice none 0 0)).setCell ⟨f.g, 3, none⟩ (.int .i64 0)).heap[w.heap.size]? = _ from (Below.heap_setCell _ _ _ _ hne2).trans ((Below.heap_setCell _ _ _ _ hne2).trans HW.out))
  obtain ⟨w2, hw2⟩ : ∃ w2, (w0.setCell ⟨f.g, 2, none⟩ (.slice none 0 0)).setCell ⟨f.g, 3, none⟩ (.int .i64 0) = w2 := ⟨_, rfl⟩
  have hsz2 : w2.heap.size = w0.heap.size := by rw [← hw2]; simp [World.setCell]
  rw [hw2] at HG2 HW2
  have HNV := Aside0.mk (blk_new w2 (.cells #[.int .i64 ((f.pos : Int) - (f.op.length : Int)), .int .i64 (f.pos : Int), .slice A f.op.length c, .int .i64 0, .int .i64 0] 42))
  rw [hsz2] at HNV
  have HWV := Aside0.mk (blk_alloc HW2.out (.cells #[.int .i64 ((f.pos : Int) - (f.op.length : Int)), .int .i64 (f.pos : Int), .slice A f.op.length c, .int .i64 0, .int .i64 0] 42))
  have n0 := (blk_cell HNV.out 0).trans rfl
  have n1 := (blk_cell HNV.out 1).trans rfl
  have n2 := (blk_cell HNV.out 2).trans rfl
  have n3 := (blk_cell HNV.out 3).trans rfl
  have n4 := (blk_cell HNV.out 4).trans rfl
  have z0 := (blk_cell HWV.out 0).trans rfl
  have z1 := (blk_cell HWV.out 1).trans rfl
  have z2 := (blk_cell HWV.out 2).trans rfl
  have z3 := (blk_cell HWV.out 3).trans rfl
  have z4 := (blk_cell HWV.out 4).trans rfl
  have y0 := blk_frozen HWV.out 0
  have y1 := blk_frozen HWV.out 1
  have y2 := blk_frozen HWV.out 2
  have y3 := blk_frozen HWV.out 3
  have y4 := blk_frozen HWV.out 4
  have HSZ := Aside0.mk hsz2
  clear hsz2
  go_wp2
  have HCH2 : Chg (fun k => k = f.g) w w2 := by
    rw [← hw2]
    exact ((HCH.out).set1 2 _).set1 3 _
  have HP := HWV.out
  have HP0 := (blk_put HP 0 (.int .i64 ((f.pos : Int) - (f.op.length : Int))) rfl).trans rfl
  have e0 : World.cell? _ ⟨w.heap.size, 0, none⟩ = some (.int .i64 ((f.pos : Int) - (f.op.length : Int))) := (blk_cell HP0 0).trans rfl
  have HP1 := (blk_put HP0 1 (.int .i64 (f.pos : Int)) rfl).trans rfl
  have e1 : World.cell? _ ⟨w.heap.size, 1, none⟩ = some (.int .i64 (f.pos : Int)) := (blk_cell HP1 1).trans rfl
  have HP2 := (blk_put HP1 2 (.slice A f.op.length c) rfl).trans rfl
  have e2 : World.cell? _ ⟨w.heap.size, 2, none⟩ = some (.slice A f.op.length c) := (blk_cell HP2 2).trans rfl
  have HP3 := (blk_put HP2 3 (.int .i64 0) rfl).trans rfl
  have e3 : World.cell? _ ⟨w.heap.size, 3, none⟩ = some (.int .i64 0) := (blk_cell HP3 3).trans rfl
  have HP4 := (blk_put HP3 4 (.int .i64 0) rfl).trans rfl
  have e4 : World.cell? _ ⟨w.heap.size, 4, none⟩ = some (.int .i64 0) := (blk_cell HP4 4).trans rfl
  have HCH3 := HCH2.alloc (.cells #[.int .i64 ((f.pos : Int) - (f.op.length : Int)), .int .i64 (f.pos : Int), .slice A f.op.length c, .int .i64 0, .int .i64 0] 42)
  have HCH4 := ((((HCH3.setCell (p := ⟨w.heap.size, 0, none⟩) (.inr (Nat.le_refl _)) (.int .i64 ((f.pos : Int) - (f.op.length : Int)))).setCell (p := ⟨w.heap.size, 1, none⟩) (.inr (Nat.le_refl _)) (.int .i64 (f.pos : Int))).setCell (p := ⟨w.heap.size, 2, none⟩) (.inr (Nat.le_refl _)) (.slice A f.op.length c)).setCell (p := ⟨w.heap.size, 3, none⟩) (.inr (Nat.le_refl _)) (.int .i64 0)).setCell (p := ⟨w.heap.size, 4, none⟩) (.inr (Nat.le_refl _)) (.int .i64 0)
  refine bodyPost_ret (v := .agg #[.int .i64 ((f.pos : Int) - (f.op.length : Int)), .int .i64 (f.pos : Int), .slice A f.op.length c, .int .i64 0, .int .i64 0]) (by simp [results, Try.results52, go_sem, e0, e1, e2, e3, e4]) rfl ⟨rfl, ⟨?_, Kd.R_nil _ _ _ _ _, Nat.zero_le _, hbig, by simp⟩, HCH4.drew⟩
  have hne4 : f.g ≠ w.heap.size := fun e => hne2 e.symm
  exact (Below.heap_setCell _ _ _ _ hne4).trans ((Below.heap_setCell _ _ _ _ hne4).trans ((Below.heap_setCell _ _ _ _ hne4).trans ((Below.heap_setCell _ _ _ _ hne4).trans ((Below.heap_setCell _ _ _ _ hne4).trans ((blk_alloc HG2.out (.cells #[.int .i64 ((f.pos : Int) - (f.op.length : Int)), .int .i64 (f.pos : Int), .slice A f.op.length c, .int .i64 0, .int .i64 0] 42)).trans rfl)))))
end Go.Proofs.Ytmbfjaogimkncaa
