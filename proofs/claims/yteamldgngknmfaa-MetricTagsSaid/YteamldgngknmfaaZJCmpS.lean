/- Package cmp: Compare of texts, Or of two numbers; the order of tags, as the sort asks it; no condition. -/
import Derived.Test.YteamldgngknmfaaZJTagPl
import Derived.Test.YteamldgngknmfaaZJPDx
import Derived.Sort.Grow
import Derived.Laws.Cover1
import Derived.Shelf.SlSortCmp.InsertionK
namespace Go.Proofs.Yteamldgngknmfaa
open Go.RowKit Go.Sort Go.Lib Go.Proofs.YteamldgngknmfaaW.PrintWords Go.Proofs.YteamldgngknmfaaW.PrintLast Go.Proofs.YteamldgngknmfaaW.PrintMore Go.Proofs.Yteamldgngknmfaa.PE
set_option linter.unusedVariables false
set_option linter.unusedSimpArgs false
def Gr (w w' : World) : Prop := ∃ q os, w' = grow (w.drewN q) os
theorem Gr.refl (w : World) : Gr w w := ⟨0, #[], by simp [World.drewN, grow]⟩
theorem Gr.trans {a b c : World} (h : Gr a b) (k : Gr b c) : Gr a c := by
  obtain ⟨q, os, rfl⟩ := h
  obtain ⟨q', os', rfl⟩ := k
  exact ⟨q + q', os ++ os', by simp [World.drewN, grow, Nat.add_assoc, Array.append_assoc]⟩
theorem Gr.of_alloc (w : World) (o : Obj) : Gr w (w.alloc o) := ⟨0, #[o], by rw [alloc_eq_grow]; simp [World.drewN, grow]⟩
theorem Gr.of_drewN (w : World) (n : Nat) : Gr w (w.drewN n) := ⟨n, #[], (grow_empty _).symm⟩
theorem Gr.of_drew (w : World) : Gr w w.drew := Gr.of_drewN w 1
theorem Gr.alloc {w w' : World} (h : Gr w w') (o : Obj) : Gr w (w'.alloc o) := h.trans (Gr.of_alloc _ _)
theorem Gr.drew {w w' : World} (h : Gr w w') : Gr w w'.drew := h.trans (Gr.of_drew _)
theorem Gr.drewN {w w' : World} (h : Gr w w') (n : Nat) : Gr w (w'.drewN n) := h.trans (Gr.of_drewN _ _)
theorem Gr.below {w w' : World} (h : Gr w w') : Below w.heap.size w w' := by
  obtain ⟨q, os, rfl⟩ := h
  refine ⟨rfl, rfl, rfl, by simp [grow, World.drewN], fun k hk => ?_⟩
  show (w.heap ++ os)[k]? = w.heap[k]?
  rw [Array.getElem?_append_left hk]
theorem leq_gtr (a b : List UInt8) : (Op.bytesLess a b || a == b) = !(Op.bytesLess b a) := by
  cases h : Op.bytesLess a b with
  | true =>
    cases h2 : Op.bytesLess b a with
    | true =>
      have := by_trans _ _ _ h h2
      rw [by_irr] at this
      cases this
    | false => rfl
  | false =>
    cases h2 : Op.bytesLess b a with
    | true =>
      have e : (a == b) = false := beq_eq_false_iff_ne.mpr (fun e => by rw [e, by_irr] at h2; cases h2)
      rw [e]; rfl
    | false =>
      have e := by_tri _ _ h h2
      subst e
      simp
def cmpS (a b : ByteArray) : Int := if sLt a b = true then -1 else if sLt b a = true then 1 else 0
def orI (a b : Int) : Int := if a = 0 then b else a
set_option maxHeartbeats 2000000 in
set_option maxRecDepth 100000 in
theorem cmpc_calls (a b : ByteArray) (w : World) : Calls Try.prog 78 #[.string a, .string b] w fun e w' => e = .returned (.int .i64 (cmpS a b)) ∧ Gr w w' := by
  have HA := Aside0.mk (show PD.cmp_isNaN_string.f a = some false by unfold PD.cmp_isNaN_string.f; simp)
  have HB := Aside0.mk (show PD.cmp_isNaN_string.f b = some false by unfold PD.cmp_isNaN_string.f; simp)
  have HE := Aside0.mk (show cmpS a b = if Op.bytesLess a.toList b.toList = true then -1 else if Op.bytesLess b.toList a.toList = true then 1 else 0 from rfl)
  have HL := leq_gtr a.toList b.toList
  cases h1 : Op.bytesLess a.toList b.toList with
  | true =>
    rw [h1] at HL
    have HE2 := Aside0.mk (HE.out.trans (if_pos h1))
    clear HL
    go_enter Try.func78, Try.ntmps78
    go_wp2_with fail
    refine (PD.cmp_isNaN_string.calls a false _ HA.out).mono ?_
    rintro e w1 ⟨rfl, ⟨nd, rfl⟩⟩
    go_wp2_with fail
    refine (PD.cmp_isNaN_string.calls b false _ HB.out).mono ?_
    rintro e w1 ⟨rfl, ⟨nd2, rfl⟩⟩
    go_wp2
    go_ret
    exact ⟨by rw [HE2.out] <;> rfl, Gr.of_drewN _ _⟩
  | false =>
    cases h2 : Op.bytesLess b.toList a.toList with
    | true =>
      rw [h1, h2] at HL
      have HE2 := Aside0.mk (HE.out.trans ((if_neg (by rw [h1]; decide)).trans (if_pos h2)))
      have h3 : (a.toList == b.toList) = false := by simpa using HL
      clear HL
      go_enter Try.func78, Try.ntmps78
      go_wp2_with fail
      refine (PD.cmp_isNaN_string.calls a false _ HA.out).mono ?_
      rintro e w1 ⟨rfl, ⟨nd, rfl⟩⟩
      go_wp2_with fail
      refine (PD.cmp_isNaN_string.calls b false _ HB.out).mono ?_
      rintro e w1 ⟨rfl, ⟨nd2, rfl⟩⟩
      go_wp2
      go_ret
      exact ⟨by rw [HE2.out] <;> rfl, Gr.of_drewN _ _⟩
    | false =>
      rw [h1, h2] at HL
      have HE2 := Aside0.mk (HE.out.trans ((if_neg (by rw [h1]; decide)).trans (if_neg (by rw [h2]; decide))))
      have h3 : (a.toList == b.toList) = true := by simpa using HL
      clear HL
      go_enter Try.func78, Try.ntmps78
      go_wp2_with fail
      refine (PD.cmp_isNaN_string.calls a false _ HA.out).mono ?_
      rintro e w1 ⟨rfl, ⟨nd, rfl⟩⟩
      go_wp2_with fail
      refine (PD.cmp_isNaN_string.calls b false _ HB.out).mono ?_
      rintro e w1 ⟨rfl, ⟨nd2, rfl⟩⟩
      go_wp2
      go_ret
      exact ⟨by rw [HE2.out] <;> rfl, Gr.of_drewN _ _⟩
theorem or2_f (a b : Int) : PD.cmp_Or_int.f 4 [a, b] = some (orI a b) := by
  have w1 : wrap64 1 = 1 := IntWalk.wrap64_in _ (by omega)
  have w2 : wrap64 2 = 2 := IntWalk.wrap64_in _ (by omega)
  unfold orI
  by_cases ha : a = 0
  · subst ha
    by_cases hb : b = 0
    · subst hb
      simp [PD.cmp_Or_int.f, PD.cmp_Or_int.l0, rd, w1, w2]
    · simp [PD.cmp_Or_int.f, PD.cmp_Or_int.l0, rd, hb, w1, w2]
  · simp [PD.cmp_Or_int.f, PD.cmp_Or_int.l0, rd, ha]
theorem or_calls (a b : Int) (g : Nat) (w : World) (h : w.heap[g]? = some (.cells #[.int .i64 a, .int .i64 b] 3 (0, 0))) : Calls Try.prog 77 #[.slice (some ⟨g, 0, none⟩) 2 2] w fun e w' => e = .returned (.int .i64 (orI a b)) ∧ ∃ nd, w' = w.drewN nd := by
  refine Calls.mono (PD.cmp_Or_int.calls 4 (some ⟨g, 0, none⟩) 2 [a, b] (orI a b) w ?_ (Nat.le_refl _) (or2_f a b)) (fun _ _ h => ⟨h.1, h.2.out⟩)
  refine Kd.C_of_reads (enc := Value.int .i64) (d := (0 : Int)) (h1 := fun _ => rfl) ⟨rfl, by show 2 ≤ 9223372036854775807; decide, fun _ => ⟨_, rfl, fun j hj => ?_⟩⟩
  have hj2 : j = 0 ∨ j = 1 := by
    have : j < 2 := hj
    omega
  rcases hj2 with rfl | rfl
  · exact (blk_cell h 0).trans rfl
  · exact (blk_cell h 1).trans rfl
def cmpT (x y : S37) : Int := orI (cmpS x.f0 y.f0) (cmpS x.f1 y.f1)
theorem cmpS_lt (a b : ByteArray) : (cmpS a b < 0 ↔ sLt a b = true) ∧ (cmpS a b = 0 ↔ a = b) := by
  unfold cmpS
  cases h1 : sLt a b with
  | true =>
    rw [if_pos rfl]
    refine ⟨by simp, ⟨fun h => by omega, fun h => ?_⟩⟩
    rw [h, sLt_irr] at h1
    cases h1
  | false =>
    rw [if_neg (by decide)]
    cases h2 : sLt b a with
    | true =>
      rw [if_pos rfl]
      refine ⟨by simp, ⟨fun h => by omega, fun h => ?_⟩⟩
      rw [h, sLt_irr] at h2
      cases h2
    | false =>
      rw [if_neg (by decide)]
      exact ⟨by simp, ⟨fun _ => sLt_tri h1 h2, fun _ => rfl⟩⟩
theorem cmpT_lt (x y : S37) : decide (cmpT x y < 0) = tLt x y := by
  unfold cmpT orI tLt
  have h0 := cmpS_lt x.f0 y.f0
  have h1 := cmpS_lt x.f1 y.f1
  by_cases e : x.f0 = y.f0
  · rw [if_pos (h0.2.mpr e), if_pos (sEq_iff.mpr e), Bool.eq_iff_iff, decide_eq_true_eq]
    exact h1.1
  · rw [if_neg (fun h => e (h0.2.mp h)), if_neg (fun h => e (sEq_iff.mp h)), Bool.eq_iff_iff, decide_eq_true_eq]
    exact h0.1
set_option maxHeartbeats 4000000 in
set_option maxRecDepth 100000 in
theorem closure_calls (x y : S37) (w : World) : Calls Try.prog 76 #[.agg #[.string x.f0, .string x.f1], .agg #[.string y.f0, .string y.f1]] w fun e w' => e = .returned (.int .i64 (cmpT x y)) ∧ Gr w w' := by
  have HE := Aside0.mk (show cmpT x y = orI (cmpS x.f0 y.f0) (cmpS x.f1 y.f1) from rfl)
  have HK := Aside0.mk (fun w => cmpc_calls x.f0 y.f0 w)
  have HV := Aside0.mk (fun w => cmpc_calls x.f1 y.f1 w)
  generalize cmpS x.f0 y.f0 = a at HE HK
  generalize cmpS x.f1 y.f1 = b at HE HV
  have HX := Aside0.mk (blk_alloc (blk_new w (.cells #[.string x.f0, .string x.f1] 37 (0, 0))) (.cells #[.string y.f0, .string y.f1] 37 (0, 0)))
  have HY := Aside0.mk (show ((w.alloc (.cells #[.string x.f0, .string x.f1] 37 (0, 0))).alloc (.cells #[.string y.f0, .string y.f1] 37 (0, 0))).heap[w.heap.size + 1]? = some (.cells #[.string y.f0, .string y.f1] 37 (0, 0)) by have h := blk_new (w.alloc (.cells #[.string x.f0, .string x.f1] 37 (0, 0))) (.cells #[.string y.f0, .string y.f1] 37 (0, 0)); simpa using h)
  have HG := Aside0.mk (((Gr.refl w).alloc (.cells #[.string x.f0, .string x.f1] 37 (0, 0))).alloc (.cells #[.string y.f0, .string y.f1] 37 (0, 0)))
  go_enter Try.func76, Try.ntmps76
  go_wp2
  refine start_ (n := 13) (S := fun w' => w'.cell? ⟨w.heap.size, 0, none⟩ = some (.string x.f0) ∧ w'.cell? ⟨w.heap.size, 1, none⟩ = some (.string x.f1) ∧ w'.cell? ⟨w.heap.size + 1, 0, none⟩ = some (.string y.f0) ∧ w'.cell? ⟨w.heap.size + 1, 1, none⟩ = some (.string y.f1)) (ds := []) #[false, false, false, false, false, false, false, false, false, false, false, false, false] (by kernel_rfl) rfl rfl ⟨(blk_cell (blk_drew HX.out) 0).trans rfl, (blk_cell (blk_drew HX.out) 1).trans rfl, (blk_cell (blk_drew HY.out) 0).trans rfl, (blk_cell (blk_drew HY.out) 1).trans rfl⟩ (fun hHeld => ?_)
  refine pure_ (i := 0) (N := some 5) (v := ?_) (a' := ?_) #[true, false, false, false, false, false, false, false, false, false, false, false, false] rfl rfl (by kernel_rfl) (fun _ _ _ h => h) (Or.inl ⟨by rfl, ?_⟩) ?_ ?_
  rotate_left
  · intro w'
    go_simp
    with_reducible rfl
  rotate_left
  · simp only [Act.put, List.setIfInBounds_toArray, List.set_cons_zero, List.set_cons_succ, i64_w, i32_w]
    rfl
  refine pure_ (i := 2) (N := some 7) (v := ?_) (a' := ?_) #[true, false, true, false, false, false, false, false, false, false, false, false, false] rfl rfl (by kernel_rfl) (fun _ _ _ h => h) (Or.inl ⟨by rfl, ?_⟩) ?_ ?_
  rotate_left
  · intro w'
    go_simp
    with_reducible rfl
  rotate_left
  · simp only [Act.put, List.setIfInBounds_toArray, List.set_cons_zero, List.set_cons_succ, i64_w, i32_w]
    rfl
  refine pure_ (i := 5) (N := some 10) (v := ?_) (a' := ?_) #[true, false, true, false, false, true, false, false, false, false, false, false, false] rfl rfl (by kernel_rfl) (fun _ _ _ h => h) (Or.inl ⟨by rfl, ?_⟩) ?_ ?_
  rotate_left
  · intro w'
    go_simp
    with_reducible rfl
  rotate_left
  · simp only [Act.put, List.setIfInBounds_toArray, List.set_cons_zero, List.set_cons_succ, i64_w, i32_w]
    rfl
  refine pure_ (i := 7) (N := some 12) (v := ?_) (a' := ?_) #[true, false, true, false, false, true, false, true, false, false, false, false, false] rfl rfl (by kernel_rfl) (fun _ _ _ h => h) (Or.inl ⟨by rfl, ?_⟩) ?_ ?_
  rotate_left
  · intro w'
    go_simp
    with_reducible rfl
  rotate_left
  · simp only [Act.put, List.setIfInBounds_toArray, List.set_cons_zero, List.set_cons_succ, i64_w, i32_w]
    rfl
  refine take_ (i := 1) (N := some 6) (v := ?_) (a' := ?_) #[true, true, true, false, false, true, false, true, false, false, false, false, false] rfl rfl (by kernel_rfl) (fun _ _ _ h => h) (Or.inl ⟨by rfl, ?_⟩) hHeld ?_ ?_
  rotate_left
  · rintro w' ⟨s0, s1, s2, s3⟩
    go_simp
    with_reducible rfl
  rotate_left
  · simp only [Act.put, List.setIfInBounds_toArray, List.set_cons_zero, List.set_cons_succ, i64_w, i32_w]
    rfl
  refine take_ (i := 3) (N := some 8) (v := ?_) (a' := ?_) #[true, true, true, true, false, true, false, true, false, false, false, false, false] rfl rfl (by kernel_rfl) (fun _ _ _ h => h) (Or.inl ⟨by rfl, ?_⟩) hHeld ?_ ?_
  rotate_left
  · rintro w' ⟨s0, s1, s2, s3⟩
    go_simp
    with_reducible rfl
  rotate_left
  · simp only [Act.put, List.setIfInBounds_toArray, List.set_cons_zero, List.set_cons_succ, i64_w, i32_w]
    rfl
  refine take_ (i := 6) (N := some 11) (v := ?_) (a' := ?_) #[true, true, true, true, false, true, true, true, false, false, false, false, false] rfl rfl (by kernel_rfl) (fun _ _ _ h => h) (Or.inl ⟨by rfl, ?_⟩) hHeld ?_ ?_
  rotate_left
  · rintro w' ⟨s0, s1, s2, s3⟩
    go_simp
    with_reducible rfl
  rotate_left
  · simp only [Act.put, List.setIfInBounds_toArray, List.set_cons_zero, List.set_cons_succ, i64_w, i32_w]
    rfl
  refine take_ (i := 8) (N := some 13) (v := ?_) (a' := ?_) #[true, true, true, true, false, true, true, true, true, false, false, false, false] rfl rfl (by kernel_rfl) (fun _ _ _ h => h) (Or.inl ⟨by rfl, ?_⟩) hHeld ?_ ?_
  rotate_left
  · rintro w' ⟨s0, s1, s2, s3⟩
    go_simp
    with_reducible rfl
  rotate_left
  · simp only [Act.put, List.setIfInBounds_toArray, List.set_cons_zero, List.set_cons_succ, i64_w, i32_w]
    rfl
  refine one_ (i := 4) (N := some 9) #[true, true, true, true, true, true, true, true, true, false, false, false, false] rfl rfl (by kernel_rfl) (by decide) (fun K hK => ?_)
  refine goes_ Try.func78 (by kernel_rfl) rfl #[.string x.f0, .string y.f0] (by rfl) rfl rfl (by first | (simp only [List.map_toArray, List.map_cons, List.map_nil]; done) | (simp only [List.map_toArray, List.map_cons, List.map_nil]; rfl) | simp) ?_
  with_reducible refine (HK.out _).mono ?_
  rintro e w3 ⟨rfl, hg⟩
  have hb := hg.below
  have n0 := Aside0.mk (blk_below (blk_drew HX.out) hb)
  have n1 := Aside0.mk (blk_below (blk_drew HY.out) hb)
  have n2 := Aside0.mk (HG.out.drew.trans hg)
  clear HX HY HG hb hg
  have HX := n0
  have HY := n1
  have HG := n2
  clear n0 n1 n2
  refine ⟨_, rfl, ?_⟩
  refine hK.out _ _ ⟨(blk_cell HX.out 0).trans rfl, (blk_cell HX.out 1).trans rfl, (blk_cell HY.out 0).trans rfl, (blk_cell HY.out 1).trans rfl⟩ (fun hHeld => ?_)
  clear hK K
  refine norm_ (a' := ?_) ?_ ?_
  rotate_left
  · show Act.put _ (some 9) _ = _
    simp only [Act.put, List.setIfInBounds_toArray, List.set_cons_zero, List.set_cons_succ, i64_w, i32_w]
    rfl
  refine one_ (i := 9) (N := some 14) #[true, true, true, true, true, true, true, true, true, true, false, false, false] rfl rfl (by kernel_rfl) (by decide) (fun K hK => ?_)
  refine goes_ Try.func78 (by kernel_rfl) rfl #[.string x.f1, .string y.f1] (by rfl) rfl rfl (by first | (simp only [List.map_toArray, List.map_cons, List.map_nil]; done) | (simp only [List.map_toArray, List.map_cons, List.map_nil]; rfl) | simp) ?_
  with_reducible refine (HV.out _).mono ?_
  rintro e w4 ⟨rfl, hg⟩
  have hb := hg.below
  have n0 := Aside0.mk (blk_below HX.out hb)
  have n1 := Aside0.mk (blk_below HY.out hb)
  have n2 := Aside0.mk (HG.out.trans hg)
  clear HX HY HG hb hg
  have HX := n0
  have HY := n1
  have HG := n2
  clear n0 n1 n2
  refine ⟨_, rfl, ?_⟩
  refine hK.out _ _ ⟨(blk_cell HX.out 0).trans rfl, (blk_cell HX.out 1).trans rfl, (blk_cell HY.out 0).trans rfl, (blk_cell HY.out 1).trans rfl⟩ (fun hHeld => ?_)
  clear hK K
  refine norm_ (a' := ?_) ?_ ?_
  rotate_left
  · show Act.put _ (some 14) _ = _
    simp only [Act.put, List.setIfInBounds_toArray, List.set_cons_zero, List.set_cons_succ, i64_w, i32_w]
    rfl
  refine one_ (i := 10) (N := some 15) #[true, true, true, true, true, true, true, true, true, true, true, false, false] rfl rfl (by kernel_rfl) (by decide) (fun K hK => ?_)
  refine value_ (w1 := ?_) (v := ?_) (by rfl) rfl ?_ ?_
  rotate_left 2
  · go_simp
    constructor
    · rfl
    · rfl
  refine hK.out _ _ ⟨(blk_cell (blk_alloc HX.out _) 0).trans rfl, (blk_cell (blk_alloc HX.out _) 1).trans rfl, (blk_cell (blk_alloc HY.out _) 0).trans rfl, (blk_cell (blk_alloc HY.out _) 1).trans rfl⟩ (fun hHeld => ?_)
  clear hK K
  refine norm_ (a' := ?_) ?_ ?_
  rotate_left
  · show Act.put _ (some 15) _ = _
    simp only [Act.put, List.setIfInBounds_toArray, List.set_cons_zero, List.set_cons_succ, i64_w, i32_w]
    rfl
  refine one_ (i := 11) (N := some 16) #[true, true, true, true, true, true, true, true, true, true, true, true, false] rfl rfl (by kernel_rfl) (by decide) (fun K hK => ?_)
  refine goes_ Try.func77 (by kernel_rfl) rfl #[.slice (some ⟨w4.heap.size, 0, none⟩) 2 2] (by rfl) rfl rfl (by first | (simp only [List.map_toArray, List.map_cons, List.map_nil]; done) | (simp only [List.map_toArray, List.map_cons, List.map_nil]; rfl) | simp) ?_
  with_reducible refine (or_calls a b w4.heap.size _ (blk_new w4 _)).mono ?_
  rintro e w5 ⟨rfl, ⟨nd, rfl⟩⟩
  refine ⟨_, rfl, ?_⟩
  refine hK.out _ _ ⟨(blk_cell (blk_drewN (blk_alloc HX.out _) _) 0).trans rfl, (blk_cell (blk_drewN (blk_alloc HX.out _) _) 1).trans rfl, (blk_cell (blk_drewN (blk_alloc HY.out _) _) 0).trans rfl, (blk_cell (blk_drewN (blk_alloc HY.out _) _) 1).trans rfl⟩ (fun hHeld => ?_)
  clear hK K
  refine norm_ (a' := ?_) ?_ ?_
  rotate_left
  · show Act.put _ (some 16) _ = _
    simp only [Act.put, List.setIfInBounds_toArray, List.set_cons_zero, List.set_cons_succ, i64_w, i32_w]
    rfl
  refine pure_ (i := 12) (N := some 4) (v := ?_) (a' := ?_) #[true, true, true, true, true, true, true, true, true, true, true, true, true] rfl rfl (by kernel_rfl) (fun _ _ _ h => h) (Or.inl ⟨by rfl, ?_⟩) ?_ ?_
  rotate_left
  · intro w'
    go_simp
    with_reducible rfl
  rotate_left
  · simp only [Act.put, List.setIfInBounds_toArray, List.set_cons_zero, List.set_cons_succ, i64_w, i32_w]
    rfl
  refine done_ (by kernel_rfl) ?_
  go_wp2
  go_ret
  exact ⟨by rw [HE.out] <;> rfl, (HG.out.alloc _).drewN _⟩
end Go.Proofs.Yteamldgngknmfaa
