/- Package frame: Head: how many bytes the frame has that bytes begin with; no condition. -/
import Derived.Test.YtmbfjaogimkncaaHead
namespace Go.Proofs.Ytmbfjaogimkncaa
open Go.RowKit Go.Proofs.YtmbfjaogimkncaaW.PrintWords Go.Proofs.YtmbfjaogimkncaaW.PrintLast Go.Proofs.YtmbfjaogimkncaaW.PrintMore
set_option linter.unusedVariables false
set_option linter.unusedSimpArgs false
def hdH (l : List Int) : Int × Int × Int := (if (hd l 1048576).1 = 0 then 0 else (hd l 1048576).1 + (hd l 1048576).2.1 + 4, (hd l 1048576).2.2.1, (hd l 1048576).2.2.2)
theorem hdx_bound (l : List Int) (most : Int) (hm : 0 ≤ most) : ∀ (k i : Nat) (n one : Int), 0 ≤ n → 0 ≤ one → i + k = 6 → 0 ≤ (hdx l most k i n one).1 ∧ (hdx l most k i n one).1 ≤ 6 ∧ 0 ≤ (hdx l most k i n one).2.1 ∧ (hdx l most k i n one).2.1 ≤ most
  | 0, i, n, one, h0, h1, h2 => ⟨by unfold hdx; decide, by unfold hdx; decide, by unfold hdx; decide, by unfold hdx; exact hm⟩
  | k + 1, i, n, one, h0, h1, h2 => by
    have hq : 0 ≤ n + one * (rd l i % 128) := by
      have : 0 ≤ one * (rd l i % 128) := Int.mul_nonneg h1 (by omega)
      omega
    unfold hdx
    split
    · exact ⟨by decide, by decide, by decide, hm⟩
    · split
      · exact hdx_bound l most hm k (i + 1) _ _ hq (by omega) (by omega)
      · split
        · exact ⟨by show (0 : Int) ≤ 0; omega, by show (0 : Int) ≤ 6; omega, by show (0 : Int) ≤ 0; omega, hm⟩
        · split
          · exact ⟨by show (0 : Int) ≤ 0; omega, by show (0 : Int) ≤ 6; omega, by show (0 : Int) ≤ 0; omega, hm⟩
          · rename_i h5
            exact ⟨by show (0 : Int) ≤ (i : Int) + 1; omega, by show (i : Int) + 1 ≤ 6; omega, hq, by show n + one * (rd l i % 128) ≤ most; omega⟩
theorem hdm_bound (l : List Int) (most : Int) (hm : 0 ≤ most) : ∀ (k i : Nat), 0 ≤ (hdm l most k i).1 ∧ (hdm l most k i).1 ≤ 6 ∧ 0 ≤ (hdm l most k i).2.1 ∧ (hdm l most k i).2.1 ≤ most
  | 0, i => by unfold hdm; exact hdx_bound l most hm 3 3 0 1 (by omega) (by omega) rfl
  | k + 1, i => by
    unfold hdm
    split
    · exact ⟨by decide, by decide, by decide, hm⟩
    · split
      · exact hdm_bound l most hm k (i + 1)
      · exact ⟨by show (0 : Int) ≤ 0; omega, by show (0 : Int) ≤ 6; omega, by show (0 : Int) ≤ 0; omega, hm⟩
set_option maxHeartbeats 4000000 in
set_option maxRecDepth 100000 in
theorem fHead_calls (A : Option Addr) (c : Nat) (l : List Int) (n : Nat) (hn : l.length = n) (w : World) (hC : (Kd.int .u8).C w A n l) (hx : ∀ x ∈ l, 0 ≤ x ∧ x < 256) :
    Calls Try.prog 26 #[.slice A n c] w fun e w' => e = .returned (.tuple #[.int .i64 (hdH l).1, .agg #[.int .i64 (hdH l).2.1, .int .i64 (hdH l).2.2]]) ∧ Below w.heap.size w w' := by
  have hb := hdm_bound l 1048576 (by decide) 3 0
  have HC := Aside0.mk (fhead_calls A c l n hn (w.alloc (.cells #[.int .i64 0, .int .i64 0] 40)) (Kd.C_alloc hC _) hx)
  have hE : hdH l = (if (hd l 1048576).1 = 0 then 0 else (hd l 1048576).1 + (hd l 1048576).2.1 + 4, (hd l 1048576).2.2.1, (hd l 1048576).2.2.2) := rfl
  rw [hE]
  have hb2 : 0 ≤ (hd l 1048576).1 ∧ (hd l 1048576).1 ≤ 6 ∧ 0 ≤ (hd l 1048576).2.1 ∧ (hd l 1048576).2.1 ≤ 1048576 := hb
  obtain ⟨⟨a, m, cd, ft⟩, hr⟩ : ∃ r, hd l 1048576 = r := ⟨_, rfl⟩
  rw [hr] at HC hb2 ⊢
  have hb3 : 0 ≤ a ∧ a ≤ 6 ∧ 0 ≤ m ∧ m ≤ 1048576 := hb2
  have HB := Aside0.mk (below_alloc (Below.refl w.heap.size w) (.cells #[.int .i64 0, .int .i64 0] 40))
  have HF := Aside0.mk (blk_new w (.cells #[.int .i64 0, .int .i64 0] 40))
  clear hC hx hn hr hE hb hb2
  have HC2 : Aside0 (Calls Try.prog 53 #[.slice A n c] (w.alloc (.cells #[.int .i64 0, .int .i64 0] 40)) fun e w' => e = .returned (.tuple #[.int .i64 a, .int .i64 m, .agg #[.int .i64 cd, .int .i64 ft]]) ∧ Below (w.alloc (.cells #[.int .i64 0, .int .i64 0] 40)).heap.size (w.alloc (.cells #[.int .i64 0, .int .i64 0] 40)) w') := HC
  show Calls Try.prog _ _ _ fun e w' => e = .returned (.tuple #[.int .i64 (if a = 0 then 0 else a + m + 4), .agg #[.int .i64 cd, .int .i64 ft]]) ∧ Below w.heap.size w w'
  clear HC
  obtain ⟨res, hres⟩ : ∃ res, (if a = 0 then 0 else a + m + 4) = res := ⟨_, rfl⟩
  rw [hres]
  have HRES := Aside0.mk hres
  obtain ⟨ba0, ba1, bm0, bm1⟩ := hb3
  clear hres
  go_enter Try.func26, Try.ntmps26
  go_wp2_with fail
  with_reducible refine HC2.out.mono ?_
  rintro e w1 ⟨rfl, hb1⟩
  have n0 := Aside0.mk (below_step HB.out hb1)
  have n1 := Aside0.mk (blk_below HF.out hb1)
  clear HB HF hb1 HC2
  have HB := n0
  have HF := n1
  clear n0 n1
  have HM := Aside0.mk (blk_new w1 (.cells #[.int .i64 cd, .int .i64 ft] 40))
  have HF1 := Aside0.mk (blk_alloc HF.out (.cells #[.int .i64 cd, .int .i64 ft] 40))
  have HF2 := Aside0.mk (blk_drew HF1.out)
  have HB2 := Aside0.mk (below_drew1 (below_alloc HB.out (.cells #[.int .i64 cd, .int .i64 ft] 40)))
  have hw1 : wrap64 (a + m) = a + m := IntWalk.wrap64_in _ (by omega)
  have hw2 : wrap64 (a + m + 4) = a + m + 4 := IntWalk.wrap64_in _ (by omega)
  by_cases ha : a = 0
  · have ha2 : (a == 0) = true := beq_iff_eq.mpr ha
    have HA0 := Aside0.mk (show res = 0 by rw [← HRES.out, if_pos ha])
    clear ha
    go_wp2
    have HE0 := Aside0.mk ((blk_put HF2.out 0 (.int .i64 cd) rfl).trans rfl)
    have HE1 := Aside0.mk ((blk_put HE0.out 1 (.int .i64 ft) rfl).trans rfl)
    have c0 := (blk_cell HF1.out 0).trans rfl
    have c1 := (blk_cell HF1.out 1).trans rfl
    have f0 := blk_frozen HF1.out 0
    have f1 := blk_frozen HF1.out 1
    refine start_ (n := 3) (S := fun w' => w'.cell? ⟨w1.heap.size, 0, none⟩ = some (.int .i64 cd) ∧ w'.cell? ⟨w1.heap.size, 1, none⟩ = some (.int .i64 ft)) (ds := [2]) #[false, false, false] (by kernel_rfl) rfl rfl ⟨(blk_cell (blk_drew HM.out) 0).trans rfl, (blk_cell (blk_drew HM.out) 1).trans rfl⟩ (fun hHeld => ?_)
    refine pure_ (i := 1) (N := some 2) (v := ?_) (a' := ?_) #[false, true, false] rfl rfl (by kernel_rfl) (fun _ _ _ h => h) (Or.inl ⟨by rfl, ?_⟩) ?_ ?_
    rotate_left
    · intro w'
      go_simp
      with_reducible rfl
    rotate_left
    · simp only [Act.put, List.setIfInBounds_toArray, List.set_cons_zero, List.set_cons_succ, i64_w, i32_w]
      rfl
    refine take_ (i := 0) (N := some 15) (v := ?_) (a' := ?_) #[true, true, false] rfl rfl (by kernel_rfl) (fun _ _ _ h => h) (Or.inl ⟨by rfl, ?_⟩) hHeld ?_ ?_
    rotate_left
    · rintro w' ⟨s0, s1⟩
      go_simp
      with_reducible rfl
    rotate_left
    · simp only [Act.put, List.setIfInBounds_toArray, List.set_cons_zero, List.set_cons_succ, i64_w, i32_w]
      rfl
    refine last_ (i := 2) (N := none) #[true, true, true] rfl rfl (by kernel_rfl) (by decide) (fun K hK => ?_)
    refine skip_ (w1 := ?_) (by rfl) rfl ?_ ?_
    rotate_left
    · go_simp
      rfl
    refine hK.out _ _ ?_
    clear hK K
    refine done_ (by kernel_rfl) ?_
    go_wp2
    have e0 : World.cell? _ ⟨w.heap.size, 0, none⟩ = some (.int .i64 cd) := (blk_cell ((blk_put HF1.out 0 (.int .i64 cd) rfl).trans rfl) 0).trans rfl
    have e1 : World.cell? _ ⟨w.heap.size, 1, none⟩ = some (.int .i64 ft) := (blk_cell ((blk_put ((blk_put HF1.out 0 (.int .i64 cd) rfl).trans rfl) 1 (.int .i64 ft) rfl).trans rfl) 1).trans rfl
    try rw [Exit.noGoto_ret]
    refine bodyPost_ret (v := .tuple #[.int .i64 0, .agg #[.int .i64 cd, .int .i64 ft]]) (by simp [results, Try.results26, go_sem, e0, e1, e0]) rfl ⟨by first | (rw [HA0.out]; done) | (rw [HA0.out]; rfl), ?_⟩
    exact Below.setCell (Below.setCell HB2.out (Nat.le_refl _) _) (Nat.le_refl _) _
  · have ha2 : (a == 0) = false := beq_eq_false_iff_ne.mpr ha
    have HA0 := Aside0.mk (show res = a + m + 4 by rw [← HRES.out, if_neg ha])
    clear ha
    go_wp2
    have HE0 := Aside0.mk ((blk_put HF2.out 0 (.int .i64 cd) rfl).trans rfl)
    have HE1 := Aside0.mk ((blk_put HE0.out 1 (.int .i64 ft) rfl).trans rfl)
    have c0 := (blk_cell HF1.out 0).trans rfl
    have c1 := (blk_cell HF1.out 1).trans rfl
    have f0 := blk_frozen HF1.out 0
    have f1 := blk_frozen HF1.out 1
    refine start_ (n := 7) (S := fun w' => w'.cell? ⟨w1.heap.size, 0, none⟩ = some (.int .i64 cd) ∧ w'.cell? ⟨w1.heap.size, 1, none⟩ = some (.int .i64 ft)) (ds := [6]) #[false, false, false, false, false, false, false] (by kernel_rfl) rfl rfl ⟨(blk_cell (blk_drew HM.out) 0).trans rfl, (blk_cell (blk_drew HM.out) 1).trans rfl⟩ (fun hHeld => ?_)
    refine pure_ (i := 0) (N := some 16) (v := ?_) (a' := ?_) #[true, false, false, false, false, false, false] rfl rfl (by kernel_rfl) (fun _ _ _ h => h) (Or.inl ⟨by rfl, ?_⟩) ?_ ?_
    rotate_left
    · intro w'
      go_simp
      with_reducible rfl
    rotate_left
    · simp only [Act.put, List.setIfInBounds_toArray, List.set_cons_zero, List.set_cons_succ, i64_w, i32_w]
      rfl
    refine pure_ (i := 1) (N := some 17) (v := ?_) (a' := ?_) #[true, true, false, false, false, false, false] rfl rfl (by kernel_rfl) (fun _ _ _ h => h) (Or.inl ⟨by rfl, ?_⟩) ?_ ?_
    rotate_left
    · intro w'
      go_simp
      with_reducible rfl
    rotate_left
    · simp only [Act.put, List.setIfInBounds_toArray, List.set_cons_zero, List.set_cons_succ, i64_w, i32_w]
      rfl
    refine pure_ (i := 2) (N := some 18) (v := ?_) (a' := ?_) #[true, true, true, false, false, false, false] rfl rfl (by kernel_rfl) (fun _ _ _ h => h) (Or.inl ⟨by rfl, ?_⟩) ?_ ?_
    rotate_left
    · intro w'
      go_simp
      with_reducible rfl
    rotate_left
    · simp only [Act.put, List.setIfInBounds_toArray, List.set_cons_zero, List.set_cons_succ, i64_w, i32_w]
      rfl
    refine pure_ (i := 3) (N := some 19) (v := ?_) (a' := ?_) #[true, true, true, true, false, false, false] rfl rfl (by kernel_rfl) (fun _ _ _ h => h) (Or.inl ⟨by rfl, ?_⟩) ?_ ?_
    rotate_left
    · intro w'
      go_simp
      with_reducible rfl
    rotate_left
    · simp only [Act.put, List.setIfInBounds_toArray, List.set_cons_zero, List.set_cons_succ, i64_w, i32_w]
      rfl
    refine pure_ (i := 5) (N := some 2) (v := ?_) (a' := ?_) #[true, true, true, true, false, true, false] rfl rfl (by kernel_rfl) (fun _ _ _ h => h) (Or.inl ⟨by rfl, ?_⟩) ?_ ?_
    rotate_left
    · intro w'
      go_simp
      with_reducible rfl
    rotate_left
    · simp only [Act.put, List.setIfInBounds_toArray, List.set_cons_zero, List.set_cons_succ, i64_w, i32_w]
      rfl
    refine take_ (i := 4) (N := some 20) (v := ?_) (a' := ?_) #[true, true, true, true, true, true, false] rfl rfl (by kernel_rfl) (fun _ _ _ h => h) (Or.inl ⟨by rfl, ?_⟩) hHeld ?_ ?_
    rotate_left
    · rintro w' ⟨s0, s1⟩
      go_simp
      with_reducible rfl
    rotate_left
    · simp only [Act.put, List.setIfInBounds_toArray, List.set_cons_zero, List.set_cons_succ, i64_w, i32_w]
      rfl
    refine last_ (i := 6) (N := none) #[true, true, true, true, true, true, true] rfl rfl (by kernel_rfl) (by decide) (fun K hK => ?_)
    refine skip_ (w1 := ?_) (by rfl) rfl ?_ ?_
    rotate_left
    · go_simp
      rfl
    refine hK.out _ _ ?_
    clear hK K
    refine done_ (by kernel_rfl) ?_
    go_wp2
    have e0 : World.cell? _ ⟨w.heap.size, 0, none⟩ = some (.int .i64 cd) := (blk_cell ((blk_put HF1.out 0 (.int .i64 cd) rfl).trans rfl) 0).trans rfl
    have e1 : World.cell? _ ⟨w.heap.size, 1, none⟩ = some (.int .i64 ft) := (blk_cell ((blk_put ((blk_put HF1.out 0 (.int .i64 cd) rfl).trans rfl) 1 (.int .i64 ft) rfl).trans rfl) 1).trans rfl
    try rw [Exit.noGoto_ret]
    refine bodyPost_ret (v := .tuple #[.int .i64 (a + m + 4), .agg #[.int .i64 cd, .int .i64 ft]]) (by simp [results, Try.results26, go_sem, e0, e1, hw1, hw2]) rfl ⟨by first | (rw [HA0.out]; done) | (rw [HA0.out]; rfl), ?_⟩
    exact Below.setCell (Below.setCell HB2.out (Nat.le_refl _) _) (Nat.le_refl _) _
end Go.Proofs.Ytmbfjaogimkncaa
