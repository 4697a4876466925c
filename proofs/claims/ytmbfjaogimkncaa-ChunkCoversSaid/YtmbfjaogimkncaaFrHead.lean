/- Package chunk: head: a byte of the head; no condition. -/
import Derived.Test.YtmbfjaogimkncaaFrTake
import Derived.Test.YtmbfjaogimkncaaHeadB
import Derived.Test.YtmbfjaogimkncaaFrPl
namespace Go.Proofs.Ytmbfjaogimkncaa
open Go.RowKit Go.Proofs.YtmbfjaogimkncaaW.PrintWords Go.Proofs.YtmbfjaogimkncaaW.PrintLast Go.Proofs.YtmbfjaogimkncaaW.PrintMore
set_option linter.unusedVariables false
set_option linter.unusedSimpArgs false
theorem eqFault19 (d : Nat) (w : World) (x0 y0 : Int) (x1 y1 : Int) :
    (Op.equalIn (d + 2) 40 (.agg #[.int .i64 x0, .int .i64 x1]) (.agg #[.int .i64 y0, .int .i64 y1])).run Try.prog w = .ok (x0 == y0 && (x1 == y1)) w := by
  refine eqA_of Try.underlying40 (by kernel_rfl) ?_
  refine eqf_cons (by rfl) (by go_simp; rfl) (by go_simp; rfl) (by go_simp) ?_
  exact eqf_last (by rfl) (by go_simp; rfl) (by go_simp; rfl) (by go_simp)
attribute [local go_sem high] eqFault19
set_option maxHeartbeats 4000000 in
set_option maxRecDepth 100000 in
theorem frhead_bad (f : Fr) (A : Option Addr) (c : Nat) (xs : List Int) (n : Nat) (hn : xs.length = n) (h1n : 1 ≤ n) (hc : n ≤ c) (w : World) (h : FrAt f w) (hC : (Kd.int .u8).C w A n xs) (hx : ∀ x ∈ xs, 0 ≤ x ∧ x < 256) (hb : f.pos + 1 ≤ 140737488350000)
    (cd ft m : Int) (hh : hdH (f.op ++ xs.take 1) = (m, cd, ft)) (hbad : ¬ (cd = 0 ∧ ft = 0)) :
    Calls Try.prog 78 #[.pointer (some ⟨f.g, 0, none⟩), .slice A n c] w fun e w' => e = .returned (.tuple #[.slice none 0 0, .int .i64 cd]) ∧ FrTurn f (fun v' => ⟨f.g, f.most, f.pos + 1, v', f.op ++ xs.take 1, f.need, f.ended⟩) w w' := by
  have H := Aside0.mk h
  have HT0 := (fun W (h2 : FrAt f W) (hC2 : (Kd.int .u8).C W A 1 (xs.take 1)) => frtake_calls f A c (xs.take 1) 1 (by rw [List.length_take]; omega) W h2 hC2 (fun x hx2 => hx x (List.mem_of_mem_take hx2)) (by omega))
  obtain ⟨op, hop⟩ : ∃ o, f.op ++ xs.take 1 = o := ⟨_, rfl⟩
  rw [hop] at HT0 hh ⊢
  have HT := Aside0.mk HT0
  have HC := Aside0.mk hC
  have HH := Aside0.mk hh
  have hc1 : (1 : Int) ≤ (c : Int) := by omega
  clear h hC hx hh HT0 hop
  go_enter Try.func78, Try.ntmps78
  go_wp2_with fail
  with_reducible refine (HT.out _ H.out (C_take HC.out 1 h1n)).mono ?_
  rintro e w1 ⟨rfl, v', h1, h2, h3⟩
  obtain ⟨A1, c1, hv1, hc2, hC1⟩ := h1.slice
  have HF := Aside0.mk h1
  have d2 := (blk_cell h1.blk 2).trans rfl
  have hv2 : v' = .slice A1 op.length c1 := hv1
  subst hv2
  have HL := Aside0.mk (fHead_calls A1 c1 op _ rfl w1 hC1 h1.bytes)
  rw [HH.out] at HL
  clear h1 hC1
  go_wp2_with fail
  with_reducible refine HL.out.mono ?_
  rintro e w2 ⟨rfl, hb2⟩
  have HF2 := Aside0.mk (HF.out.below hb2)
  have HCH := Aside0.mk (h2.below hb2)
  have HOW := Aside0.mk h3
  have HM := Aside0.mk (blk_new w2 (.cells #[.int .i64 cd, .int .i64 ft] 40))
  have m0 := (blk_cell HM.out 0).trans rfl
  have m1 := (blk_cell HM.out 1).trans rfl
  have hbb : (cd == 0 && (ft == 0)) = false := by
    cases h : (cd == 0 && (ft == 0)) with
    | false => rfl
    | true =>
      rw [Bool.and_eq_true, beq_iff_eq, beq_iff_eq] at h
      exact absurd h hbad
  clear hb2 h2 h3 d2 HL
  go_wp2
  go_quiet (fail)
  go_wp2
  go_ret2
  exact ⟨rfl, _, HF2.out.alloc _ |>.drewN _, (HCH.out.alloc _).drewN _, HOW.out⟩
attribute [local go_sem high] eqFault19
theorem hdH_bound (l : List Int) : 0 ≤ (hdH l).1 ∧ (hdH l).1 ≤ 1048586 := by
  have hb : 0 ≤ (hd l 1048576).1 ∧ (hd l 1048576).1 ≤ 6 ∧ 0 ≤ (hd l 1048576).2.1 ∧ (hd l 1048576).2.1 ≤ 1048576 := hdm_bound l 1048576 (by decide) 3 0
  unfold hdH
  simp only []
  split
  · omega
  · omega
set_option maxHeartbeats 4000000 in
set_option maxRecDepth 100000 in
theorem frhead_long (f : Fr) (A : Option Addr) (c : Nat) (xs : List Int) (n : Nat) (hn : xs.length = n) (h1n : 1 ≤ n) (hc : n ≤ c) (w : World) (h : FrAt f w) (hC : (Kd.int .u8).C w A n xs) (hx : ∀ x ∈ xs, 0 ≤ x ∧ x < 256) (hb : f.pos + 1 ≤ 140737488350000)
    (cd ft m : Int) (hh : hdH (f.op ++ xs.take 1) = (m, cd, ft)) (hok : cd = 0 ∧ ft = 0) (hm0 : 0 < m) (hlong : f.most < m - (f.op ++ xs.take 1).length - 4) :
    Calls Try.prog 78 #[.pointer (some ⟨f.g, 0, none⟩), .slice A n c] w fun e w' => e = .returned (.tuple #[.slice none 0 0, .int .i64 12]) ∧ FrTurn f (fun v' => ⟨f.g, f.most, f.pos + 1, v', f.op ++ xs.take 1, f.need, f.ended⟩) w w' := by
  have H := Aside0.mk h
  have hmb : m ≤ 1048586 := by have := (hdH_bound (f.op ++ xs.take 1)).2; rw [hh] at this; exact this
  have hle := h.le
  have hopl : (f.op ++ xs.take 1).length ≤ 140737488350000 := by rw [List.length_append, List.length_take]; omega
  have HT0 := (fun W (h2 : FrAt f W) (hC2 : (Kd.int .u8).C W A 1 (xs.take 1)) => frtake_calls f A c (xs.take 1) 1 (by rw [List.length_take]; omega) W h2 hC2 (fun x hx2 => hx x (List.mem_of_mem_take hx2)) (by omega))
  obtain ⟨op, hop⟩ : ∃ o, f.op ++ xs.take 1 = o := ⟨_, rfl⟩
  rw [hop] at HT0 hh hlong hopl ⊢
  have HT := Aside0.mk HT0
  have HC := Aside0.mk hC
  have HH := Aside0.mk hh
  have hc1 : (1 : Int) ≤ (c : Int) := by omega
  clear h hC hx hh HT0 hop hle
  go_enter Try.func78, Try.ntmps78
  go_wp2_with fail
  with_reducible refine (HT.out _ H.out (C_take HC.out 1 h1n)).mono ?_
  rintro e w1 ⟨rfl, v', h1, h2, h3⟩
  obtain ⟨A1, c1, hv1, hc2, hC1⟩ := h1.slice
  have HF := Aside0.mk h1
  have d2 := (blk_cell h1.blk 2).trans rfl
  have hv2 : v' = .slice A1 op.length c1 := hv1
  subst hv2
  have HL := Aside0.mk (fHead_calls A1 c1 op _ rfl w1 hC1 h1.bytes)
  rw [HH.out] at HL
  clear h1 hC1
  go_wp2_with fail
  with_reducible refine HL.out.mono ?_
  rintro e w2 ⟨rfl, hb2⟩
  have HF2 := Aside0.mk (HF.out.below hb2)
  have HCH := Aside0.mk (h2.below hb2)
  have HOW := Aside0.mk h3
  have HM := Aside0.mk (blk_new w2 (.cells #[.int .i64 cd, .int .i64 ft] 40))
  have m0 := (blk_cell HM.out 0).trans rfl
  have m1 := (blk_cell HM.out 1).trans rfl
  have HG := Aside0.mk (blk_alloc HF2.out.blk (.cells #[.int .i64 cd, .int .i64 ft] 40))
  have g0 := (blk_cell HG.out 0).trans rfl
  have g2 := (blk_cell HG.out 2).trans rfl
  have hbb : (cd == 0 && (ft == 0)) = true := by rw [hok.1, hok.2]; rfl
  have hw1 : wrap64 (m - (op.length : Int)) = m - (op.length : Int) := IntWalk.wrap64_in _ (by omega)
  have hw2 : wrap64 (m - (op.length : Int) - 4) = m - (op.length : Int) - 4 := IntWalk.wrap64_in _ (by omega)
  have hm1 : decide (0 < m) = true := decide_eq_true hm0
  have hl1 : decide (f.most < m - (op.length : Int) - 4) = true := decide_eq_true hlong
  clear hb2 h2 h3 d2 HL hok
  go_wp2
  go_quiet (fail)
  go_wp2
  go_ret2
  exact ⟨rfl, _, HF2.out.alloc _ |>.drewN _, (HCH.out.alloc _).drewN _, HOW.out⟩
set_option maxHeartbeats 4000000 in
set_option maxRecDepth 100000 in
theorem frhead_ok (f : Fr) (A : Option Addr) (c : Nat) (xs : List Int) (n : Nat) (hn : xs.length = n) (h1n : 1 ≤ n) (hc : n ≤ c) (w : World) (h : FrAt f w) (hC : (Kd.int .u8).C w A n xs) (hx : ∀ x ∈ xs, 0 ≤ x ∧ x < 256) (hb : f.pos + 1 ≤ 140737488350000)
    (cd ft : Int) (m : Nat) (hh : hdH (f.op ++ xs.take 1) = ((m : Int), cd, ft)) (hok : cd = 0 ∧ ft = 0) (hlong : ¬ (0 < (m : Int) ∧ f.most < (m : Int) - (f.op ++ xs.take 1).length - 4)) :
    Calls Try.prog 78 #[.pointer (some ⟨f.g, 0, none⟩), .slice A n c] w fun e w' => e = .returned (.tuple #[.slice (if c = 1 then A else Option.map (fun x => x.add 1) A) (n - 1) (c - 1), .int .i64 0]) ∧ FrTurn f (fun v' => ⟨f.g, f.most, f.pos + 1, v', f.op ++ xs.take 1, m, f.ended⟩) w w' := by
  have H := Aside0.mk h
  have hmb : (m : Int) ≤ 1048586 := by have := (hdH_bound (f.op ++ xs.take 1)).2; rw [hh] at this; exact this
  have hle := h.le
  have hopl : (f.op ++ xs.take 1).length ≤ 140737488350000 := by rw [List.length_append, List.length_take]; omega
  have HT0 := (fun W (h2 : FrAt f W) (hC2 : (Kd.int .u8).C W A 1 (xs.take 1)) => frtake_calls f A c (xs.take 1) 1 (by rw [List.length_take]; omega) W h2 hC2 (fun x hx2 => hx x (List.mem_of_mem_take hx2)) (by omega))
  obtain ⟨op, hop⟩ : ∃ o, f.op ++ xs.take 1 = o := ⟨_, rfl⟩
  rw [hop] at HT0 hh hlong hopl ⊢
  have HT := Aside0.mk HT0
  have HC := Aside0.mk hC
  have HH := Aside0.mk hh
  have hc1 : (1 : Int) ≤ (c : Int) := by omega
  have hn1 : (1 : Int) ≤ (n : Int) := by omega
  clear h hC hx hh HT0 hop hle
  go_enter Try.func78, Try.ntmps78
  go_wp2_with fail
  with_reducible refine (HT.out _ H.out (C_take HC.out 1 h1n)).mono ?_
  rintro e w1 ⟨rfl, v', h1, h2, h3⟩
  obtain ⟨A1, c1, hv1, hc2, hC1⟩ := h1.slice
  have HF := Aside0.mk h1
  have d2 := (blk_cell h1.blk 2).trans rfl
  have hv2 : v' = .slice A1 op.length c1 := hv1
  subst hv2
  have HL := Aside0.mk (fHead_calls A1 c1 op _ rfl w1 hC1 h1.bytes)
  rw [HH.out] at HL
  clear h1 hC1
  go_wp2_with fail
  with_reducible refine HL.out.mono ?_
  rintro e w2 ⟨rfl, hb2⟩
  have HF2 := Aside0.mk (HF.out.below hb2)
  have HCH := Aside0.mk (h2.below hb2)
  have HOW := Aside0.mk h3
  have HM := Aside0.mk (blk_new w2 (.cells #[.int .i64 cd, .int .i64 ft] 40))
  have m0 := (blk_cell HM.out 0).trans rfl
  have m1 := (blk_cell HM.out 1).trans rfl
  have HG := Aside0.mk (blk_alloc HF2.out.blk (.cells #[.int .i64 cd, .int .i64 ft] 40))
  have g0 := (blk_cell HG.out 0).trans rfl
  have g2 := (blk_cell HG.out 2).trans rfl
  have g3 := (blk_cell HG.out 3).trans rfl
  have f3 := blk_frozen HG.out 3
  have hbb : (cd == 0 && (ft == 0)) = true := by rw [hok.1, hok.2]; rfl
  have hw1 : wrap64 ((m : Int) - (op.length : Int)) = (m : Int) - (op.length : Int) := IntWalk.wrap64_in _ (by omega)
  have hw2 : wrap64 ((m : Int) - (op.length : Int) - 4) = (m : Int) - (op.length : Int) - 4 := IntWalk.wrap64_in _ (by omega)
  have HCM := Aside0.mk (((HCH.out.alloc (.cells #[.int .i64 cd, .int .i64 ft] 40))).setCell (p := ⟨f.g, 3, none⟩) (.inl (show f.F f.g from .inl rfl)) (.int .i64 (m : Int)))
  have HFM : Aside0 (FrAt ⟨f.g, f.most, f.pos + 1, .slice A1 op.length c1, op, m, f.ended⟩ ((w2.alloc (.cells #[.int .i64 cd, .int .i64 ft] 40)).setCell ⟨f.g, 3, none⟩ (.int .i64 (m : Int)))) := by
    have h1 := HF2.out.alloc (.cells #[.int .i64 cd, .int .i64 ft] 40)
    refine ⟨⟨(blk_put HG.out 3 (.int .i64 (m : Int)) rfl).trans rfl, ?_, h1.le, h1.big, h1.bytes⟩⟩
    have hne := h1.own_g
    exact Kd.R_step h1.row (fun k hk hl => Below.heap_setCell _ _ _ k (fun e => hne (by subst e; exact hk)))
  by_cases hm0 : 0 < (m : Int)
  · have hm1 : decide (0 < (m : Int)) = true := decide_eq_true hm0
    have hm2 : decide (0 < m) = true := decide_eq_true (by omega)
    have hl1 : decide (f.most < (m : Int) - (op.length : Int) - 4) = false := decide_eq_false (fun h => hlong ⟨hm0, h⟩)
    clear hb2 h2 h3 d2 HL hok hlong
    go_wp2
    go_quiet (fail)
    go_wp2
    all_goals
      go_ret2
      refine ⟨?_, _, HFM.out.drewN _, HCM.out.drewN _, HOW.out⟩
      simp [*]
  · have hm1 : decide (0 < (m : Int)) = false := decide_eq_false hm0
    have hm2 : decide (0 < m) = false := decide_eq_false (by omega)
    clear hb2 h2 h3 d2 HL hok hlong
    go_wp2
    go_quiet (fail)
    go_wp2
    all_goals
      go_ret2
      refine ⟨?_, _, HFM.out.drewN _, HCM.out.drewN _, HOW.out⟩
      simp [*]
theorem hdx_code (l : List Int) (most : Int) : ∀ (k i : Nat) (n one : Int), (hdx l most k i n one).2.2.1 = 0 → (hdx l most k i n one).2.2.2 = 0
  | 0, i, n, one => by
    unfold hdx
    intro h
    exact absurd h (by decide)
  | k + 1, i, n, one => by
    unfold hdx
    split
    · intro _; rfl
    · split
      · exact hdx_code l most k _ _ _
      · split
        · intro h
          exact absurd h (by show ¬ (21 : Int) = 0; decide)
        · split
          · intro h
            exact absurd h (by show ¬ (12 : Int) = 0; decide)
          · intro _; rfl
theorem hdm_code (l : List Int) (most : Int) : ∀ (k i : Nat), (hdm l most k i).2.2.1 = 0 → (hdm l most k i).2.2.2 = 0
  | 0, i => by unfold hdm; exact hdx_code l most _ _ _ _
  | k + 1, i => by
    unfold hdm
    split
    · intro _; rfl
    · split
      · exact hdm_code l most k _
      · intro h
        refine absurd h ?_
        show ¬ hdc i = 0
        unfold hdc
        split <;> decide
theorem hdH_code (l : List Int) (h : (hdH l).2.1 = 0) : (hdH l).2.2 = 0 := hdm_code l 1048576 3 0 h
theorem frhead_any (f : Fr) (A : Option Addr) (c : Nat) (xs : List Int) (n : Nat) (hn : xs.length = n) (h1n : 1 ≤ n) (hc : n ≤ c) (w : World) (h : FrAt f w) (hC : (Kd.int .u8).C w A n xs) (hx : ∀ x ∈ xs, 0 ≤ x ∧ x < 256) (hb : f.pos + 1 ≤ 140737488350000)
    (code : Int) (nd : Nat) (hcl : cls f.most (f.op ++ xs.take 1) = (code, nd)) :
    Calls Try.prog 78 #[.pointer (some ⟨f.g, 0, none⟩), .slice A n c] w fun e w' =>
      (code ≠ 0 ∧ e = .returned (.tuple #[.slice none 0 0, .int .i64 code]) ∧ FrTurn f (fun v' => ⟨f.g, f.most, f.pos + 1, v', f.op ++ xs.take 1, f.need, f.ended⟩) w w') ∨
      (code = 0 ∧ e = .returned (.tuple #[.slice (if c = 1 then A else Option.map (fun x => x.add 1) A) (n - 1) (c - 1), .int .i64 0]) ∧ FrTurn f (fun v' => ⟨f.g, f.most, f.pos + 1, v', f.op ++ xs.take 1, nd, f.ended⟩) w w') := by
  unfold cls at hcl
  by_cases hz : (hdH (f.op ++ xs.take 1)).2.1 = 0 ∧ (hdH (f.op ++ xs.take 1)).2.2 = 0
  · rw [if_neg (fun h => h hz)] at hcl
    by_cases hl : 0 < (hdH (f.op ++ xs.take 1)).1 ∧ f.most < (hdH (f.op ++ xs.take 1)).1 - (f.op ++ xs.take 1).length - 4
    · rw [if_pos hl] at hcl
      injection hcl with h1 h2
      subst h1 h2
      exact (frhead_long f A c xs n hn h1n hc w h hC hx hb _ _ _ rfl hz hl.1 hl.2).mono (fun e w' ⟨h1, h2⟩ => .inl ⟨by decide, h1, h2⟩)
    · rw [if_neg hl] at hcl
      injection hcl with h1 h2
      subst h1
      have h0 := (hdH_bound (f.op ++ xs.take 1)).1
      have he : (hdH (f.op ++ xs.take 1)).1 = (nd : Int) := by omega
      refine (frhead_ok f A c xs n hn h1n hc w h hC hx hb (hdH (f.op ++ xs.take 1)).2.1 (hdH (f.op ++ xs.take 1)).2.2 nd (by rw [← he]) hz (by rw [← he]; exact hl)).mono (fun e w' ⟨h1, h2⟩ => .inr ⟨rfl, h1, h2⟩)
  · rw [if_pos hz] at hcl
    injection hcl with h1 h2
    have hne : code ≠ 0 := fun e => hz ⟨h1.trans e, hdH_code _ (h1.trans e)⟩
    subst h1
    exact (frhead_bad f A c xs n hn h1n hc w h hC hx hb _ _ _ rfl hz).mono (fun e w' ⟨h1, h2⟩ => .inl ⟨hne, h1, h2⟩)
set_option maxRecDepth 100000 in
theorem frframes_calls (g : Nat) (A : Option Addr) (n c : Nat) (w : World) :
    Calls Try.prog 49 #[.pointer (some ⟨g, 0, none⟩), .slice A n c] w fun e w' => e = .returned (.func (.func 77) #[] #[.pointer (some ⟨w.heap.size + 1, 0, none⟩), .pointer (some ⟨w.heap.size, 0, none⟩)]) ∧
      w' = (w.alloc (.cells #[.pointer (some ⟨g, 0, none⟩)] 25)).alloc (.cells #[.slice A n c] 22) := by
  go_enter Try.func49, Try.ntmps49
  go_wp2
  go_ret
  exact ⟨by simp, rfl⟩
end Go.Proofs.Ytmbfjaogimkncaa
