/- Package chunk: the frames of a stream, one behind the other, in plain terms; no condition. -/
import Derived.Test.YtmbfjaogimkncaaWhole19
namespace Go.Proofs.Ytmbfjaogimkncaa
open Go.RowKit Go.Proofs.YtmbfjaogimkncaaW.PrintWords Go.Proofs.YtmbfjaogimkncaaW.PrintLast Go.Proofs.YtmbfjaogimkncaaW.PrintMore
set_option linter.unusedVariables false
set_option linter.unusedSimpArgs false
/-- What one frame is, that begins at a byte. -/
def Covers (most : Int) (b : List Int) (p q : Nat) (x : FX) (last : Bool) : Prop :=
  x.lo = p ∧ x.hi = q ∧ p < q ∧ q ≤ b.length ∧
  ((x.code = 0 ∧ x.at' = 0 ∧ x.by' = (b.take q).drop p ∧ hdH ((b.take q).drop p) = ((q : Int) - p, 0, 0) ∧ (q : Int) - p ≤ most + 10) ∨
   (x.code ≠ 0 ∧ last = true ∧ x.by' = [] ∧ (x.at' = q ∨ x.at' = (q : Int) - 1) ∧
     (x.code = 13 → q = b.length ∧ ∃ m, hdH ((b.take q).drop p) = (m, 0, 0) ∧ (m = 0 ∨ (q : Int) - p < m)) ∧
     (x.code ≠ 13 → x.code ≠ 12 → ∃ m, hdH ((b.take q).drop p) = (m, x.code, x.at' - p))))
def Chain (most : Int) (b : List Int) : Nat → List FX → Nat → Prop
  | p, [], e => e = p
  | p, x :: xs, e => ∃ q, Covers most b p q x (xs.isEmpty) ∧ Chain most b q xs e
theorem hdx_codes (l : List Int) (most : Int) : ∀ (k i : Nat) (n one : Int), (hdx l most k i n one).2.2.1 ≠ 13
  | 0, i, n, one => by unfold hdx; show ¬ (12 : Int) = 13; decide
  | k + 1, i, n, one => by
    unfold hdx
    split
    · show ¬ (0 : Int) = 13; decide
    · split
      · exact hdx_codes l most k _ _ _
      · split
        · show ¬ (21 : Int) = 13; decide
        · split
          · show ¬ (12 : Int) = 13; decide
          · show ¬ (0 : Int) = 13; decide
theorem hdm_codes (l : List Int) (most : Int) : ∀ (k i : Nat), (hdm l most k i).2.2.1 ≠ 13
  | 0, i => by unfold hdm; exact hdx_codes l most _ _ _ _
  | k + 1, i => by
    unfold hdm
    split
    · show ¬ (0 : Int) = 13; decide
    · split
      · exact hdm_codes l most k _
      · show hdc i ≠ 13
        unfold hdc
        split <;> decide
theorem hd_codes (l : List Int) (most : Int) : (hd l most).2.2.1 ≠ 13 := hdm_codes l most 3 0
theorem hdLess_back {most : Int} {r s : Int × Int × Int × Int} (h : hdLess most r = s) (hs : s.2.2.1 ≠ 12) : r = s := by
  unfold hdLess at h
  split at h
  · rw [← h] at hs
    exact absurd rfl hs
  · exact h
/-- The head of the bytes up to its end, and on. -/
theorem hd_take (most : Int) (l : List Int) (hx : ∀ x ∈ l, 0 ≤ x) (hn : hd l most ≠ HNone) (m : Nat) (hm : (hd l most).1 = 0 → (hd l most).2.2.2 + 1 ≤ (m : Int)) (hm2 : (hd l most).1 ≠ 0 → (hd l most).1 ≤ (m : Int)) : hd (l.take m) most = hd l most := by
  obtain ⟨l1, x, l2, e1, e2, e3⟩ := hd_first most _ l rfl hx hn
  have hE := hd_end l1 x most (hx x (by rw [e1]; simp)) e2
  rw [e3] at hE
  have hle : l1.length + 1 ≤ m := by
    rcases hE with hE | ⟨h1, h2, h3, h4⟩ | ⟨h1, h2, h3, h4⟩
    · exact absurd hE hn
    · have := hm h1
      omega
    · have := hm2 (by omega)
      omega
  have e4 : l.take m = (l1 ++ [x]) ++ l2.take (m - (l1.length + 1)) := by
    rw [e1, show l1 ++ x :: l2 = (l1 ++ [x]) ++ l2 by simp, List.take_append]
    rw [List.take_of_length_le (by rw [List.length_append, List.length_singleton]; exact hle)]
    simp
  rw [e4, hd_app _ _ _ (by rw [e3]; exact hn), e3]
theorem cut_eq (b : List Int) (p m : Nat) : (b.take (p + m)).drop p = (b.drop p).take m := by
  rw [List.drop_take]
  congr 1
  omega
/-- What is left, as the last frame. -/
def restX (b : List Int) (from' : Nat) (over : Bool) : List FX := if over = true ∨ b.length ≤ from' then [] else [⟨(from' : Int), (b.length : Int), [], 13, (b.length : Int)⟩]
theorem chain_frl (most : Int) (h0 : 0 ≤ most) (hm : most ≤ 1048576) (b : List Int) (hx : ∀ x ∈ b, 0 ≤ x) : ∀ (k p : Nat), p ≤ b.length → b.length - p ≤ k →
    Chain most b p ((frl most (k + 1) p (b.drop p)).1 ++ restX b (frl most (k + 1) p (b.drop p)).2.1 (frl most (k + 1) p (b.drop p)).2.2) (if (frl most (k + 1) p (b.drop p)).2.2 = true then (frl most (k + 1) p (b.drop p)).2.1 else b.length) := by
  intro k
  induction k with
  | zero =>
    intro p hp hk
    have hd0 : b.drop p = [] := List.drop_eq_nil_of_le (by omega)
    have e : frl most 1 p (b.drop p) = ([], p, false) := by unfold frl; rw [if_pos hd0]
    rw [e]
    have e2 : restX b p false = [] := if_pos (.inr (by omega))
    show Chain most b p ([] ++ restX b p false) (if false = true then p else b.length)
    rw [e2, if_neg (by decide)]
    show b.length = p
    omega
  | succ k ih =>
    intro p hp hk
    by_cases hpl : p = b.length
    · have hd0 : b.drop p = [] := List.drop_eq_nil_of_le (by omega)
      have e : frl most (k + 1 + 1) p (b.drop p) = ([], p, false) := by unfold frl; rw [if_pos hd0]
      rw [e]
      have e2 : restX b p false = [] := if_pos (.inr (by omega))
      show Chain most b p ([] ++ restX b p false) (if false = true then p else b.length)
      rw [e2, if_neg (by decide)]
      exact hpl.symm
    · have hne : ¬ b.drop p = [] := by
        intro e
        have := congrArg List.length e
        rw [List.length_drop, List.length_nil] at this
        omega
      have hdl : (b.drop p).length = b.length - p := List.length_drop
      have hxd : ∀ x ∈ b.drop p, 0 ≤ x := fun x h => hx x (List.mem_of_mem_drop h)
      have hF := hd_form (b.drop p) most h0 hxd
      have hL := hd_less (b.drop p) most hm
      have hc13 := hd_codes (b.drop p) most
      have htn : (b.take b.length).drop p = b.drop p := by rw [List.take_length]
      have hrest : restX b p false = [⟨(p : Int), (b.length : Int), [], 13, (b.length : Int)⟩] := if_neg (by intro h; rcases h with h | h; cases h; omega)
      obtain ⟨r, hr⟩ : ∃ r, hd (b.drop p) most = r := ⟨_, rfl⟩
      rw [hr] at hF hL hc13
      obtain ⟨a, n, c, t⟩ := r
      have hlast : ∀ m : Int, hdH (b.drop p) = (m, 0, 0) → (m = 0 ∨ (b.length : Int) - p < m) → frl most (k + 1 + 1) p (b.drop p) = ([], p, false) → Chain most b p ((frl most (k + 1 + 1) p (b.drop p)).1 ++ restX b (frl most (k + 1 + 1) p (b.drop p)).2.1 (frl most (k + 1 + 1) p (b.drop p)).2.2) (if (frl most (k + 1 + 1) p (b.drop p)).2.2 = true then (frl most (k + 1 + 1) p (b.drop p)).2.1 else b.length) := by
        intro m h1 h2 h3
        rw [h3]
        show Chain most b p ([] ++ restX b p false) (if false = true then p else b.length)
        rw [hrest, if_neg (by decide)]
        refine ⟨b.length, ⟨rfl, rfl, by omega, Nat.le_refl _, .inr ⟨show ¬ (13 : Int) = 0 by decide, rfl, rfl, .inl rfl, fun _ => ⟨rfl, m, by rw [htn]; exact h1, h2⟩, fun h => absurd rfl h⟩⟩, rfl⟩
      rcases hF with hF | ⟨j, hj5, hjl, ⟨hF, hc0⟩ | ⟨hF, hn0, hn1⟩⟩
      · have h1 : hd (b.drop p) 1048576 = HNone := hdLess_none.1 (hL.symm.trans hF)
        injection hF with ha hF
        injection hF with hn hF
        injection hF with hc ht
        refine hlast 0 ?_ (.inl rfl) (frl_unknown hr hne (by omega) ha)
        unfold hdH
        rw [h1]
        rfl
      · injection hF with ha hF
        injection hF with hn hF
        injection hF with hc ht
        change 0 < c at hc0
        change c ≠ 13 at hc13
        rw [frl_fault hr hne hc0 ht]
        have e2 : restX b (p + j + 1) true = [] := if_pos (.inl rfl)
        show Chain most b p ([_] ++ restX b (p + j + 1) true) (if true = true then p + j + 1 else b.length)
        rw [e2, if_pos rfl]
        refine ⟨p + j + 1, ⟨rfl, by show (p : Int) + j + 1 = _; omega, by omega, by omega, .inr ⟨by show c ≠ 0; omega, rfl, rfl, .inr (by show (p : Int) + j = _; omega), fun h => absurd h hc13, fun _ h12 => ⟨0, ?_⟩⟩⟩, rfl⟩
        change c ≠ 12 at h12
        show hdH ((b.take (p + j + 1)).drop p) = (0, c, (p : Int) + j - p)
        have h1 : hd (b.drop p) 1048576 = (a, n, c, t) := hdLess_back hL.symm h12
        have hnn : hd (b.drop p) 1048576 ≠ HNone := by rw [h1]; exact code_ne (by show c ≠ 0; omega)
        have h2 := hd_take 1048576 (b.drop p) hxd hnn (j + 1) (by rw [h1]; intro _; show t + 1 ≤ _; omega) (by rw [h1]; intro h; exact absurd ha h)
        rw [show p + j + 1 = p + (j + 1) by omega, cut_eq]
        unfold hdH
        rw [h2, h1]
        show ((if a = 0 then (0 : Int) else a + n + 4), c, t) = _
        rw [if_pos ha, ht]
        congr 2
        omega
      · injection hF with ha hF
        injection hF with _ hF
        injection hF with hc ht
        change 0 ≤ n at hn0
        change n ≤ most at hn1
        have h1 : hd (b.drop p) 1048576 = (a, n, c, t) := hdLess_back hL.symm (by show c ≠ 12; omega)
        have ha0 : ¬ a = 0 := by omega
        obtain ⟨m, hm2⟩ : ∃ m : Nat, a + n + 4 = m := ⟨(a + n + 4).toNat, by omega⟩
        have hH : hdH (b.drop p) = ((m : Int), 0, 0) := by
          unfold hdH
          rw [h1]
          show ((if a = 0 then (0 : Int) else a + n + 4), c, t) = _
          rw [if_neg ha0, hm2, hc, ht]
        by_cases hw : (b.length : Int) - p < m
        · exact hlast m hH (.inr hw) (frl_short hr hne (by omega) hm2 (by omega))
        · have hfw := frl_whole (k := k + 1) (pos := p) hr hne (by omega) ha0 hm2 (by omega)
          have e4 : (b.drop p).drop m = b.drop (p + m) := by rw [List.drop_drop]
          rw [e4] at hfw
          rw [hfw]
          have hih := ih (p + m) (by omega) (by omega)
          have hnn : hd (b.drop p) 1048576 ≠ HNone := by
            rw [h1]
            intro e
            exact ha0 (congrArg (fun r => r.1) e)
          have h2 := hd_take 1048576 (b.drop p) hxd hnn m (by rw [h1]; intro h; exact absurd h ha0) (by rw [h1]; intro _; show a ≤ _; omega)
          have hH2 : hdH ((b.take (p + m)).drop p) = ((m : Int), 0, 0) := by
            rw [cut_eq, ← hH]
            unfold hdH
            rw [h2]
          refine ⟨p + m, ⟨rfl, by show (p : Int) + m = _; omega, by omega, by omega, .inl ⟨rfl, rfl, (cut_eq b p m).symm, by rw [hH2]; congr 1; omega, by omega⟩⟩, hih⟩
theorem frl_hi' (most : Int) : ∀ (k pos : Nat) (l : List Int), (frl most k pos l).2.2 = false → (frl most k pos l).2.1 ≤ pos + l.length
  | 0, pos, l, h => Nat.le_add_right _ _
  | k + 1, pos, l, h => by
    unfold frl at h ⊢
    split
    · exact Nat.le_add_right _ _
    · rename_i h1
      rw [if_neg h1] at h
      split
      · rename_i h2
        rw [if_pos h2] at h
        cases h
      · rename_i h2
        rw [if_neg h2] at h
        split
        · exact Nat.le_add_right _ _
        · rename_i h3
          rw [if_neg h3] at h
          have h4 := frl_hi' most k _ _ h
          rw [List.length_drop] at h4
          have h5 : ¬ (l.length : Int) < (hd l most).1 + (hd l most).2.1 + 4 := fun h6 => h3 (.inr h6)
          refine Nat.le_trans h4 ?_
          omega
theorem frl_last (most : Int) : ∀ (k pos : Nat) (l : List Int), (frl most k pos l).2.2 = true → ∃ y, (frl most k pos l).1.getLast? = some y ∧ y.code ≠ 0
  | 0, pos, l, h => by cases h
  | k + 1, pos, l, h => by
    unfold frl at h ⊢
    split
    · rename_i h1
      rw [if_pos h1] at h
      cases h
    · rename_i h1
      rw [if_neg h1] at h
      split
      · rename_i h2
        refine ⟨_, rfl, ?_⟩
        show (hd l most).2.2.1 ≠ 0
        omega
      · rename_i h2
        rw [if_neg h2] at h
        split
        · rename_i h3
          rw [if_pos h3] at h
          cases h
        · rename_i h3
          rw [if_neg h3] at h
          obtain ⟨y, hy, hc⟩ := frl_last most k _ _ h
          refine ⟨y, ?_, hc⟩
          show (_ :: _).getLast? = some y
          rw [List.getLast?_cons, hy]
          rfl
theorem whole_chain (most : Int) (h0 : 0 ≤ most) (hm : most ≤ 1048576) (b : List Int) (hx : ∀ x ∈ b, 0 ≤ x) :
    Chain most b 0 (wholeM most b) (frun most ⟨0, [], 0, false⟩ b).1.pos ∧ ((frun most ⟨0, [], 0, false⟩ b).1.pos = b.length ∨ ∃ y, (wholeM most b).getLast? = some y ∧ y.code ≠ 0) := by
  have hc := chain_frl most h0 hm b hx b.length 0 (Nat.zero_le _) (by omega)
  have hr := frun_frl most h0 hm (b.length + 1) 0 b (by omega) hx
  have hhi := frl_hi' most (b.length + 1) 0 b
  have hla := frl_last most (b.length + 1) 0 b
  rw [List.drop_zero] at hc
  obtain ⟨q, hq⟩ : ∃ q, frl most (b.length + 1) 0 b = q := ⟨_, rfl⟩
  rw [hq] at hc hr hhi hla
  obtain ⟨fo, ff, fe⟩ := q
  unfold wholeM
  rw [hr]
  cases fe with
  | true =>
    obtain ⟨y, hy, hyc⟩ := hla rfl
    have e1 : restX b ff true = [] := if_pos (.inl rfl)
    have e2 : clos ⟨ff, [], 0, true⟩ = [] := if_pos (.inl rfl)
    have hc2 : Chain most b 0 (fo ++ restX b ff true) ff := hc
    rw [e1] at hc2
    show Chain most b 0 (fo ++ clos ⟨ff, [], 0, true⟩) ff ∧ (ff = b.length ∨ ∃ y, (fo ++ clos ⟨ff, [], 0, true⟩).getLast? = some y ∧ y.code ≠ 0)
    rw [e2]
    refine ⟨hc2, .inr ⟨y, ?_, hyc⟩⟩
    rw [List.append_nil]
    exact hy
  | false =>
    have hff : ff ≤ b.length := by have h1 : ff ≤ 0 + b.length := hhi rfl; omega
    have hc2 : Chain most b 0 (fo ++ restX b ff false) b.length := hc
    have e1 : clos ⟨0 + b.length, b.drop (ff - 0), needOf most (b.drop (ff - 0)), false⟩ = restX b ff false := by
      unfold clos restX
      have h2 : (b.drop (ff - 0)).length = b.length - ff := by rw [List.length_drop]; omega
      by_cases h3 : b.length ≤ ff
      · have h4 : b.drop (ff - 0) = [] := List.length_eq_zero_iff.1 (by omega)
        rw [if_pos (.inr h4), if_pos (.inr h3)]
      · rw [if_neg (by intro h; rcases h with h | h; cases h; have := congrArg List.length h; rw [h2, List.length_nil] at this; omega), if_neg (by intro h; rcases h with h | h; cases h; exact h3 h)]
        show [FX.mk (((0 + b.length : Nat) : Int) - ((b.drop (ff - 0)).length : Int)) ((0 + b.length : Nat) : Int) [] 13 ((0 + b.length : Nat) : Int)] = _
        rw [h2]
        congr 2 <;> omega
    show Chain most b 0 (fo ++ clos ⟨0 + b.length, b.drop (ff - 0), needOf most (b.drop (ff - 0)), false⟩) (0 + b.length) ∧ (0 + b.length = b.length ∨ _)
    rw [e1]
    exact ⟨by rw [Nat.zero_add]; exact hc2, .inl (Nat.zero_add _)⟩
end Go.Proofs.Ytmbfjaogimkncaa
