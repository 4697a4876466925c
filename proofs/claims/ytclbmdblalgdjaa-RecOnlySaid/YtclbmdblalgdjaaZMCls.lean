/- Package class: what its functions tell; no condition. -/
import Derived.Test.YtclbmdblalgdjaaZMTimes
namespace Go.Proofs.Ytclbmdblalgdjaa
open Go.RowKit Go.Proofs.YtclbmdblalgdjaaW.PrintWords Go.Proofs.YtclbmdblalgdjaaW.PrintLast Go.Proofs.YtclbmdblalgdjaaW.PrintMore
set_option linter.unusedVariables false
set_option linter.unusedSimpArgs false
def betB (b lo hi : Int) : Bool := decide (lo ≤ b) && decide (b ≤ hi)
def nameB (b : Int) : Bool := betB b 65 90 || betB b 97 122 || b == 95 || b == 46 || b == 45 || betB b 48 57
def clsB (c b : Int) : Bool := if c = 3 then betB b 33 126 && b != 44 && b != 124 else if c = 2 then b == 47 || nameB b else if c = 1 then nameB b else if c = 4 then betB b 48 57 else false
set_option maxHeartbeats 1000000 in
set_option maxRecDepth 100000 in
theorem between_calls (b lo hi : Int) (w : World) : Calls Try.prog 159 #[.int .u8 b, .int .u8 lo, .int .u8 hi] w fun e w' => e = .returned (.bool (betB b lo hi)) ∧ w = w' := by
  by_cases h : lo ≤ b
  · have h1 : decide (lo ≤ b) = true := decide_eq_true h
    have H := Aside0.mk h1
    go_enter Try.func159, Try.ntmps159
    go_wp2
    go_ret
    exact ⟨by unfold betB; rw [H.out]; rfl, rfl⟩
  · have h1 : decide (lo ≤ b) = false := decide_eq_false h
    have H := Aside0.mk h1
    go_enter Try.func159, Try.ntmps159
    go_wp2
    go_ret
    exact ⟨by unfold betB; rw [H.out]; rfl, rfl⟩
theorem name_cases (b : Int) : (betB b 65 90 = true ∧ nameB b = true) ∨ (betB b 65 90 = false ∧ betB b 97 122 = true ∧ nameB b = true) ∨ (betB b 65 90 = false ∧ betB b 97 122 = false ∧ (b == 95) = true ∧ nameB b = true) ∨
    (betB b 65 90 = false ∧ betB b 97 122 = false ∧ (b == 95) = false ∧ (b == 46) = true ∧ nameB b = true) ∨ (betB b 65 90 = false ∧ betB b 97 122 = false ∧ (b == 95) = false ∧ (b == 46) = false ∧ (b == 45) = true ∧ nameB b = true) ∨
    (betB b 65 90 = false ∧ betB b 97 122 = false ∧ (b == 95) = false ∧ (b == 46) = false ∧ (b == 45) = false ∧ nameB b = betB b 48 57) := by
  unfold nameB
  generalize betB b 65 90 = x1
  generalize betB b 97 122 = x2
  generalize (b == 95) = x3
  generalize (b == 46) = x4
  generalize (b == 45) = x5
  generalize betB b 48 57 = x6
  revert x1 x2 x3 x4 x5 x6
  decide
set_option maxHeartbeats 4000000 in
set_option maxRecDepth 100000 in
theorem is_calls (c b : Int) (w : World) : Calls Try.prog 147 #[.int .i64 c, .int .u8 b] w fun e w' => e = .returned (.bool (clsB c b)) ∧ w = w' := by
  by_cases h3 : c = 3
  · subst h3
    have e1 : clsB 3 b = (betB b 33 126 && b != 44 && b != 124) := rfl
    rw [e1]
    clear e1
    cases hx : betB b 33 126 with
    | false =>
      have H33 := Aside0.mk hx
      clear hx
      go_enter Try.func147, Try.ntmps147
      go_wp2_with (first | (go_at_call 159; with_reducible refine Calls.stepEq (between_calls b 33 126 _) ?_; rw [H33.out]))
      go_ret
      exact ⟨rfl, rfl⟩
    | true =>
      have H33 := Aside0.mk hx
      clear hx
      cases hy : (b != 44) with
      | false =>
        go_enter Try.func147, Try.ntmps147
        go_wp2_with (first | (go_at_call 159; with_reducible refine Calls.stepEq (between_calls b 33 126 _) ?_; rw [H33.out]))
        all_goals
          go_ret
          exact ⟨rfl, rfl⟩
      | true =>
        go_enter Try.func147, Try.ntmps147
        go_wp2_with (first | (go_at_call 159; with_reducible refine Calls.stepEq (between_calls b 33 126 _) ?_; rw [H33.out]))
        all_goals
          go_ret
          exact ⟨rfl, rfl⟩
  have h3b : (c == 3) = false := by simp [h3]
  have hchain : ∀ (hc : (c = 2 ∧ (b == 47) = false) ∨ (c = 1)), Calls Try.prog 147 #[.int .i64 c, .int .u8 b] w fun e w' => e = .returned (.bool (nameB b)) ∧ w = w' := by
    intro hc
    have hcc : ((c == 2) = true ∧ (b == 47) = false) ∨ ((c == 2) = false ∧ (c == 1) = true) := by
      rcases hc with ⟨rfl, h⟩ | rfl
      · exact .inl ⟨rfl, h⟩
      · exact .inr ⟨rfl, rfl⟩
    clear hc
    rcases hcc with ⟨hc1, hc2⟩ | ⟨hc1, hc2⟩
    all_goals rcases name_cases b with ⟨h1, hn⟩ | ⟨h1, h2, hn⟩ | ⟨h1, h2, hd1, hn⟩ | ⟨h1, h2, hd1, hd2, hn⟩ | ⟨h1, h2, hd1, hd2, hd3, hn⟩ | ⟨h1, h2, hd1, hd2, hd3, hn⟩
    all_goals
      rw [hn]
      clear hn h3
      have H65 := Aside0.mk h1
      clear h1
      try (have H97 := Aside0.mk h2; clear h2)
      go_enter Try.func147, Try.ntmps147
      go_wp2_with (first | (go_at_call 159; with_reducible refine Calls.stepEq (between_calls b 33 126 _) ?_; rw [H33.out]) | (go_at_call 159; with_reducible refine Calls.stepEq (between_calls b 65 90 _) ?_; rw [H65.out]) | (go_at_call 159; with_reducible refine Calls.stepEq (between_calls b 97 122 _) ?_; rw [H97.out]) | (go_at_call 159; with_reducible refine Calls.stepEq (between_calls b 48 57 _) ?_))
      go_ret
      exact ⟨rfl, rfl⟩
  by_cases h2 : c = 2
  · cases h47 : (b == 47) with
    | true =>
      have e1 : clsB c b = true := by unfold clsB; rw [if_neg h3, if_pos h2, h47]; rfl
      rw [e1]
      have h2b : (c == 2) = true := by simp [h2]
      clear e1 h2 h3 hchain
      go_enter Try.func147, Try.ntmps147
      go_wp2
      all_goals
        go_ret
        exact ⟨rfl, rfl⟩
    | false =>
      have e1 : clsB c b = nameB b := by unfold clsB; rw [if_neg h3, if_pos h2, h47]; rfl
      rw [e1]
      exact hchain (.inl ⟨h2, h47⟩)
  by_cases h1 : c = 1
  · have e1 : clsB c b = nameB b := by unfold clsB; rw [if_neg h3, if_neg h2, if_pos h1]
    rw [e1]
    exact hchain (.inr h1)
  clear hchain
  have h2b : (c == 2) = false := by simp [h2]
  have h1b : (c == 1) = false := by simp [h1]
  by_cases h4 : c = 4
  · have e1 : clsB c b = betB b 48 57 := by unfold clsB; rw [if_neg h3, if_neg h2, if_neg h1, if_pos h4]
    have h4b : (c == 4) = true := by simp [h4]
    rw [e1]
    clear e1 h1 h2 h3 h4
    go_enter Try.func147, Try.ntmps147
    go_wp2_with (first | (go_at_call 159; with_reducible refine Calls.stepEq (between_calls b 48 57 _) ?_))
    go_ret
    exact ⟨rfl, rfl⟩
  · have e1 : clsB c b = false := by unfold clsB; rw [if_neg h3, if_neg h2, if_neg h1, if_neg h4]
    have h4b : (c == 4) = false := by simp [h4]
    rw [e1]
    clear e1 h1 h2 h3 h4
    go_enter Try.func147, Try.ntmps147
    go_wp2
    go_ret
    exact ⟨rfl, rfl⟩
end Go.Proofs.Ytclbmdblalgdjaa
