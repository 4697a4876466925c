/- Package dec: Normal: what the printed function tells; no condition. -/
import Derived.Test.YteamldgngknmfaaZJDecN
import Derived.Test.YteamldgngknmfaaZJPDx
namespace Go.Proofs.Yteamldgngknmfaa
open Go.RowKit Go.Proofs.YteamldgngknmfaaW.PrintWords Go.Proofs.YteamldgngknmfaaW.PrintLast Go.Proofs.YteamldgngknmfaaW.PrintMore
set_option linter.unusedVariables false
set_option linter.unusedSimpArgs false
def liftR (g : Bool) : Option (Nat × Int) → Bool × Int × Int × Int
  | none => (false, 0, 0, 10)
  | some (c, e) => if e < -18 then (false, 0, 0, 10) else (g, (c : Int), e, 0)
def decR (g : Bool) (c : Nat) (e : Int) : Bool × Int × Int × Int :=
  match decNorm g c e with
  | none => (false, 0, 0, 10)
  | some (g2, c2, e2) => (g2, (c2 : Int), e2, 0)
theorem decR_eq (g : Bool) (c : Nat) (e : Int) (h : c ≠ 0) : decR g c e = liftR g (lift (strip 20 c e).1 (strip 20 c e).2) := by
  unfold decR decNorm
  rw [if_neg h]
  cases lift (strip 20 c e).1 (strip 20 c e).2 with
  | none => rfl
  | some p =>
    obtain ⟨x, y⟩ := p
    show (match (if y < -18 then none else some (g, x, y)) with | none => _ | some (g2, c2, e2) => _) = (if y < -18 then _ else _)
    by_cases hy : y < -18
    · rw [if_pos hy, if_pos hy]
    · rw [if_neg hy, if_neg hy]
theorem times_f (c : Nat) (hc : c < 18446744073709551616) : dec_times.f (c : Int) 0 = some ((10 * (c : Int) + 0) % 18446744073709551616, decide (10 * (c : Int) + 0 < 18446744073709551616)) := if_pos ⟨⟨by omega, by omega⟩, by omega, by omega⟩
theorem declift_ev (g : Bool) : ∀ (m c : Nat) (e : Int), 1 ≤ c → c < 18446744073709551616 → 18446744073709551616 ≤ c * 10 ^ m → e ≤ 9223372036854775807 → Ev (fun k => PD.dec_Normal.l1 k g (c : Int) e) (liftR g (lift c e)) := by
  intro m
  induction m with
  | zero => intro c e h1 h2 h3; simp at h3; omega
  | succ m ih =>
    intro c e h1 h2 h3 he
    by_cases h18 : 18 < e
    · rw [lift_step c e h18]
      by_cases hf : 10 * c < 18446744073709551616
      · rw [if_pos hf]
        have h := ih (10 * c) (e - 1) (by omega) hf (by rw [Nat.pow_succ] at h3; rw [Nat.mul_comm 10 c, Nat.mul_assoc, Nat.mul_comm 10]; exact h3) (by omega)
        have hd1 : decide (10 * (c : Int) + 0 < 18446744073709551616) = true := decide_eq_true (by omega)
        refine Ev.step (fun k => ?_) h
        simp only [PD.dec_Normal.l1]
        rw [if_pos (show e > 18 from h18), times_f c h2, Option.bind_some, hd1]
        show (if true = true then PD.dec_Normal.l1 k g ((10 * (c : Int) + 0) % 18446744073709551616) (wrap64 (e - 1)) else _) = _
        rw [if_pos rfl, show (10 * (c : Int) + 0) % 18446744073709551616 = ((10 * c : Nat) : Int) by omega, IntWalk.wrap64_in (e - 1) (by omega)]
      · rw [if_neg hf, if_neg (by omega)]
        have hd0 : decide (10 * (c : Int) + 0 < 18446744073709551616) = false := decide_eq_false (by omega)
        refine Ev.step (f := fun _ => some (false, 0, 0, 10)) (fun k => ?_) (Ev.now _)
        simp only [PD.dec_Normal.l1]
        rw [if_pos (show e > 18 from h18), times_f c h2, Option.bind_some, hd0]
        rfl
    · have hl : lift c e = some (c, e) := if_pos (by omega)
      rw [hl]
      refine Ev.step (f := fun _ => some (liftR g (some (c, e)))) (fun k => ?_) (Ev.now _)
      simp only [PD.dec_Normal.l1]
      rw [if_neg (show ¬ e > 18 from h18)]
      show _ = some (if e < -18 then _ else _)
      by_cases h : e < -18
      · rw [if_pos h, if_pos h]
      · rw [if_neg h, if_neg h]
theorem decstrip_ev (g : Bool) : ∀ (j c : Nat) (e : Int), 1 ≤ c → c < 18446744073709551616 → c < 10 ^ j → -9223372036854775808 ≤ e → e ≤ 9223372036854775807 → Ev (fun k => PD.dec_Normal.l0 k g (c : Int) e) (liftR g (lift (strip j c e).1 (strip j c e).2)) := by
  have stop : ∀ (c : Nat) (e : Int), 1 ≤ c → c < 18446744073709551616 → e ≤ 9223372036854775807 → Ev (fun k => PD.dec_Normal.j1 k g (c : Int) e) (liftR g (lift c e)) := fun c e h1 h2 h3 =>
    Ev.step (fun k => by simp only [PD.dec_Normal.j1]) (declift_ev g 20 c e h1 h2 (by omega) h3)
  intro j
  induction j with
  | zero => intro c e h1 h2 h3; simp at h3; omega
  | succ j ih =>
    intro c e h1 h2 h3 h4 h5
    have ht : Int.tmod (c : Int) 10 = ((c % 10 : Nat) : Int) := by rw [Int.tmod_eq_emod_of_nonneg (by omega)]; omega
    by_cases hz : c % 10 = 0
    · by_cases he : e < 18
      · have hs : strip (j + 1) c e = strip j (c / 10) (e + 1) := if_pos ⟨hz, he⟩
        rw [hs]
        have h := ih (c / 10) (e + 1) (by omega) (by omega) (by rw [Nat.pow_succ] at h3; omega) (by omega) (by omega)
        refine Ev.step (fun k => ?_) h
        simp only [PD.dec_Normal.l0]
        have hdv : IntKind.u64.wrap (Int.tdiv (c : Int) 10) = ((c / 10 : Nat) : Int) := by
          rw [Int.tdiv_eq_ediv_of_nonneg (by omega), IntWalk.u64_in _ (by omega)]
          omega
        rw [ht, hz, if_pos (show ((0 : Nat) : Int) = 0 from rfl), if_pos he, hdv, IntWalk.wrap64_in (e + 1) (by omega)]
      · rw [strip_no _ _ _ (fun h => he h.2)]
        refine Ev.step (fun k => ?_) (stop c e h1 h2 h5)
        simp only [PD.dec_Normal.l0]
        rw [ht, hz, if_pos (show ((0 : Nat) : Int) = 0 from rfl), if_neg he]
    · rw [strip_no _ _ _ (fun h => hz h.1)]
      refine Ev.step (fun k => ?_) (stop c e h1 h2 h5)
      simp only [PD.dec_Normal.l0]
      rw [ht, if_neg (by omega)]
theorem decnorm_ev (g : Bool) (c : Nat) (e : Int) (hc : c < 18446744073709551616) (he : -9223372036854775808 ≤ e ∧ e ≤ 9223372036854775807) : ∃ k, PD.dec_Normal.f k g (c : Int) e = some (decR g c e) := by
  refine Ev.rounds ?_
  unfold PD.dec_Normal.f
  by_cases h : c = 0
  · subst h
    exact Ev.congr (fun k => if_pos (show ((0 : Nat) : Int) = 0 from rfl)) (Ev.now _)
  · rw [decR_eq g c e h]
    exact Ev.congr (fun k => if_neg (by omega)) (decstrip_ev g 20 c e (by omega) hc (by omega) he.1 he.2)
theorem decnorm_calls (g : Bool) (c : Nat) (e : Int) (w : World) (hc : c < 18446744073709551616) (he : -9223372036854775808 ≤ e ∧ e ≤ 9223372036854775807) : Calls Try.prog 50 #[.agg #[.bool g, .int .u64 c, .int .i64 e]] w fun x w' => x = .returned (.tuple #[.agg #[.bool (decR g c e).1, .int .u64 (decR g c e).2.1, .int .i64 (decR g c e).2.2.1], .int .i64 (decR g c e).2.2.2]) ∧ Below w.heap.size w w' := by
  obtain ⟨k, hk⟩ := decnorm_ev g c e hc he
  exact PD.dec_Normal.calls k g c e _ _ _ _ w hk
end Go.Proofs.Yteamldgngknmfaa
