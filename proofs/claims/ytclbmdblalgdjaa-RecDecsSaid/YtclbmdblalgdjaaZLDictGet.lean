/- Package dict: fresh and Get: what they tell and turn; no condition. -/
import Derived.Test.YtclbmdblalgdjaaZLDict
namespace Go.Proofs.Ytclbmdblalgdjaa
open Go.RowKit Go.Proofs.YtclbmdblalgdjaaW.PrintWords Go.Proofs.YtclbmdblalgdjaaW.PrintLast Go.Proofs.YtclbmdblalgdjaaW.PrintMore
set_option linter.unusedVariables false
set_option linter.unusedSimpArgs false
/-! A Cur that is wrong has an error's number. -/
def Cu.sane (s : Cu) : Prop := s.fine = true ∨ s.code ≠ 0
theorem Cu.sane.fail {s : Cu} (h : s.sane) (c a : Int) : (s.fail c a).sane := by
  unfold Cu.fail
  split
  · rename_i h2
    exact .inr h2.2
  · exact h
theorem Cu.sane.adv {s : Cu} (h : s.sane) (n : Nat) : (s.adv n).sane := h
theorem Cu.sane.vread {s : Cu} (h : s.sane) : s.vread.2.sane := by
  unfold Cu.vread
  split
  · exact h
  · split
    · exact h.adv _
    · split
      · exact (h.adv _).fail _ _
      · exact (h.adv _).fail _ _
theorem Cu.sane.cases {s : Cu} (h : s.sane) : (s.fine = true ∧ s.code = 0 ∧ s.fat = 0) ∨ (s.fine = false ∧ s.code ≠ 0) := by
  rcases h with h | h
  · refine .inl ⟨h, ?_⟩
    unfold Cu.fine at h
    simpa using h
  · refine .inr ⟨?_, h⟩
    unfold Cu.fine
    simp [h]
theorem fail_b (s : Cu) (c a : Int) : (s.fail c a).b = s.b := by unfold Cu.fail; split <;> rfl
theorem curfault_at {ok : Nat → Prop} (g : Nat) (s : Cu) (a b : Int) (w : World) (h : CurAt ok g s w) (h1 : s.code = a) (h2 : s.fat = b) : Calls Try.prog 24 #[.pointer (some ⟨g, 0, none⟩)] w fun e w' => e = .returned (.agg #[.int .i64 a, .int .i64 b]) ∧ Below w.heap.size w w' := by
  have h3 := curfault_calls g s w h
  rw [h1, h2] at h3
  exact h3
theorem vread2 {ok : Nat → Prop} {s s' : Cu} {x : Nat} (g : Nat) {w : World} (h : CurAt ok g s w) (hv : s.vread = (x, s')) : Calls Try.prog 51 #[.pointer (some ⟨g, 0, none⟩)] w fun e w' => e = .returned (.int .u64 (x : Int)) ∧ CurAt ok g s' w' ∧ Chg (fun k => k = g) w w' := by
  have h2 := vread_calls g s w h
  rw [hv] at h2
  exact h2
section
variable {ok : Nat → Prop} {g : Nat} {d : Dic} {s s' : Cu} {w W W' : World}
end
theorem vrd_lt : ∀ (l : List Int) (i n : Nat), (∀ x ∈ l, 0 ≤ x ∧ x < 256) → n < 128 ^ i → i ≤ 9 → (vrd l i n).1 < 18446744073709551616
  | [], i, n, _, hn, hi => by unfold vrd; show 0 < _; decide
  | b :: t, i, n, hl, hn, hi => by
    have hb := hl b List.mem_cons_self
    unfold vrd
    split
    · show 0 < _; decide
    · rename_i h9
      have hbd : n + b.toNat % 128 * 128 ^ i < 128 ^ (i + 1) := vor_bound b.toNat hn
      have hsm : n + b.toNat % 128 * 128 ^ i < 18446744073709551616 := by
        rcases Nat.lt_or_ge i 9 with h | h
        · exact Nat.lt_of_lt_of_le hbd (Nat.le_trans (Nat.pow_le_pow_right (by decide) (show i + 1 ≤ 9 by omega)) (by decide))
        · have e : i = 9 := by omega
          subst e
          have hb1 : b.toNat % 128 ≤ 1 := by omega
          have h3 : b.toNat % 128 * 128 ^ 9 ≤ 1 * 128 ^ 9 := Nat.mul_le_mul hb1 (Nat.le_refl _)
          have h4 : n + b.toNat % 128 * 128 ^ 9 < 128 ^ 9 + 1 * 128 ^ 9 := by omega
          exact Nat.lt_of_lt_of_le h4 (by decide)
      split
      · split
        · show 0 < _; decide
        · exact hsm
      · rename_i hb2
        rcases Nat.lt_or_ge i 9 with h | h
        · exact vrd_lt t (i + 1) _ (fun x hx => hl x (List.mem_cons_of_mem _ hx)) hbd (by omega)
        · exact absurd ⟨by omega, by omega⟩ h9
theorem vread_lt (s : Cu) (h : ∀ x ∈ s.b, 0 ≤ x ∧ x < 256) : s.vread.1 < 18446744073709551616 := by
  unfold Cu.vread
  split
  · show 0 < _; decide
  · split
    · exact vrd_lt _ 0 0 (fun x hx => h x (List.mem_of_mem_drop hx)) (by decide) (by decide)
    · split
      · show 0 < _; decide
      · show 0 < _; decide
end Go.Proofs.Ytclbmdblalgdjaa
