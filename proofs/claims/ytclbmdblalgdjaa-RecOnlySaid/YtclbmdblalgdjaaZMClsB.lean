/- Package class: Bad and Text; no condition. -/
import Derived.Test.YtclbmdblalgdjaaZMCls
namespace Go.Proofs.Ytclbmdblalgdjaa
open Go.RowKit Go.Proofs.YtclbmdblalgdjaaW.PrintWords Go.Proofs.YtclbmdblalgdjaaW.PrintLast Go.Proofs.YtclbmdblalgdjaaW.PrintMore
set_option linter.unusedVariables false
set_option linter.unusedSimpArgs false
def badF (f : Int → Bool) (s : ByteArray) : Nat → Nat → Int
  | 0, _ => -1
  | k + 1, i => if f (bt s (i : Nat)) = true then badF f s k (i + 1) else (i : Nat)
def badI (f : Int → Bool) (s : ByteArray) : Int := badF f s s.size 0
theorem badF_succ (f : Int → Bool) (s : ByteArray) (i : Nat) (h : i < s.size) : badF f s (s.size - i) i = if f (bt s (i : Nat)) = true then badF f s (s.size - (i + 1)) (i + 1) else ((i : Nat) : Int) := by
  have e : s.size - i = (s.size - (i + 1)) + 1 := by omega
  rw [e]
  rfl
set_option maxHeartbeats 1000000 in
set_option maxRecDepth 100000 in
theorem may_calls (c : Int) (w : World) : Calls Try.prog 146 #[.int .i64 c] w fun e w' => e = .returned (.bool (betB c 1 4)) ∧ w = w' := by
  by_cases h : 1 ≤ c
  · have h1 : decide (1 ≤ c) = true := decide_eq_true h
    have H := Aside0.mk h1
    go_enter Try.func146, Try.ntmps146
    go_wp2
    go_ret
    exact ⟨by unfold betB; rw [H.out]; rfl, rfl⟩
  · have h1 : decide (1 ≤ c) = false := decide_eq_false h
    have H := Aside0.mk h1
    go_enter Try.func146, Try.ntmps146
    go_wp2
    go_ret
    exact ⟨by unfold betB; rw [H.out]; rfl, rfl⟩
set_option maxHeartbeats 2000000 in
set_option maxRecDepth 100000 in
theorem bad_no (c : Int) (s : ByteArray) (w : World) (hc : betB c 1 4 = false) : Calls Try.prog 139 #[.int .i64 c, .string s] w fun e w' => e = .returned (.tuple #[.int .i64 0, .int .i64 1]) ∧ w = w' := by
  have H := Aside0.mk hc
  clear hc
  go_enter Try.func139, Try.ntmps139
  go_wp2_with (first | (go_at_call 146; with_reducible refine Calls.stepEq (may_calls c _) ?_; rw [H.out]))
  go_ret2
  exact ⟨rfl, rfl⟩
set_option maxHeartbeats 2000000 in
set_option maxRecDepth 100000 in
theorem bad_yes (c : Int) (s : ByteArray) (w : World) (hc : betB c 1 4 = true) (hs : s.size ≤ 9223372036854775807) : Calls Try.prog 139 #[.int .i64 c, .string s] w fun e w' => e = .returned (.tuple #[.int .i64 (badI (clsB c) s), .int .i64 0]) ∧ Drawn0 w w' := by
  have H := Aside0.mk hc
  clear hc
  go_enter Try.func139, Try.ntmps139
  go_wp2_with (first | (go_at_call 146; with_reducible refine Calls.stepEq (may_calls c _) ?_; rw [H.out]))
  go_loopw [12] (fun v12 w' => ∃ x : Int, v12 = .int .i64 x ∧ 0 ≤ x ∧ x ≤ (s.size : Int) ∧ Aside0 (badF (clsB c) s (s.size - x.toNat) x.toNat = badI (clsB c) s) ∧ Drawn0 w w') (fun v12 _ => s.size - (intOf v12).toNat)
  case atStart => exact ⟨0, rfl, by omega, by omega, ⟨rfl⟩, by repeat (first | exact Drawn0.refl _ | apply Drawn0.step)⟩
  case round =>
    obtain ⟨x, rfl, h0, hi, HT, ⟨m1, rfl⟩⟩ := hrel
    by_cases hlt : x < (s.size : Int)
    · have hd : decide (x < (s.size : Int)) = true := decide_eq_true hlt
      have hd0 : decide ((0 : Int) ≤ x) = true := decide_eq_true h0
      have hx8 := bt_at s x
      have HT1 := HT.out
      rw [badF_succ _ _ _ (by omega), Int.toNat_of_nonneg h0] at HT1
      have e1 : (x + 1).toNat = x.toNat + 1 := by omega
      rw [← e1] at HT1
      clear e1
      cases hq : clsB c (bt s x) with
      | true =>
        rw [hq, if_pos rfl] at HT1
        have HT2 := Aside0.mk HT1
        have HQ := Aside0.mk hq
        have p8 := eq_true h0
        have q8 := eq_true hlt
        have h0' := Aside0.mk h0
        have hlt' := Aside0.mk hlt
        clear hq HT1 h0 hlt
        go_wp2_with (first | (go_at_call 147; with_reducible refine Calls.stepEq (is_calls c (bt s x) _) ?_; rw [HQ.out]))
        have h0 := h0'.out
        have hlt := hlt'.out
        have hw := IntWalk.wrap64_in (x + 1) (by omega)
        go_roundw
        case rel => exact ⟨x + 1, by rw [hw], by omega, by omega, HT2, by repeat (first | exact Drawn0.refl _ | apply Drawn0.step)⟩
        case measure => simp [intOf, hw]; omega
      | false =>
        rw [hq, if_neg (by decide)] at HT1
        have HT2 := Aside0.mk HT1
        have HQ := Aside0.mk hq
        have p8 := eq_true h0
        have q8 := eq_true hlt
        clear hq HT1 h0 hlt
        go_wp2_with (first | (go_at_call 147; with_reducible refine Calls.stepEq (is_calls c (bt s x) _) ?_; rw [HQ.out]))
        go_ret2
        exact ⟨by rw [← HT2.out]; rfl, by repeat (first | exact Drawn0.refl _ | apply Drawn0.step)⟩
    · have hd : decide (x < (s.size : Int)) = false := decide_eq_false hlt
      have HE := Aside0.mk (show badI (clsB c) s = -1 by rw [← HT.out, show s.size - x.toNat = 0 by omega]; rfl)
      go_wp2
      go_ret2
      exact ⟨by rw [HE.out]; rfl, by repeat (first | exact Drawn0.refl _ | apply Drawn0.step)⟩
def textW (c : Int) (s : ByteArray) (lo hi : Int) : Int × Int :=
  if betB c 1 4 = false ∨ lo < 0 ∨ hi < lo then (1, 0) else if (s.size : Int) < lo then (13, (s.size : Int)) else if hi < (s.size : Int) then (12, hi) else if 0 ≤ badI (clsB c) s then (14, badI (clsB c) s) else (0, 0)
set_option maxHeartbeats 2000000 in
set_option maxRecDepth 100000 in
theorem text_calls (c : Int) (s : ByteArray) (lo hi : Int) (w : World) (hs : s.size ≤ 9223372036854775807) : Calls Try.prog 114 #[.int .i64 c, .string s, .int .i64 lo, .int .i64 hi] w fun e w' => e = .returned (.agg #[.int .i64 (textW c s lo hi).1, .int .i64 (textW c s lo hi).2]) ∧ Below w.heap.size w w' := by
  have HS := Aside0.mk hs
  clear hs
  by_cases hc : betB c 1 4 = true
  · have H := Aside0.mk hc
    have hcf : ¬ betB c 1 4 = false := by rw [hc]; decide
    clear hc
    by_cases h1 : lo < 0
    · have HT := Aside0.mk (show textW c s lo hi = (1, 0) by unfold textW; rw [if_pos (.inr (.inl h1))])
      have b1 : decide (lo < 0) = true := decide_eq_true h1
      clear h1
      go_enter Try.func114, Try.ntmps114
      go_wp2_with (first | (go_at_call 139; with_reducible refine (bad_yes c s _ H.out HS.out).mono ?_; rintro e w_ ⟨rfl, ⟨nd, rfl⟩⟩))
      exact bodyPost_ret (v := .agg #[.int .i64 1, .int .i64 0]) (by simp [results, Try.results114, go_sem]) rfl ⟨by rw [HT.out], by with_reducible repeat (first | exact Below.refl _ _ | apply below_alloc | apply pw_below_drewN | apply below_drew1 | refine Below.setCell ?_ (by simp) _)⟩
    have b1 : decide (lo < 0) = false := decide_eq_false h1
    by_cases h2 : hi < lo
    · have HT := Aside0.mk (show textW c s lo hi = (1, 0) by unfold textW; rw [if_pos (.inr (.inr h2))])
      have b2 : decide (hi < lo) = true := decide_eq_true h2
      clear h2 h1
      go_enter Try.func114, Try.ntmps114
      go_wp2_with (first | (go_at_call 139; with_reducible refine (bad_yes c s _ H.out HS.out).mono ?_; rintro e w_ ⟨rfl, ⟨nd, rfl⟩⟩))
      exact bodyPost_ret (v := .agg #[.int .i64 1, .int .i64 0]) (by simp [results, Try.results114, go_sem]) rfl ⟨by rw [HT.out], by with_reducible repeat (first | exact Below.refl _ _ | apply below_alloc | apply pw_below_drewN | apply below_drew1 | refine Below.setCell ?_ (by simp) _)⟩
    have b2 : decide (hi < lo) = false := decide_eq_false h2
    have hno : ¬ (betB c 1 4 = false ∨ lo < 0 ∨ hi < lo) := fun h => h.elim hcf (fun h => h.elim h1 h2)
    clear h1 h2 hcf
    by_cases h3 : (s.size : Int) < lo
    · have HT := Aside0.mk (show textW c s lo hi = (13, (s.size : Int)) by unfold textW; rw [if_neg hno, if_pos h3])
      have b3 : decide ((s.size : Int) < lo) = true := decide_eq_true h3
      clear h3 hno
      go_enter Try.func114, Try.ntmps114
      go_wp2_with (first | (go_at_call 139; with_reducible refine (bad_yes c s _ H.out HS.out).mono ?_; rintro e w_ ⟨rfl, ⟨nd, rfl⟩⟩))
      exact bodyPost_ret (v := .agg #[.int .i64 13, .int .i64 s.size]) (by simp [results, Try.results114, go_sem]) rfl ⟨by rw [HT.out], by with_reducible repeat (first | exact Below.refl _ _ | apply below_alloc | apply pw_below_drewN | apply below_drew1 | refine Below.setCell ?_ (by simp) _)⟩
    have b3 : decide ((s.size : Int) < lo) = false := decide_eq_false h3
    by_cases h4 : hi < (s.size : Int)
    · have HT := Aside0.mk (show textW c s lo hi = (12, hi) by unfold textW; rw [if_neg hno, if_neg h3, if_pos h4])
      have b4 : decide (hi < (s.size : Int)) = true := decide_eq_true h4
      clear h3 h4 hno
      go_enter Try.func114, Try.ntmps114
      go_wp2_with (first | (go_at_call 139; with_reducible refine (bad_yes c s _ H.out HS.out).mono ?_; rintro e w_ ⟨rfl, ⟨nd, rfl⟩⟩))
      exact bodyPost_ret (v := .agg #[.int .i64 12, .int .i64 hi]) (by simp [results, Try.results114, go_sem]) rfl ⟨by rw [HT.out], by with_reducible repeat (first | exact Below.refl _ _ | apply below_alloc | apply pw_below_drewN | apply below_drew1 | refine Below.setCell ?_ (by simp) _)⟩
    have b4 : decide (hi < (s.size : Int)) = false := decide_eq_false h4
    by_cases h5 : 0 ≤ badI (clsB c) s
    · have HT := Aside0.mk (show textW c s lo hi = (14, badI (clsB c) s) by unfold textW; rw [if_neg hno, if_neg h3, if_neg h4, if_pos h5])
      have b5 : decide (0 ≤ badI (clsB c) s) = true := decide_eq_true h5
      clear h3 h4 h5 hno
      go_enter Try.func114, Try.ntmps114
      go_wp2_with (first | (go_at_call 139; with_reducible refine (bad_yes c s _ H.out HS.out).mono ?_; rintro e w_ ⟨rfl, ⟨nd, rfl⟩⟩))
      exact bodyPost_ret (v := .agg #[.int .i64 14, .int .i64 (badI (clsB c) s)]) (by simp [results, Try.results114, go_sem]) rfl ⟨by rw [HT.out], by with_reducible repeat (first | exact Below.refl _ _ | apply below_alloc | apply pw_below_drewN | apply below_drew1 | refine Below.setCell ?_ (by simp) _)⟩
    · have HT := Aside0.mk (show textW c s lo hi = (0, 0) by unfold textW; rw [if_neg hno, if_neg h3, if_neg h4, if_neg h5])
      have b5 : decide (0 ≤ badI (clsB c) s) = false := decide_eq_false h5
      clear h3 h4 h5 hno
      go_enter Try.func114, Try.ntmps114
      go_wp2_with (first | (go_at_call 139; with_reducible refine (bad_yes c s _ H.out HS.out).mono ?_; rintro e w_ ⟨rfl, ⟨nd, rfl⟩⟩))
      exact bodyPost_ret (v := .agg #[.int .i64 0, .int .i64 0]) (by simp [results, Try.results114, go_sem]) rfl ⟨by rw [HT.out], by with_reducible repeat (first | exact Below.refl _ _ | apply below_alloc | apply pw_below_drewN | apply below_drew1 | refine Below.setCell ?_ (by simp) _)⟩
  · have hc : betB c 1 4 = false := by revert hc; cases betB c 1 4 <;> simp
    have H := Aside0.mk hc
    have HT := Aside0.mk (show textW c s lo hi = (1, 0) by unfold textW; rw [if_pos (.inl hc)])
    clear hc
    go_enter Try.func114, Try.ntmps114
    go_wp2_with (first | (go_at_call 139; with_reducible refine (bad_no c s _ H.out).mono ?_; rintro e w_ ⟨rfl, rfl⟩))
    exact bodyPost_ret (v := .agg #[.int .i64 1, .int .i64 0]) (by simp [results, Try.results114, go_sem]) rfl ⟨by rw [HT.out], by with_reducible repeat (first | exact Below.refl _ _ | apply below_alloc | apply pw_below_drewN | apply below_drew1 | refine Below.setCell ?_ (by simp) _)⟩
end Go.Proofs.Ytclbmdblalgdjaa
