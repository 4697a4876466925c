/- The plain statements of ExprBatches and ExprSome; no condition. -/
import Derived.Test.YtbdennijmfgdpaaURCut
import Derived.Test.YtbdennijmfgdpaaUExB
namespace Go.Proofs.Ytbdennijmfgdpaa.PE
open Go.RowKit Go.Proofs.YtbdennijmfgdpaaW.PrintWords Go.Proofs.YtbdennijmfgdpaaW.PrintLast Go.Proofs.YtbdennijmfgdpaaW.PrintMore
set_option linter.unusedVariables false
set_option linter.unusedSimpArgs false
theorem few8_l (l : List S25) : ∀ (d i : Nat), i + d = l.length → ∃ b, Ev (fun k => forebaylaw08_Few.l0 k l (i : Int)) b ∧ (b = true → l.length ≤ 12 ∧ ∀ m ∈ l.drop i, m.f2.length ≤ 80 ∧ m.f4.length ≤ 40) := by
  intro d
  induction d with
  | zero =>
    intro i hd
    refine ⟨decide ((l.length : Int) ≤ 12), Ev.step (f := fun k => forebaylaw08_Few.j1 k l (i : Int) false) (fun k => ?_) (Ev.step (f := fun _ => some (decide ((l.length : Int) ≤ 12))) (fun k => ?_) (Ev.now _)), fun h => ⟨?_, ?_⟩⟩
    · simp only [forebaylaw08_Few.l0]
      rw [if_neg (by omega)]
    · simp only [forebaylaw08_Few.j1]
      rw [if_neg (by decide)]
    · have := of_decide_eq_true h
      omega
    · rw [List.drop_of_length_le (by omega)]
      simp
  | succ d ih =>
    intro i hd
    have hlt : i < l.length := by omega
    by_cases h13 : (i : Int) < 13
    · obtain ⟨b, hb, hl⟩ := few_ev (l[i]'hlt)
      obtain ⟨b2, hb2, hl2⟩ := ih (i + 1) (by omega)
      have hw := w1 i (by omega)
      refine ⟨if b = true then b2 else false, Ev.step (f := fun k => forebaylaw08_Few.j1 k l (i : Int) true) (fun k => ?_) (Ev.step (f := fun k => (forebaylaw07_Few.f k (l[i]'hlt).f0 (l[i]'hlt).f1 (l[i]'hlt).f2 (l[i]'hlt).f3 (l[i]'hlt).f4 (l[i]'hlt).f5).bind fun t => (if t = true then forebaylaw08_Few.l0 k l ((i + 1 : Nat) : Int) else some false)) (fun k => ?_) (Ev.bind hb ?_)), fun h => ?_⟩
      · simp only [forebaylaw08_Few.l0]
        rw [if_pos (by omega), decide_eq_true h13]
      · simp only [forebaylaw08_Few.j1]
        rw [if_pos trivial, if_pos (by omega), if_pos (by omega), rd_met l i hlt, hw]
      · cases b with
        | false => exact Ev.congr (fun k => if_neg (by decide)) (Ev.now _)
        | true => exact Ev.congr (fun k => if_pos rfl) hb2
      · cases b with
        | false => cases h
        | true =>
          have h2 := hl2 h
          refine ⟨h2.1, ?_⟩
          rw [List.drop_eq_getElem_cons hlt]
          intro m hm
          rcases List.mem_cons.mp hm with rfl | hm
          · exact hl rfl
          · exact h2.2 m hm
    · refine ⟨decide ((l.length : Int) ≤ 12), Ev.step (f := fun k => forebaylaw08_Few.j1 k l (i : Int) false) (fun k => ?_) (Ev.step (f := fun _ => some (decide ((l.length : Int) ≤ 12))) (fun k => ?_) (Ev.now _)), fun h => ?_⟩
      · simp only [forebaylaw08_Few.l0]
        rw [if_pos (by omega), decide_eq_false h13]
      · simp only [forebaylaw08_Few.j1]
        rw [if_neg (by decide)]
      · have := of_decide_eq_true h
        omega
theorem few8_ev (l : List S25) : ∃ b, Ev (fun k => forebaylaw08_Few.f k l) b ∧ (b = true → l.length ≤ 12 ∧ ∀ m ∈ l, m.f2.length ≤ 80 ∧ m.f4.length ≤ 40) := by
  obtain ⟨b, h1, h2⟩ := few8_l l l.length 0 (by omega)
  exact ⟨b, h1, h2⟩
theorem batGo_drop (of : S25 → Int) (l : List S25) (i : Nat) (h : i < l.length) (x : Int) : batGo of (l.drop i) x = if of (l[i]'h) = 0 then batGo of (l.drop (i + 1)) (x + 1) else (x, of (l[i]'h)) := by
  rw [List.drop_eq_getElem_cons h]
  rfl
theorem refbat_l (l : List S25) (hi : ∀ m ∈ l, metIn m = true) (hs : ∀ m ∈ l, m.f2.length ≤ 80) (hl : l.length ≤ 1000) : ∀ (d i : Nat), i + d = l.length → Ev (fun k => forebayref08_Check.l0 k l (i : Int)) (batGo metBad (l.drop i) (i : Int)) := by
  intro d
  induction d with
  | zero =>
    intro i hd
    rw [List.drop_of_length_le (by omega)]
    refine Ev.step (f := fun _ => some (0, 0)) (fun k => ?_) (Ev.now _)
    simp only [forebayref08_Check.l0]
    rw [if_neg (by omega)]
  | succ d ih =>
    intro i hd
    have hlt : i < l.length := by omega
    have hw := w1 i (by omega)
    have hm := List.getElem_mem hlt
    rw [batGo_drop metBad l i hlt]
    refine Ev.step (f := fun k => (forebayref07_Check.f k (l[i]'hlt).f0 (l[i]'hlt).f1 (l[i]'hlt).f2 (l[i]'hlt).f3 (l[i]'hlt).f4 (l[i]'hlt).f5).bind fun t => (if t = 0 then forebayref08_Check.l0 k l ((i + 1 : Nat) : Int) else some ((i : Int), t))) (fun k => ?_) (Ev.bind (refmet_ev _ (hi _ hm) (by have := hs _ hm; omega)) ?_)
    · simp only [forebayref08_Check.l0]
      rw [if_pos (by omega), if_pos (by omega), rd_met l i hlt, hw]
    · by_cases hz : metBad (l[i]'hlt) = 0
      · rw [if_pos hz]
        exact Ev.congr (fun k => if_pos hz) (ih (i + 1) (by omega))
      · rw [if_neg hz]
        exact Ev.congr (fun k => if_neg hz) (Ev.now _)
theorem refbat_ev (l : List S25) (hi : ∀ m ∈ l, metIn m = true) (hs : ∀ m ∈ l, m.f2.length ≤ 80) : Ev (fun k => forebayref08_Check.f k l) (batBad l) := by
  unfold forebayref08_Check.f batBad
  by_cases hl : 1000 < (l.length : Int)
  · rw [if_pos hl]
    exact Ev.congr (fun k => if_pos hl) (Ev.now _)
  · rw [if_neg hl]
    exact Ev.congr (fun k => if_neg hl) (refbat_l l hi hs (by omega) l.length 0 (by omega))
theorem refsayb_l (l : List S25) (f : Int) (hl : l.length ≤ 9223372036854775806) : ∀ (d i : Nat), i + d = l.length → Ev (fun k => forebayref09_Batch.l0 k l f (i : Int)) (sayGo f (l.drop i) (i : Int)) := by
  intro d
  induction d with
  | zero =>
    intro i hd
    rw [List.drop_of_length_le (by omega)]
    refine Ev.step (f := fun _ => some (0, 0)) (fun k => ?_) (Ev.now _)
    simp only [forebayref09_Batch.l0]
    rw [if_neg (by omega)]
  | succ d ih =>
    intro i hd
    have hlt : i < l.length := by omega
    have hw := w1 i (by omega)
    rw [sayGo_drop f l i (l[i]'hlt) (i : Int) (List.getElem?_eq_getElem hlt)]
    refine Ev.step (f := fun k => (forebayref09_Says.f k (l[i]'hlt).f0 (l[i]'hlt).f1 (l[i]'hlt).f2 (l[i]'hlt).f3 (l[i]'hlt).f4 (l[i]'hlt).f5 f).bind fun t => (if t = true then forebayref09_Batch.l0 k l f ((i + 1 : Nat) : Int) else some ((i : Int), 26))) (fun k => ?_) (Ev.bind (says_ev _ f) ?_)
    · simp only [forebayref09_Batch.l0]
      rw [if_pos (by omega), if_pos (by omega), rd_met l i hlt, hw]
    · by_cases hz : sayB (l[i]'hlt) f = true
      · rw [if_pos hz]
        exact Ev.congr (fun k => if_pos hz) (ih (i + 1) (by omega))
      · rw [if_neg hz]
        exact Ev.congr (fun k => if_neg hz) (Ev.now _)
theorem refsayb_ev (l : List S25) (f : Int) (hi : ∀ m ∈ l, metIn m = true) (hs : ∀ m ∈ l, m.f2.length ≤ 80) (hl : l.length ≤ 9223372036854775806) : Ev (fun k => forebayref09_Batch.f k l f) (sayBatch l f) := by
  unfold sayBatch
  have hj : ∀ b : Bool, Ev (fun k => forebayref09_Batch.j0 k l f b) (if b = true then (0, 29) else if (batBad l).2 ≠ 0 then batBad l else sayGo f l 0) := by
    intro b
    cases b with
    | true =>
      refine Ev.step (f := fun _ => some (0, 29)) (fun k => ?_) (Ev.now _)
      simp only [forebayref09_Batch.j0]
      rw [if_pos trivial]
    | false =>
      refine Ev.step (f := fun k => (forebayref08_Check.f k l).bind fun bt => (if bt.2 = 0 then forebayref09_Batch.l0 k l f 0 else some (bt.1, bt.2))) (fun k => ?_) (Ev.bind (refbat_ev l hi hs) ?_)
      · simp only [forebayref09_Batch.j0]
        rw [if_neg (by decide)]
      · rw [if_neg (by decide)]
        by_cases hz : (batBad l).2 = 0
        · rw [if_neg (fun h => h hz)]
          exact Ev.congr (fun k => if_pos hz) (refsayb_l l f hl l.length 0 (by omega))
        · rw [if_pos hz]
          exact Ev.congr (fun k => if_neg hz) (Ev.now _)
  unfold forebayref09_Batch.f
  by_cases h1 : f < 1
  · rw [if_pos (.inl h1)]
    exact Ev.congr (fun k => if_pos h1) (hj true)
  · by_cases h4 : 4 < f
    · rw [if_pos (.inr h4)]
      exact Ev.congr (fun k => by rw [if_neg h1, decide_eq_true (show f > 4 from h4)]) (hj true)
    · rw [if_neg (by omega)]
      exact Ev.congr (fun k => by rw [if_neg h1, decide_eq_false (show ¬ f > 4 from h4)]) (hj false)
theorem esayb (l : List S25) (f : Int) (hi : ∀ m ∈ l, metIn m = true) : expr_Batch.f l f = some (sayBatch l f) := if_pos (List.all_eq_true.mpr hi)
theorem exprBatches_pure (l : List S25) (f : Int) (hi : ∀ m ∈ l, metIn m = true) : ∃ k, forebaylaw09_ExprBatches.f k l f = some true := by
  refine Ev.rounds ?_
  obtain ⟨b, hb, hl⟩ := few8_ev l
  unfold forebaylaw09_ExprBatches.f
  refine Ev.bind hb ?_
  cases b with
  | false => exact Ev.congr (fun k => if_neg (by decide)) (Ev.bind awake_ev (Ev.now _))
  | true =>
    have h := hl rfl
    refine Ev.congr (f := fun k => (forebayref09_Batch.f k l f).bind fun bt => (if (sayBatch l f).1 = bt.1 then (if (sayBatch l f).2 = bt.2 then (forebaylaw09_awake.f k).bind fun t => some t else none) else none)) (fun k => by rw [if_pos rfl, esayb l f hi]; rfl) (Ev.bind (refsayb_ev l f hi (fun m hm => (h.2 m hm).1) (by omega)) ?_)
    exact Ev.congr (fun k => by rw [if_pos rfl, if_pos rfl]) (Ev.bind awake_ev (Ev.now _))
end Go.Proofs.Ytbdennijmfgdpaa.PE
