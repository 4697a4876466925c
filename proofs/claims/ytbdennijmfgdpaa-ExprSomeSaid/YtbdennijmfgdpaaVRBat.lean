/- The plain statements of ExprBatches and ExprSome; no condition. -/
import Derived.Test.YtbdennijmfgdpaaVRCut
import Derived.Test.YtbdennijmfgdpaaVExB
namespace Go.Proofs.Ytbdennijmfgdpaa.PE
open Go.RowKit Go.Proofs.YtbdennijmfgdpaaW.PrintWords Go.Proofs.YtbdennijmfgdpaaW.PrintLast Go.Proofs.YtbdennijmfgdpaaW.PrintMore
set_option linter.unusedVariables false
set_option linter.unusedSimpArgs false
theorem few8_l (l : List S25) : ∀ (d i : Nat), i + d = l.length → ∃ b, Ev (fun k => forebaylaw08_Few.l0 k l (i : Int)) b ∧ (b = true → l.length ≤ 12 ∧ ∀ m ∈ l.drop i, m.f2.length ≤ 80 ∧ m.f4.length ≤ 40) := by
  intro d
  induction d with
  | zero =>
    intro i hd
    refine ⟨decide ((l.length : Int) ≤ 12), Ev.step (f := fun k => forebaylaw08_Few.j1 k l (i : Int) false) (fun k => ?_) (Ev.step (f := fun _ => some (decide ((l.length : Int) ≤ 12))) (fun k => ?_) (Ev.now _)), fun h => ⟨?_, ?_⟩⟩
    · simp only [forebaylaw08_Few.l0]
      rw [if_neg (by omega)]
    · simp only [forebaylaw08_Few.j1]
      rw [if_neg (by decide)]
    · have := of_decide_eq_true h
      omega
    · rw [List.drop_of_length_le (by omega)]
      simp
  | succ d ih =>
    intro i hd
    have hlt : i < l.length := by omega
    by_cases h13 : (i : Int) < 13
    · obtain ⟨b, hb, hl⟩ := few_ev (l[i]'hlt)
      obtain ⟨b2, hb2, hl2⟩ := ih (i + 1) (by omega)
      have hw := w1 i (by omega)
      refine ⟨if b = true then b2 else false, Ev.step (f := fun k => forebaylaw08_Few.j1 k l (i : Int) true) (fun k => ?_) (Ev.step (f := fun k => (forebaylaw07_Few.f k (l[i]'hlt).f0 (l[i]'hlt).f1 (l[i]'hlt).f2 (l[i]'hlt).f3 (l[i]'hlt).f4 (l[i]'hlt).f5).bind fun t => (if t = true then forebaylaw08_Few.l0 k l ((i + 1 : Nat) : Int) else some false)) (fun k => ?_) (Ev.bind hb ?_)), fun h => ?_⟩
      · simp only [forebaylaw08_Few.l0]
        rw [if_pos (by omega), decide_eq_true h13]
      · simp only [forebaylaw08_Few.j1]
        rw [if_pos trivial, if_pos (by omega), if_pos (by omega), rd_met l i hlt, hw]
      · cases b with
        | false => exact Ev.congr (fun k => if_neg (by decide)) (Ev.now _)
        | true => exact Ev.congr (fun k => if_pos rfl) hb2
      · cases b with
        | false => cases h
        | true =>
          have h2 := hl2 h
          refine ⟨h2.1, ?_⟩
          rw [List.drop_eq_getElem_cons hlt]
          intro m hm
          rcases List.mem_cons.mp hm with rfl | hm
          · exact hl rfl
          · exact h2.2 m hm
    · refine ⟨decide ((l.length : Int) ≤ 12), Ev.step (f := fun k => forebaylaw08_Few.j1 k l (i : Int) false) (fun k => ?_) (Ev.step (f := fun _ => some (decide ((l.length : Int) ≤ 12))) (fun k => ?_) (Ev.now _)), fun h => ?_⟩
      · simp only [forebaylaw08_Few.l0]
        rw [if_pos (by omega), decide_eq_false h13]
      · simp only [forebaylaw08_Few.j1]
        rw [if_neg (by decide)]
      · have := of_decide_eq_true h
        omega
theorem few8_ev (l : List S25) : ∃ b, Ev (fun k => forebaylaw08_Few.f k l) b ∧ (b = true → l.length ≤ 12 ∧ ∀ m ∈ l, m.f2.length ≤ 80 ∧ m.f4.length ≤ 40) := by
  obtain ⟨b, h1, h2⟩ := few8_l l l.length 0 (by omega)
  exact ⟨b, h1, h2⟩
theorem esayb (l : List S25) (f : Int) (hi : ∀ m ∈ l, metIn m = true) : expr_Batch.f l f = some (sayBatch l f) := if_pos (List.all_eq_true.mpr hi)
def FirstAt (p : S25 → Prop) (l : List S25) (i : Nat) (x : Int) : Prop := (x = -1 ∧ ∀ m ∈ l.take i, ¬ p m) ∨ ∃ (j : Nat) (m : S25), j < i ∧ x = (j : Int) ∧ l[j]? = some m ∧ p m ∧ ∀ y ∈ l.take j, ¬ p y
theorem FirstAt.next {p : S25 → Prop} {l : List S25} {i : Nat} {x : Int} (h : FirstAt p l i x) (hlt : i < l.length) : (p (l[i]'hlt) → x < 0 → FirstAt p l (i + 1) (i : Int)) ∧ (p (l[i]'hlt) → ¬ x < 0 → FirstAt p l (i + 1) x) ∧ (¬ p (l[i]'hlt) → FirstAt p l (i + 1) x) := by
  refine ⟨fun hp hx => ?_, fun hp hx => ?_, fun hp => ?_⟩
  · rcases h with ⟨_, h⟩ | ⟨j, m, _, hj, _⟩
    · exact .inr ⟨i, l[i]'hlt, by omega, rfl, List.getElem?_eq_getElem hlt, hp, h⟩
    · omega
  · rcases h with ⟨h, _⟩ | ⟨j, m, h1, h2⟩
    · omega
    · exact .inr ⟨j, m, by omega, h2⟩
  · rcases h with ⟨h, h2⟩ | ⟨j, m, h1, h2⟩
    · refine .inl ⟨h, fun m hm => ?_⟩
      rw [List.take_succ_eq_append_getElem hlt] at hm
      rcases List.mem_append.mp hm with hm | hm
      · exact h2 m hm
      · rw [List.mem_singleton.mp hm]; exact hp
    · exact .inr ⟨j, m, by omega, h2⟩
theorem sayGo_ok (f : Int) : ∀ (l : List S25) (i : Int), (∀ m ∈ l, sayB m f = true) → sayGo f l i = (0, 0)
  | [], _, _ => rfl
  | m :: l, i, h => by
    unfold sayGo
    rw [if_pos (h m (by simp))]
    exact sayGo_ok f l _ (fun x hx => h x (by simp [hx]))
theorem sayGo_at (f : Int) : ∀ (l : List S25) (i : Int) (k : Nat) (m : S25), l[k]? = some m → (∀ x ∈ l.take k, sayB x f = true) → ¬ sayB m f = true → sayGo f l i = (i + k, 26)
  | [], _, _, _, h, _, _ => by simp at h
  | m0 :: l, i, 0, m, h, _, hm => by
    simp at h
    subst h
    unfold sayGo
    rw [if_neg hm]
    simp
  | m0 :: l, i, k + 1, m, h, hl, hm => by
    unfold sayGo
    rw [if_pos (hl m0 (by simp))]
    rw [sayGo_at f l (i + 1) k m (by simpa using h) (fun x hx => hl x (by simp [hx])) hm]
    congr 1
    omega
theorem say_any (m : S25) (f : Int) (hf : f = 2 ∨ f = 4) : sayBad m f = metBad m := by
  have hs : sayB m f = true := by
    unfold sayB
    rw [if_neg (by omega), if_neg (by omega)]
  unfold sayBad
  rw [if_neg (by omega)]
  by_cases h : metBad m = 0
  · rw [if_neg (fun h2 => h2 h), if_pos hs, h]
  · rw [if_pos h]
theorem say_ok (m : S25) (f : Int) (h : sayBad m f = 0) : metBad m = 0 ∧ sayB m f = true ∧ 1 ≤ f ∧ f ≤ 4 := by
  unfold sayBad at h
  by_cases h1 : f < 1 ∨ 4 < f
  · rw [if_pos h1] at h; cases h
  · rw [if_neg h1] at h
    by_cases h2 : metBad m = 0
    · rw [if_neg (fun h => h h2)] at h
      by_cases h3 : sayB m f = true
      · exact ⟨h2, h3, by omega, by omega⟩
      · rw [if_neg h3] at h; cases h
    · rw [if_pos h2] at h
      exact absurd h h2
theorem say_not (m : S25) (f : Int) (hf : ¬ (f < 1 ∨ 4 < f)) (hm : metBad m = 0) : sayBad m f ≠ 0 ↔ ¬ sayB m f = true := by
  unfold sayBad
  rw [if_neg hf, if_neg (fun h => h hm)]
  by_cases h3 : sayB m f = true
  · rw [if_pos h3]; simp [h3]
  · rw [if_neg h3]; simp [h3]
theorem say_both (m : S25) (h : sayBad m 1 = 0) : sayBad m 3 ≠ 0 := by
  intro h3
  have a := (say_ok m 1 h).2.1
  have b := (say_ok m 3 h3).2.1
  unfold sayB at a b
  rw [if_pos rfl] at a
  rw [if_neg (by decide), if_pos rfl] at b
  unfold statsB at a
  unfold graphB at b
  simp only [Bool.and_eq_true, bne_iff_ne, beq_iff_eq, ne_eq] at a b
  exact b.1.2 a.1.1.2
theorem some_l0 (l : List S25) (f : Int) (hi : ∀ m ∈ l, metIn m = true) (hl : l.length ≤ 12) : ∀ (d i : Nat) (x5 x6 : Int), i + d = l.length → FirstAt (fun m => sayBad m f ≠ 0) l i x5 → FirstAt (fun m => metBad m ≠ 0) l i x6 → Ev (fun k => forebaylaw09_ExprSome.l0 k l f x5 x6 (i : Int)) true := by
  intro d
  induction d with
  | zero =>
    intro i x5 x6 hd hf hw
    have hil : i = l.length := by omega
    have hj : ∀ b : Bool, (b = true ↔ f < 1 ∨ 4 < f) → Ev (fun k => forebaylaw09_ExprSome.j3 k l x5 x6 (sayBatch l f).1 (sayBatch l f).2 b) true := by
      intro b hb
      cases b with
      | true =>
        have he : sayBatch l f = (0, 29) := if_pos (hb.mp rfl)
        refine Ev.step (f := fun k => (forebaylaw09_awake.f k).bind fun t => some t) (fun k => ?_) (Ev.bind awake_ev (Ev.now _))
        simp only [forebaylaw09_ExprSome.j3]
        rw [if_pos trivial, he, if_pos rfl, if_pos rfl]
      | false =>
        have hnf : ¬ (f < 1 ∨ 4 < f) := fun h => by have := hb.mpr h; cases this
        have he : sayBatch l f = if (batBad l).2 ≠ 0 then batBad l else sayGo f l 0 := if_neg hnf
        have hb0 : batBad l = batGo metBad l 0 := if_neg (by omega)
        refine Ev.step (f := fun k => (forebaylaw09_awake.f k).bind fun t => some t) (fun k => ?_) (Ev.bind awake_ev (Ev.now _))
        simp only [forebaylaw09_ExprSome.j3]
        rw [if_neg (by decide)]
        rcases hw with ⟨h6, hall⟩ | ⟨j, m, hj, h6, hm, hp, hall⟩
        · rw [hil, List.take_length] at hall
          have h0 : batBad l = (0, 0) := by rw [hb0]; exact batGo_ok _ _ _ (fun m hm => Classical.not_not.mp (hall m hm))
          have he2 : sayBatch l f = sayGo f l 0 := by rw [he, h0]; exact if_neg (fun h => h rfl)
          rw [if_neg (by omega), he2]
          rcases hf with ⟨h5, hal⟩ | ⟨j, m, hj, h5, hm, hp, hal⟩
          · rw [hil, List.take_length] at hal
            rw [if_neg (by omega), sayGo_ok f l 0 (fun m hm => (say_ok m f (Classical.not_not.mp (hal m hm))).2.1), if_pos rfl, if_pos rfl]
          · have hmem := List.mem_of_getElem? hm
            have hs := (say_not m f hnf (Classical.not_not.mp (hall m hmem))).mp hp
            rw [if_pos (by omega), sayGo_at f l 0 j m hm (fun y hy => (say_ok y f (Classical.not_not.mp (hal y hy))).2.1) hs, if_pos (by rw [h5]; simp), if_pos rfl]
        · have hmem := List.mem_of_getElem? hm
          obtain ⟨hjl, hjm⟩ := List.getElem?_eq_some_iff.mp hm
          have h0 : batBad l = ((j : Int), metBad m) := by
            rw [hb0, batGo_at metBad l 0 j m hm (fun y hy => Classical.not_not.mp (hall y hy)) hp]
            congr 1
            omega
          rw [if_pos (by omega), he, h0, if_pos hp, if_pos h6.symm, if_pos (by omega), if_pos (by omega), h6, rd_met l j hjl, hjm, mcheck_f m (hi m hmem)]
          show (if metBad m = metBad m then _ else none) = _
          rw [if_pos rfl]
    refine Ev.step (f := fun k => if f < 1 then forebaylaw09_ExprSome.j3 k l x5 x6 (sayBatch l f).1 (sayBatch l f).2 true else forebaylaw09_ExprSome.j3 k l x5 x6 (sayBatch l f).1 (sayBatch l f).2 (decide (f > 4))) (fun k => ?_) ?_
    · simp only [forebaylaw09_ExprSome.l0]
      rw [if_neg (by omega), esayb l f hi]
      rfl
    · by_cases h1 : f < 1
      · exact Ev.congr (fun k => if_pos h1) (hj true (by simp [h1]))
      · exact Ev.congr (fun k => if_neg h1) (hj (decide (f > 4)) (by simp; omega))
  | succ d ih =>
    intro i x5 x6 hd hf hw
    have hlt : i < l.length := by omega
    have hin := hi _ (List.getElem_mem hlt)
    have hw1 := w1 i (by omega)
    have hfn := hf.next hlt
    have hwn := hw.next hlt
    obtain ⟨m, hm⟩ : ∃ m, l[i]'hlt = m := ⟨_, rfl⟩
    have hrd := rd_met l i hlt
    rw [hm] at hin hfn hwn hrd
    -- which one is wrong
    have hj2 : ∀ (y6 : Int) (b : Bool), FirstAt (fun m => metBad m ≠ 0) l (i + 1) (if b = true then (i : Int) else y6) → Ev (fun k => forebaylaw09_ExprSome.j2 k l f x5 y6 (i : Int) b) true := by
      intro y6 b hb
      have hgo : Ev (fun k => if sayBad m f = 0 then forebaylaw09_ExprSome.l0 k l f x5 (if b = true then (i : Int) else y6) ((i + 1 : Nat) : Int) else if x5 < 0 then forebaylaw09_ExprSome.l0 k l f (i : Int) (if b = true then (i : Int) else y6) ((i + 1 : Nat) : Int) else forebaylaw09_ExprSome.l0 k l f x5 (if b = true then (i : Int) else y6) ((i + 1 : Nat) : Int)) true := by
        by_cases hs : sayBad m f = 0
        · exact Ev.congr (fun k => if_pos hs) (ih (i + 1) _ _ (by omega) (hfn.2.2 (fun h => h hs)) hb)
        · by_cases hx : x5 < 0
          · exact Ev.congr (fun k => by rw [if_neg hs, if_pos hx]) (ih (i + 1) _ _ (by omega) (hfn.1 hs hx) hb)
          · exact Ev.congr (fun k => by rw [if_neg hs, if_neg hx]) (ih (i + 1) _ _ (by omega) (hfn.2.1 hs hx) hb)
      refine Ev.step (fun k => ?_) hgo
      simp only [forebaylaw09_ExprSome.j2]
      cases b with
      | true =>
        rw [if_pos (rfl : true = true), if_pos (by omega), if_pos (by omega), hrd, esay m f hin, hw1]
        rfl
      | false =>
        rw [if_neg (by decide), if_pos (by omega), if_pos (by omega), hrd, esay m f hin, hw1]
        rfl
    have hj1 : Ev (fun k => forebaylaw09_ExprSome.j1 k l f x5 x6 (i : Int) (metBad m) false) true := by
      by_cases hz : metBad m = 0
      · refine Ev.step (fun k => ?_) (hj2 x6 false (by rw [if_neg (by decide)]; exact hwn.2.2 (fun h => h hz)))
        simp only [forebaylaw09_ExprSome.j1]
        rw [if_neg (by decide), if_pos hz]
      · refine Ev.step (fun k => ?_) (hj2 x6 (decide (x6 < 0)) ?_)
        · simp only [forebaylaw09_ExprSome.j1]
          rw [if_neg (by decide), if_neg hz]
        · by_cases hx : x6 < 0
          · rw [if_pos (decide_eq_true hx)]; exact hwn.1 hz hx
          · rw [if_neg (by simpa using hx)]; exact hwn.2.1 hz hx
    refine Ev.step (fun k => ?_) hj1
    simp only [forebaylaw09_ExprSome.l0]
    rw [if_pos (by omega), if_pos (by omega), hrd, mcheck_f m hin, esay m 1 hin, esay m 2 hin, esay m 3 hin, esay m 4 hin, say_any m 2 (.inl rfl), say_any m 4 (.inr rfl)]
    simp only [Option.bind_some, if_true]
    by_cases h1 : sayBad m 1 = 0
    · rw [if_pos h1, if_pos (say_ok m 1 h1).1, if_neg (say_both m h1)]
    · rw [if_neg h1]
      by_cases h3 : sayBad m 3 = 0
      · rw [if_pos h3, (say_ok m 3 h3).1]
        rfl
      · rw [if_neg h3]
theorem exprSome_pure (l : List S25) (f : Int) (hi : ∀ m ∈ l, metIn m = true) : ∃ k, forebaylaw09_ExprSome.f k l f = some true := by
  refine Ev.rounds ?_
  obtain ⟨b, hb, hl⟩ := few8_ev l
  unfold forebaylaw09_ExprSome.f
  refine Ev.bind hb ?_
  cases b with
  | false => exact Ev.congr (fun k => if_neg (by decide)) (Ev.bind awake_ev (Ev.now _))
  | true =>
    have h := hl rfl
    exact Ev.congr (fun k => if_pos rfl) (some_l0 l f hi h.1 l.length 0 (-1) (-1) (by omega) (.inl ⟨rfl, fun m hm => by simp at hm⟩) (.inl ⟨rfl, fun m hm => by simp at hm⟩))
end Go.Proofs.Ytbdennijmfgdpaa.PE
