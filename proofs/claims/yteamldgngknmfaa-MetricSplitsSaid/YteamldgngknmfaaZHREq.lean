/- The document's answer: are two metrics the same, as they stand; plain; no condition. -/
import Derived.Test.YteamldgngknmfaaZHRFew
import Derived.Test.YteamldgngknmfaaZHPEx4
namespace Go.Proofs.Yteamldgngknmfaa.PE
open Go.RowKit Go.Proofs.YteamldgngknmfaaW.PrintWords Go.Proofs.YteamldgngknmfaaW.PrintLast Go.Proofs.YteamldgngknmfaaW.PrintMore Go.Proofs.Yteamldgngknmfaa
set_option linter.unusedVariables false
set_option linter.unusedSimpArgs false
theorem ba_inj {x y : ByteArray} (h : x.toList = y.toList) : x = y := by
  rw [ByteArray.toList_eq, ByteArray.toList_eq] at h
  cases x; cases y
  congr 1
  exact Array.ext' h
theorem ba_beq (x y : ByteArray) : (x.toList == y.toList) = decide (x = y) := by
  by_cases h : x = y
  · subst h; simp
  · rw [decide_eq_false h]
    exact beq_eq_false_iff_ne.mpr fun h2 => h (ba_inj h2)
theorem tagEq_iff (a b : S37) : ((!((a.f0.toList) == (b.f0.toList)) || (!((a.f1.toList) == (b.f1.toList)))) = true) ↔ a ≠ b := by
  rw [ba_beq, ba_beq]
  cases a with | mk a0 a1 => cases b with | mk b0 b1 =>
  by_cases h0 : a0 = b0 <;> by_cases h1 : a1 = b1 <;> simp [h0, h1]
theorem decEq_iff (a b : S40) : ((!((a.f0) == (b.f0)) || (!((a.f1) == (b.f1)) || (!((a.f2) == (b.f2))))) = true) ↔ a ≠ b := by
  cases a with | mk a0 a1 a2 => cases b with | mk b0 b1 b2 =>
  by_cases h0 : a0 = b0 <;> by_cases h1 : a1 = b1 <;> by_cases h2 : a2 = b2 <;> simp [h0, h1, h2]
theorem eqg_l1 (a b : S25) (h4 : a.f4.length ≤ 140737488355328) (hl : b.f4.length = a.f4.length) : ∀ (d i : Nat), i + d = a.f4.length → ∃ t, Ev (fun k => forebayref07_Equal.l1 k (i : Int) a.f0 a.f1 a.f2 a.f3 a.f4 a.f5 b.f0 b.f1 b.f2 b.f3 b.f4 b.f5) t ∧ (t = true ↔ a.f4.drop i = b.f4.drop i) := by
  intro d
  induction d with
  | zero =>
    intro i hi
    refine ⟨true, Ev.step (f := fun _ => some true) (fun k => ?_) (Ev.now _), ?_⟩
    · simp only [forebayref07_Equal.l1]
      rw [if_neg (by omega)]
    · rw [List.drop_eq_nil_of_le (by omega), List.drop_eq_nil_of_le (by omega)]
      simp
  | succ d ih =>
    intro i hi
    obtain ⟨t, h1, h2⟩ := ih (i + 1) (by omega)
    by_cases h : a.f4[i]'(by omega) = b.f4[i]'(by omega)
    · refine ⟨t, Ev.step (fun k => ?_) h1, ?_⟩
      · simp only [forebayref07_Equal.l1]
        rw [if_pos (by omega), if_pos (by omega), if_pos (by omega), rd_tag a.f4 i (by omega), rd_tag b.f4 i (by omega), if_neg (fun h3 => (tagEq_iff _ _).1 h3 h), w1 i (by omega)]
      · rw [h2, List.drop_eq_getElem_cons (show i < a.f4.length by omega), List.drop_eq_getElem_cons (show i < b.f4.length by omega), h, List.cons.injEq]
        exact ⟨fun h => ⟨rfl, h⟩, fun h => h.2⟩
    · refine ⟨false, Ev.step (f := fun _ => some false) (fun k => ?_) (Ev.now _), ?_⟩
      · simp only [forebayref07_Equal.l1]
        rw [if_pos (by omega), if_pos (by omega), if_pos (by omega), rd_tag a.f4 i (by omega), rd_tag b.f4 i (by omega), if_pos ((tagEq_iff _ _).2 h)]
      · rw [List.drop_eq_getElem_cons (show i < a.f4.length by omega), List.drop_eq_getElem_cons (show i < b.f4.length by omega), List.cons.injEq]
        exact ⟨fun h => (by cases h), fun h3 => absurd h3.1 h⟩
theorem eqg_l0 (a b : S25) (h2 : a.f2.length ≤ 140737488355328) (h4 : a.f4.length ≤ 140737488355328) (hl2 : b.f2.length = a.f2.length) (hl : b.f4.length = a.f4.length) : ∀ (d i : Nat), i + d = a.f2.length → ∃ t, Ev (fun k => forebayref07_Equal.l0 k (i : Int) a.f0 a.f1 a.f2 a.f3 a.f4 a.f5 b.f0 b.f1 b.f2 b.f3 b.f4 b.f5) t ∧ (t = true ↔ a.f2.drop i = b.f2.drop i ∧ a.f4 = b.f4) := by
  intro d
  induction d with
  | zero =>
    intro i hi
    obtain ⟨t, h1, h3⟩ := eqg_l1 a b h4 hl a.f4.length 0 (by omega)
    refine ⟨t, Ev.step (fun k => ?_) h1, ?_⟩
    · simp only [forebayref07_Equal.l0]
      rw [if_neg (by omega)]
      rfl
    · rw [h3, List.drop_zero, List.drop_zero, List.drop_eq_nil_of_le (show a.f2.length ≤ i by omega), List.drop_eq_nil_of_le (show b.f2.length ≤ i by omega)]
      simp
  | succ d ih =>
    intro i hi
    obtain ⟨t, h1, h3⟩ := ih (i + 1) (by omega)
    by_cases h : a.f2[i]'(by omega) = b.f2[i]'(by omega)
    · refine ⟨t, Ev.step (fun k => ?_) h1, ?_⟩
      · simp only [forebayref07_Equal.l0]
        rw [if_pos (by omega), if_pos (by omega), if_pos (by omega), rd_dec a.f2 i (by omega), rd_dec b.f2 i (by omega), if_neg (fun h3 => (decEq_iff _ _).1 h3 h), w1 i (by omega)]
      · rw [h3, List.drop_eq_getElem_cons (show i < a.f2.length by omega), List.drop_eq_getElem_cons (show i < b.f2.length by omega), h, List.cons.injEq]
        exact ⟨fun h => ⟨⟨rfl, h.1⟩, h.2⟩, fun h => ⟨h.1.2, h.2⟩⟩
    · refine ⟨false, Ev.step (f := fun _ => some false) (fun k => ?_) (Ev.now _), ?_⟩
      · simp only [forebayref07_Equal.l0]
        rw [if_pos (by omega), if_pos (by omega), if_pos (by omega), rd_dec a.f2 i (by omega), rd_dec b.f2 i (by omega), if_pos ((decEq_iff _ _).2 h)]
      · rw [List.drop_eq_getElem_cons (show i < a.f2.length by omega), List.drop_eq_getElem_cons (show i < b.f2.length by omega), List.cons.injEq]
        exact ⟨fun h => (by cases h), fun h3 => absurd h3.1.1 h⟩
theorem eqm_ev (a b : S25) (h2 : a.f2.length ≤ 140737488355328) (h4 : a.f4.length ≤ 140737488355328) : ∃ t, Ev (fun k => forebayref07_Equal.f k a.f0 a.f1 a.f2 a.f3 a.f4 a.f5 b.f0 b.f1 b.f2 b.f3 b.f4 b.f5) t ∧ (t = true ↔ a = b) := by
  have hf : Ev (fun k => forebayref07_Equal.j0 k true a.f0 a.f1 a.f2 a.f3 a.f4 a.f5 b.f0 b.f1 b.f2 b.f3 b.f4 b.f5) false := Ev.step (f := fun _ => some false) (fun k => by simp only [forebayref07_Equal.j0]; rfl) (Ev.now _)
  have hx : ∀ {p : Prop} (hp : a = b → p), ¬ p → (false = true ↔ a = b) := fun hp hn => ⟨fun h => (by cases h), fun h => absurd (hp h) hn⟩
  unfold forebayref07_Equal.f
  by_cases c0 : a.f0.toList = b.f0.toList
  · by_cases c1 : a.f1 = b.f1
    · by_cases c3 : a.f3 = b.f3
      · by_cases c5 : a.f5 = b.f5
        · by_cases c2 : (a.f2.length : Int) = (b.f2.length : Int)
          · by_cases c4 : (a.f4.length : Int) = (b.f4.length : Int)
            · obtain ⟨t, e1, e2⟩ := eqg_l0 a b h2 h4 (by omega) (by omega) a.f2.length 0 (by omega)
              refine ⟨t, Ev.congr (f := fun k => forebayref07_Equal.j0 k false a.f0 a.f1 a.f2 a.f3 a.f4 a.f5 b.f0 b.f1 b.f2 b.f3 b.f4 b.f5) (fun k => by rw [if_pos c0, if_pos c1, if_pos c3, if_pos c5, if_pos c2, bne_eq_false_iff_eq.mpr c4]) (Ev.step (fun k => ?_) e1), ?_⟩
              · simp only [forebayref07_Equal.j0]
                rw [if_neg (by decide)]
                rfl
              · rw [e2, List.drop_zero, List.drop_zero]
                have c0' := ba_inj c0
                cases a; cases b
                simp_all
            · exact ⟨false, Ev.congr (fun k => by rw [if_pos c0, if_pos c1, if_pos c3, if_pos c5, if_pos c2, bne_iff_ne.mpr c4]) hf, hx (fun h => by rw [h]) c4⟩
          · exact ⟨false, Ev.congr (fun k => by rw [if_pos c0, if_pos c1, if_pos c3, if_pos c5, if_neg c2]) hf, hx (fun h => by rw [h]) c2⟩
        · exact ⟨false, Ev.congr (fun k => by rw [if_pos c0, if_pos c1, if_pos c3, if_neg c5]) hf, hx (fun h => by rw [h]) c5⟩
      · exact ⟨false, Ev.congr (fun k => by rw [if_pos c0, if_pos c1, if_neg c3]) hf, hx (fun h => by rw [h]) c3⟩
    · exact ⟨false, Ev.congr (fun k => by rw [if_pos c0, if_neg c1]) hf, hx (fun h => by rw [h]) c1⟩
  · exact ⟨false, Ev.congr (fun k => by rw [if_neg c0]) hf, hx (fun h => by rw [h]) c0⟩
theorem eqm_same (a b : S25) (h2 : a.f2.length ≤ 140737488355328) (h4 : a.f4.length ≤ 140737488355328) (h : a = b) : Ev (fun k => forebayref07_Equal.f k a.f0 a.f1 a.f2 a.f3 a.f4 a.f5 b.f0 b.f1 b.f2 b.f3 b.f4 b.f5) true := by
  obtain ⟨t, e1, e2⟩ := eqm_ev a b h2 h4
  rw [e2.2 h] at e1
  exact e1
end Go.Proofs.Yteamldgngknmfaa.PE
