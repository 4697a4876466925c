/- The document's one form of a metric is package metric's; its Equal, its Is; plain; no condition. -/
import Derived.Test.YteamldgngknmfaaZKRDec
import Derived.Test.YteamldgngknmfaaZKDecEv
import Derived.Test.YteamldgngknmfaaZKPEx9
import Derived.Test.YteamldgngknmfaaZKRTagN
import Derived.Test.YteamldgngknmfaaZKMNorm
import Derived.Test.YteamldgngknmfaaZKPEx10
import Derived.Test.YteamldgngknmfaaZKPEx11
namespace Go.Proofs.Yteamldgngknmfaa.PE
open Go.RowKit Go.Proofs.YteamldgngknmfaaW.PrintWords Go.Proofs.YteamldgngknmfaaW.PrintLast Go.Proofs.YteamldgngknmfaaW.PrintMore Go.Proofs.Yteamldgngknmfaa
set_option linter.unusedVariables false
set_option linter.unusedSimpArgs false
theorem eqd_l0 (a b : List S40) (h2 : a.length ≤ 140737488355328) (hl : b.length = a.length) : ∀ (d i : Nat), i + d = a.length → ∃ t, Ev (fun k => api_Dec_81.l0 k a b (a.length : Int) (i : Int)) t ∧ (t = true ↔ a.drop i = b.drop i) := by
  intro d
  induction d with
  | zero =>
    intro i hi
    refine ⟨true, Ev.step (f := fun _ => some true) (fun k => ?_) (Ev.now _), ?_⟩
    · simp only [api_Dec_81.l0]
      rw [if_neg (by omega)]
    · rw [List.drop_eq_nil_of_le (by omega), List.drop_eq_nil_of_le (by omega)]
      simp
  | succ d ih =>
    intro i hi
    obtain ⟨t, h1, h2⟩ := ih (i + 1) (by omega)
    by_cases h : a[i]'(by omega) = b[i]'(by omega)
    · refine ⟨t, Ev.step (fun k => ?_) h1, ?_⟩
      · simp only [api_Dec_81.l0]
        rw [if_pos (by omega), if_pos (by omega), if_pos (by omega), if_pos (by omega), rd_dec a i (by omega), rd_dec b i (by omega), if_neg (fun h3 => (decEq_iff _ _).1 h3 h), w1 i (by omega)]
      · rw [h2, List.drop_eq_getElem_cons (show i < a.length by omega), List.drop_eq_getElem_cons (show i < b.length by omega), h, List.cons.injEq]
        exact ⟨fun h => ⟨rfl, h⟩, fun h => h.2⟩
    · refine ⟨false, Ev.step (f := fun _ => some false) (fun k => ?_) (Ev.now _), ?_⟩
      · simp only [api_Dec_81.l0]
        rw [if_pos (by omega), if_pos (by omega), if_pos (by omega), if_pos (by omega), rd_dec a i (by omega), rd_dec b i (by omega), if_pos ((decEq_iff _ _).2 h)]
      · rw [List.drop_eq_getElem_cons (show i < a.length by omega), List.drop_eq_getElem_cons (show i < b.length by omega), List.cons.injEq]
        exact ⟨fun h => (by cases h), fun h3 => absurd h3.1 h⟩
theorem eqt_l0 (a b : List S37) (h2 : a.length ≤ 140737488355328) (hl : b.length = a.length) : ∀ (d i : Nat), i + d = a.length → ∃ t, Ev (fun k => api_Tag_82.l0 k a b (a.length : Int) (i : Int)) t ∧ (t = true ↔ a.drop i = b.drop i) := by
  intro d
  induction d with
  | zero =>
    intro i hi
    refine ⟨true, Ev.step (f := fun _ => some true) (fun k => ?_) (Ev.now _), ?_⟩
    · simp only [api_Tag_82.l0]
      rw [if_neg (by omega)]
    · rw [List.drop_eq_nil_of_le (by omega), List.drop_eq_nil_of_le (by omega)]
      simp
  | succ d ih =>
    intro i hi
    obtain ⟨t, h1, h2⟩ := ih (i + 1) (by omega)
    by_cases h : a[i]'(by omega) = b[i]'(by omega)
    · refine ⟨t, Ev.step (fun k => ?_) h1, ?_⟩
      · simp only [api_Tag_82.l0]
        rw [if_pos (by omega), if_pos (by omega), if_pos (by omega), if_pos (by omega), rd_tag a i (by omega), rd_tag b i (by omega), if_neg (fun h3 => (tagEq_iff _ _).1 h3 h), w1 i (by omega)]
      · rw [h2, List.drop_eq_getElem_cons (show i < a.length by omega), List.drop_eq_getElem_cons (show i < b.length by omega), h, List.cons.injEq]
        exact ⟨fun h => ⟨rfl, h⟩, fun h => h.2⟩
    · refine ⟨false, Ev.step (f := fun _ => some false) (fun k => ?_) (Ev.now _), ?_⟩
      · simp only [api_Tag_82.l0]
        rw [if_pos (by omega), if_pos (by omega), if_pos (by omega), if_pos (by omega), rd_tag a i (by omega), rd_tag b i (by omega), if_pos ((tagEq_iff _ _).2 h)]
      · rw [List.drop_eq_getElem_cons (show i < a.length by omega), List.drop_eq_getElem_cons (show i < b.length by omega), List.cons.injEq]
        exact ⟨fun h => (by cases h), fun h3 => absurd h3.1 h⟩
theorem eqd_ev (a b : List S40) (h2 : a.length ≤ 140737488355328) : ∃ t, Ev (fun k => api_Dec_54.f k a b) t ∧ (t = true ↔ a = b) := by
  unfold api_Dec_54.f api_Dec_81.f
  by_cases h : (a.length : Int) = (b.length : Int)
  · obtain ⟨t, e1, e2⟩ := eqd_l0 a b h2 (by omega) a.length 0 (by omega)
    exact ⟨t, Ev.bind (Ev.congr (fun k => if_pos h) e1) (Ev.now _), by rw [e2]; rfl⟩
  · exact ⟨false, Ev.bind (Ev.congr (fun k => if_neg h) (Ev.now _)) (Ev.now _), fun h => (by cases h), fun h3 => absurd (by rw [h3]) h⟩
theorem eqt_ev (a b : List S37) (h2 : a.length ≤ 140737488355328) : ∃ t, Ev (fun k => api_Tag_55.f k a b) t ∧ (t = true ↔ a = b) := by
  unfold api_Tag_55.f api_Tag_82.f
  by_cases h : (a.length : Int) = (b.length : Int)
  · obtain ⟨t, e1, e2⟩ := eqt_l0 a b h2 (by omega) a.length 0 (by omega)
    exact ⟨t, Ev.bind (Ev.congr (fun k => if_pos h) e1) (Ev.now _), by rw [e2]; rfl⟩
  · exact ⟨false, Ev.bind (Ev.congr (fun k => if_neg h) (Ev.now _)) (Ev.now _), fun h => (by cases h), fun h3 => absurd (by rw [h3]) h⟩
theorem meq_ev (a b : S25) (h2 : a.f2.length ≤ 140737488355328) (h4 : a.f4.length ≤ 140737488355328) : ∃ t, Ev (fun k => metric_Equal.f k a.f0 a.f1 a.f2 a.f3 a.f4 a.f5 b.f0 b.f1 b.f2 b.f3 b.f4 b.f5) t ∧ (t = true ↔ a = b) := by
  have hx : ∀ {p : Prop} (hp : a = b → p), ¬ p → (false = true ↔ a = b) := fun hp hn => ⟨fun h => (by cases h), fun h => absurd (hp h) hn⟩
  unfold metric_Equal.f
  by_cases c0 : a.f0.toList = b.f0.toList
  · by_cases c1 : a.f1 = b.f1
    · by_cases c3 : a.f3 = b.f3
      · by_cases c5 : a.f5 = b.f5
        · obtain ⟨t, e1, e2⟩ := eqd_ev a.f2 b.f2 h2
          cases t with
          | true =>
            obtain ⟨u, g1, g2⟩ := eqt_ev a.f4 b.f4 h4
            refine ⟨u, Ev.congr (fun k => by rw [if_pos c0, if_pos c1, if_pos c3, if_pos c5]) (Ev.bind e1 (Ev.congr (fun k => if_pos rfl) (Ev.bind g1 (Ev.now _)))), ?_⟩
            rw [g2]
            have c2 := e2.1 rfl
            have c0' := ba_inj c0
            cases a; cases b
            simp_all
          | false =>
            have hne : ¬ a.f2 = b.f2 := fun h => absurd (e2.2 h) (by decide)
            exact ⟨false, Ev.congr (fun k => by rw [if_pos c0, if_pos c1, if_pos c3, if_pos c5]) (Ev.bind e1 (Ev.congr (fun k => if_neg (show ¬ (false = true) by decide)) (Ev.now _))), hx (fun h => by rw [h]) hne⟩
        · exact ⟨false, Ev.congr (fun k => by rw [if_pos c0, if_pos c1, if_pos c3, if_neg c5]) (Ev.now _), hx (fun h => by rw [h]) c5⟩
      · exact ⟨false, Ev.congr (fun k => by rw [if_pos c0, if_pos c1, if_neg c3]) (Ev.now _), hx (fun h => by rw [h]) c3⟩
    · exact ⟨false, Ev.congr (fun k => by rw [if_pos c0, if_neg c1]) (Ev.now _), hx (fun h => by rw [h]) c1⟩
  · exact ⟨false, Ev.congr (fun k => by rw [if_neg c0]) (Ev.now _), hx (fun h => by rw [h]) c0⟩
end Go.Proofs.Yteamldgngknmfaa.PE
