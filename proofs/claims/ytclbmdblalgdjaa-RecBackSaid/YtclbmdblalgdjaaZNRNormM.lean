/- Few, of a metric; the elements of rows; plain; no condition. -/
import Derived.Test.YtclbmdblalgdjaaZNRMet
import Derived.Test.YtclbmdblalgdjaaZNPEx10
import Derived.Test.YtclbmdblalgdjaaZNTagPl
import Derived.Test.YtclbmdblalgdjaaZNPEx4
import Derived.Test.YtclbmdblalgdjaaZNPEx8
import Derived.Test.YtclbmdblalgdjaaZNPEx9
import Derived.Test.YtclbmdblalgdjaaZNPDx
import Derived.Sort.Grow
import Derived.Laws.Cover1
import Derived.Shelf.SlSortCmp.InsertionK
import Derived.Shelf.SlGeneric
import Derived.Shelf.SlSortCmp.WholeK
import Derived.Shelf.SlSortCmp.NoneTotal
import Derived.Ground.SlsfProg
import Derived.Test.YtclbmdblalgdjaaProg
import Derived.Test.YtclbmdblalgdjaaZNInjV
import Derived.RangeFuncNested
import Derived.RangeFuncBound
import Derived.RangeFuncCalls
import Derived.RangeFuncLeaves
import Derived.RangeFuncBox
import Derived.TacticsInMore
import Derived.OwnWalkIn
import Derived.LoopNIn
import Derived.LoopIn
import Derived.Shelf.RegionOpen
import Derived.Maps.OwnIn
import Derived.Test.YtclbmdblalgdjaaZNPEx0
import Derived.Test.YtclbmdblalgdjaaZNRDec
namespace Go.Proofs.Ytclbmdblalgdjaa.PE
open Go.RowKit Go.Proofs.YtclbmdblalgdjaaW.PrintWords Go.Proofs.YtclbmdblalgdjaaW.PrintLast Go.Proofs.YtclbmdblalgdjaaW.PrintMore Go.Proofs.Ytclbmdblalgdjaa
set_option linter.unusedVariables false
set_option linter.unusedSimpArgs false
theorem rd_dec (l : List S48) (i : Nat) (h : i < l.length) : rd_T48 l (i : Int) = l[i]'h := by
  unfold rd_T48
  rw [Int.toNat_natCast, List.getD_eq_getElem?_getD, List.getElem?_eq_getElem h]
  rfl
theorem rd_tag (l : List S81) (i : Nat) (h : i < l.length) : rd_T81 l (i : Int) = l[i]'h := by
  unfold rd_T81
  rw [Int.toNat_natCast, List.getD_eq_getElem?_getD, List.getElem?_eq_getElem h]
  rfl
theorem w1 (i : Nat) (h : i < 9223372036854775807) : wrap64 ((i : Int) + 1) = ((i + 1 : Nat) : Int) := by
  rw [IntWalk.wrap64_in ((i : Int) + 1) (by omega)]
  omega
theorem few_l0 (m : S26) (hl : m.f4.length ≤ 40) : ∀ (d i : Nat), i + d = m.f4.length → ∃ b, Ev (fun k => forebaylaw07_Few.l0 k (i : Int) m.f0 m.f1 m.f2 m.f3 m.f4 m.f5) b := by
  intro d
  induction d with
  | zero =>
    intro i hi
    refine ⟨true, Ev.step (f := fun _ => some true) (fun k => ?_) (Ev.now _)⟩
    simp only [forebaylaw07_Few.l0]
    rw [if_neg (by omega)]
  | succ d ih =>
    intro i hi
    obtain ⟨b, h1⟩ := ih (i + 1) (by omega)
    by_cases h2 : (((rd_T81 m.f4 (i : Int)).f0).size : Int) > 150
    · refine ⟨false, Ev.step (f := fun _ => some false) (fun k => ?_) (Ev.now _)⟩
      simp only [forebaylaw07_Few.l0]
      rw [if_pos (by omega), if_pos (by omega), if_pos h2]
    · by_cases h3 : (((rd_T81 m.f4 (i : Int)).f1).size : Int) > 150
      · refine ⟨false, Ev.step (f := fun _ => some false) (fun k => ?_) (Ev.now _)⟩
        simp only [forebaylaw07_Few.l0]
        rw [if_pos (by omega), if_pos (by omega), if_neg h2, if_pos h3]
      · refine ⟨b, Ev.step (fun k => ?_) h1⟩
        simp only [forebaylaw07_Few.l0]
        rw [if_pos (by omega), if_pos (by omega), if_neg h2, if_neg h3, w1 i (by omega)]
theorem few_ev (m : S26) : ∃ b, Ev (fun k => forebaylaw07_Few.f k m.f0 m.f1 m.f2 m.f3 m.f4 m.f5) b ∧ (b = true → m.f2.length ≤ 80 ∧ m.f4.length ≤ 40) := by
  have hj : Ev (fun k => forebaylaw07_Few.j0 k true m.f0 m.f1 m.f2 m.f3 m.f4 m.f5) false := Ev.step (f := fun _ => some false) (fun k => by simp only [forebaylaw07_Few.j0]; rfl) (Ev.now _)
  unfold forebaylaw07_Few.f
  by_cases h1 : (m.f0.size : Int) > 300
  · exact ⟨false, Ev.congr (fun k => if_pos h1) hj, fun h => by cases h⟩
  · by_cases h2 : (m.f2.length : Int) > 80
    · exact ⟨false, Ev.congr (fun k => by rw [if_neg h1, if_pos h2]) hj, fun h => by cases h⟩
    · by_cases h3 : (m.f4.length : Int) > 40
      · exact ⟨false, Ev.congr (fun k => by rw [if_neg h1, if_neg h2, decide_eq_true h3]) hj, fun h => by cases h⟩
      · obtain ⟨b, hb⟩ := few_l0 m (by omega) m.f4.length 0 (by omega)
        refine ⟨b, Ev.congr (f := fun k => forebaylaw07_Few.j0 k false m.f0 m.f1 m.f2 m.f3 m.f4 m.f5) (fun k => by rw [if_neg h1, if_neg h2, decide_eq_false h3]) (Ev.step (fun k => ?_) hb), fun _ => by omega⟩
        simp only [forebaylaw07_Few.j0]
        rw [if_neg (by decide)]
        rfl
theorem mcheck_f (m : S26) (hm : metIn m = true) : metric_Check.f m.f0 m.f1 m.f2 m.f3 m.f4 m.f5 = some (metBad m) := if_pos hm
end Go.Proofs.Ytclbmdblalgdjaa.PE
/- The document's answer: are two metrics the same, as they stand; plain; no condition. -/
namespace Go.Proofs.Ytclbmdblalgdjaa.PE
open Go.RowKit Go.Proofs.YtclbmdblalgdjaaW.PrintWords Go.Proofs.YtclbmdblalgdjaaW.PrintLast Go.Proofs.YtclbmdblalgdjaaW.PrintMore Go.Proofs.Ytclbmdblalgdjaa
set_option linter.unusedVariables false
set_option linter.unusedSimpArgs false
theorem ba_inj {x y : ByteArray} (h : x.toList = y.toList) : x = y := by
  rw [ByteArray.toList_eq, ByteArray.toList_eq] at h
  cases x; cases y
  congr 1
  exact Array.ext' h
theorem ba_beq (x y : ByteArray) : (x.toList == y.toList) = decide (x = y) := by
  by_cases h : x = y
  · subst h; simp
  · rw [decide_eq_false h]
    exact beq_eq_false_iff_ne.mpr fun h2 => h (ba_inj h2)
theorem tagEq_iff (a b : S81) : ((!((a.f0.toList) == (b.f0.toList)) || (!((a.f1.toList) == (b.f1.toList)))) = true) ↔ a ≠ b := by
  rw [ba_beq, ba_beq]
  cases a with | mk a0 a1 => cases b with | mk b0 b1 =>
  by_cases h0 : a0 = b0 <;> by_cases h1 : a1 = b1 <;> simp [h0, h1]
theorem decEq_iff (a b : S48) : ((!((a.f0) == (b.f0)) || (!((a.f1) == (b.f1)) || (!((a.f2) == (b.f2))))) = true) ↔ a ≠ b := by
  cases a with | mk a0 a1 a2 => cases b with | mk b0 b1 b2 =>
  by_cases h0 : a0 = b0 <;> by_cases h1 : a1 = b1 <;> by_cases h2 : a2 = b2 <;> simp [h0, h1, h2]
end Go.Proofs.Ytclbmdblalgdjaa.PE
/- The document's order of tags and its one form of tags are package tag's; plain; no condition. -/
namespace Go.Proofs.Ytclbmdblalgdjaa.PE
open Go.RowKit Go.Proofs.YtclbmdblalgdjaaW.PrintWords Go.Proofs.YtclbmdblalgdjaaW.PrintLast Go.Proofs.YtclbmdblalgdjaaW.PrintMore Go.Proofs.Ytclbmdblalgdjaa
set_option linter.unusedVariables false
set_option linter.unusedSimpArgs false
def tIns (t : S81) : List S81 → List S81
  | [] => [t]
  | x :: l => if tLt x t = true then x :: tIns t l else if tEq x t = true then x :: l else t :: x :: l
def tPut (l out : List S81) : List S81 := l.foldl (fun o t => tIns t o) out
theorem tagless_f (x y : S81) : tag_Less.f x.f0 x.f1 y.f0 y.f1 = some (tLt x y) := by
  unfold tag_Less.f tLt
  by_cases h1 : x.f0.toList = y.f0.toList
  · rw [if_pos h1, if_pos (show sEq x.f0 y.f0 = true from beq_iff_eq.mpr h1)]
    rfl
  · rw [if_neg h1, if_neg (show ¬ sEq x.f0 y.f0 = true from fun h => h1 (beq_iff_eq.mp h))]
    rfl
theorem tagis_l0 (L : List S81) (hL : L.length ≤ 140737488355328) : ∀ (d i : Nat), i + d = L.length → 1 ≤ i → Ev (fun k => tag_Is.l0 k L (i : Int)) (tIs (L.drop (i - 1))) := by
  intro d
  induction d with
  | zero =>
    intro i hi h1
    have e : tIs (L.drop (i - 1)) = true := by
      rw [List.drop_eq_getElem_cons (show i - 1 < L.length by omega), List.drop_eq_nil_of_le (by omega)]
      rfl
    rw [e]
    refine Ev.step (f := fun _ => some true) (fun k => ?_) (Ev.now _)
    simp only [tag_Is.l0]
    rw [if_neg (by omega)]
  | succ d ih =>
    intro i hi h1
    have ih := ih (i + 1) (by omega) (by omega)
    rw [show i + 1 - 1 = i by omega, List.drop_eq_getElem_cons (show i < L.length by omega)] at ih
    rw [List.drop_eq_getElem_cons (show i - 1 < L.length by omega), show i - 1 + 1 = i by omega, List.drop_eq_getElem_cons (show i < L.length by omega)]
    have hw : wrap64 ((i : Int) - 1) = ((i - 1 : Nat) : Int) := by rw [IntWalk.wrap64_in _ (by omega)]; omega
    show Ev _ (tLt (L[i - 1]'(by omega)) (L[i]'(by omega)) && tIs (L[i]'(by omega) :: L.drop (i + 1)))
    have hstep : ∀ k, tag_Is.l0 (k + 1) L (i : Int) = if tLt (L[i - 1]'(by omega)) (L[i]'(by omega)) = true then tag_Is.l0 k L ((i + 1 : Nat) : Int) else some false := by
      intro k
      simp only [tag_Is.l0]
      rw [if_pos (by omega), hw, if_pos (by omega), if_pos (by omega), if_pos (by omega), rd_tag L (i - 1) (by omega), rd_tag L i (by omega), tagless_f, Option.bind_some, w1 i (by omega)]
    cases h : tLt (L[i - 1]'(by omega)) (L[i]'(by omega)) with
    | true => exact Ev.step (fun k => by rw [hstep k, if_pos h]) ih
    | false => exact Ev.step (f := fun _ => some false) (fun k => by rw [hstep k, if_neg (by rw [h]; decide)]) (Ev.now _)
theorem tagis_ev (L : List S81) (hL : L.length ≤ 140737488355328) : Ev (fun k => tag_Is.f k L) (tIs L) := by
  cases L with
  | nil =>
    refine Ev.step (f := fun _ => some true) (fun k => ?_) (Ev.now _)
    show tag_Is.l0 (k + 1) [] 1 = _
    simp only [tag_Is.l0]
    rw [if_neg (by simp)]
  | cons x l =>
    have h := tagis_l0 (x :: l) hL l.length 1 (by simp; omega) (by omega)
    exact h
end Go.Proofs.Ytclbmdblalgdjaa.PE
/- A row of tags in memory, and the sort's contract at it; no condition. -/
namespace Go.Proofs.Ytclbmdblalgdjaa
open Go.RowKit Go.Sort Go.Lib Go.Shelf Go.Proofs.YtclbmdblalgdjaaW.PrintWords Go.Proofs.YtclbmdblalgdjaaW.PrintLast Go.Proofs.YtclbmdblalgdjaaW.PrintMore Go.Proofs.Ytclbmdblalgdjaa.PE
set_option linter.unusedVariables false
set_option linter.unusedSimpArgs false
def encT (t : S81) : List Value := [.string t.f0, .string t.f1]
instance : Inhabited S81 := ⟨z81⟩
end Go.Proofs.Ytclbmdblalgdjaa
/- Package tag: Normal; no condition. -/
namespace Go.Proofs.Ytclbmdblalgdjaa
open Go.RowKit Go.Proofs.YtclbmdblalgdjaaW.PrintWords Go.Proofs.YtclbmdblalgdjaaW.PrintLast Go.Proofs.YtclbmdblalgdjaaW.PrintMore Go.Proofs.Ytclbmdblalgdjaa.PE
set_option linter.unusedVariables false
set_option linter.unusedSimpArgs false
theorem eqTag (d : Nat) (w : World) (x0 y0 x1 y1 : ByteArray) :
    (Op.equalIn (d + 2) 81 (.agg #[.string x0, .string x1]) (.agg #[.string y0, .string y1])).run Try.prog w = .ok (x0.toList == y0.toList && (x1.toList == y1.toList)) w := by
  refine eqA_of Try.underlying81 (by kernel_rfl) ?_
  refine eqf_cons (by rfl) (by go_simp; rfl) (by go_simp; rfl) (by go_simp) ?_
  exact eqf_last (by rfl) (by go_simp; rfl) (by go_simp; rfl) (by go_simp)
section
attribute [local go_sem high] eqTag
end
end Go.Proofs.Ytclbmdblalgdjaa
/- The document's one form of a metric is package metric's; its Equal, its Is; plain; no condition. -/
namespace Go.Proofs.Ytclbmdblalgdjaa.PE
open Go.RowKit Go.Proofs.YtclbmdblalgdjaaW.PrintWords Go.Proofs.YtclbmdblalgdjaaW.PrintLast Go.Proofs.YtclbmdblalgdjaaW.PrintMore Go.Proofs.Ytclbmdblalgdjaa
set_option linter.unusedVariables false
set_option linter.unusedSimpArgs false
theorem mis_ev (m : S26) (hm : metIn m = true) (h4 : m.f4.length ≤ 1000000) : Ev (fun k => metric_Is.f k m.f0 m.f1 m.f2 m.f3 m.f4 m.f5) (decide (metBad m = 0) && tIs m.f4) := by
  unfold metric_Is.f
  refine Ev.congr (f := fun k => if metBad m = 0 then ((tag_Is.f k m.f4).bind fun t238 => (some t238)) else (some false)) (fun k => by rw [mcheck_f m hm]; rfl) ?_
  by_cases h : metBad m = 0
  · rw [decide_eq_true h, Bool.true_and]
    exact Ev.congr (fun k => if_pos h) (Ev.bind (tagis_ev m.f4 (by omega)) (Ev.now _))
  · rw [decide_eq_false h, Bool.false_and]
    exact Ev.congr (fun k => if_neg h) (Ev.now _)
theorem eqd_l0 (a b : List S48) (h2 : a.length ≤ 140737488355328) (hl : b.length = a.length) : ∀ (d i : Nat), i + d = a.length → ∃ t, Ev (fun k => api_Dec_106.l0 k a b (a.length : Int) (i : Int)) t ∧ (t = true ↔ a.drop i = b.drop i) := by
  intro d
  induction d with
  | zero =>
    intro i hi
    refine ⟨true, Ev.step (f := fun _ => some true) (fun k => ?_) (Ev.now _), ?_⟩
    · simp only [api_Dec_106.l0]
      rw [if_neg (by omega)]
    · rw [List.drop_eq_nil_of_le (by omega), List.drop_eq_nil_of_le (by omega)]
      simp
  | succ d ih =>
    intro i hi
    obtain ⟨t, h1, h2⟩ := ih (i + 1) (by omega)
    by_cases h : a[i]'(by omega) = b[i]'(by omega)
    · refine ⟨t, Ev.step (fun k => ?_) h1, ?_⟩
      · simp only [api_Dec_106.l0]
        rw [if_pos (by omega), if_pos (by omega), if_pos (by omega), if_pos (by omega), rd_dec a i (by omega), rd_dec b i (by omega), if_neg (fun h3 => (decEq_iff _ _).1 h3 h), w1 i (by omega)]
      · rw [h2, List.drop_eq_getElem_cons (show i < a.length by omega), List.drop_eq_getElem_cons (show i < b.length by omega), h, List.cons.injEq]
        exact ⟨fun h => ⟨rfl, h⟩, fun h => h.2⟩
    · refine ⟨false, Ev.step (f := fun _ => some false) (fun k => ?_) (Ev.now _), ?_⟩
      · simp only [api_Dec_106.l0]
        rw [if_pos (by omega), if_pos (by omega), if_pos (by omega), if_pos (by omega), rd_dec a i (by omega), rd_dec b i (by omega), if_pos ((decEq_iff _ _).2 h)]
      · rw [List.drop_eq_getElem_cons (show i < a.length by omega), List.drop_eq_getElem_cons (show i < b.length by omega), List.cons.injEq]
        exact ⟨fun h => (by cases h), fun h3 => absurd h3.1 h⟩
theorem eqt_l0 (a b : List S81) (h2 : a.length ≤ 140737488355328) (hl : b.length = a.length) : ∀ (d i : Nat), i + d = a.length → ∃ t, Ev (fun k => api_Tag_107.l0 k a b (a.length : Int) (i : Int)) t ∧ (t = true ↔ a.drop i = b.drop i) := by
  intro d
  induction d with
  | zero =>
    intro i hi
    refine ⟨true, Ev.step (f := fun _ => some true) (fun k => ?_) (Ev.now _), ?_⟩
    · simp only [api_Tag_107.l0]
      rw [if_neg (by omega)]
    · rw [List.drop_eq_nil_of_le (by omega), List.drop_eq_nil_of_le (by omega)]
      simp
  | succ d ih =>
    intro i hi
    obtain ⟨t, h1, h2⟩ := ih (i + 1) (by omega)
    by_cases h : a[i]'(by omega) = b[i]'(by omega)
    · refine ⟨t, Ev.step (fun k => ?_) h1, ?_⟩
      · simp only [api_Tag_107.l0]
        rw [if_pos (by omega), if_pos (by omega), if_pos (by omega), if_pos (by omega), rd_tag a i (by omega), rd_tag b i (by omega), if_neg (fun h3 => (tagEq_iff _ _).1 h3 h), w1 i (by omega)]
      · rw [h2, List.drop_eq_getElem_cons (show i < a.length by omega), List.drop_eq_getElem_cons (show i < b.length by omega), h, List.cons.injEq]
        exact ⟨fun h => ⟨rfl, h⟩, fun h => h.2⟩
    · refine ⟨false, Ev.step (f := fun _ => some false) (fun k => ?_) (Ev.now _), ?_⟩
      · simp only [api_Tag_107.l0]
        rw [if_pos (by omega), if_pos (by omega), if_pos (by omega), if_pos (by omega), rd_tag a i (by omega), rd_tag b i (by omega), if_pos ((tagEq_iff _ _).2 h)]
      · rw [List.drop_eq_getElem_cons (show i < a.length by omega), List.drop_eq_getElem_cons (show i < b.length by omega), List.cons.injEq]
        exact ⟨fun h => (by cases h), fun h3 => absurd h3.1 h⟩
theorem eqd_ev (a b : List S48) (h2 : a.length ≤ 140737488355328) : ∃ t, Ev (fun k => api_Dec_67.f k a b) t ∧ (t = true ↔ a = b) := by
  unfold api_Dec_67.f api_Dec_106.f
  by_cases h : (a.length : Int) = (b.length : Int)
  · obtain ⟨t, e1, e2⟩ := eqd_l0 a b h2 (by omega) a.length 0 (by omega)
    exact ⟨t, Ev.bind (Ev.congr (fun k => if_pos h) e1) (Ev.now _), by rw [e2]; rfl⟩
  · exact ⟨false, Ev.bind (Ev.congr (fun k => if_neg h) (Ev.now _)) (Ev.now _), fun h => (by cases h), fun h3 => absurd (by rw [h3]) h⟩
theorem eqt_ev (a b : List S81) (h2 : a.length ≤ 140737488355328) : ∃ t, Ev (fun k => api_Tag_68.f k a b) t ∧ (t = true ↔ a = b) := by
  unfold api_Tag_68.f api_Tag_107.f
  by_cases h : (a.length : Int) = (b.length : Int)
  · obtain ⟨t, e1, e2⟩ := eqt_l0 a b h2 (by omega) a.length 0 (by omega)
    exact ⟨t, Ev.bind (Ev.congr (fun k => if_pos h) e1) (Ev.now _), by rw [e2]; rfl⟩
  · exact ⟨false, Ev.bind (Ev.congr (fun k => if_neg h) (Ev.now _)) (Ev.now _), fun h => (by cases h), fun h3 => absurd (by rw [h3]) h⟩
theorem meq_ev (a b : S26) (h2 : a.f2.length ≤ 140737488355328) (h4 : a.f4.length ≤ 140737488355328) : ∃ t, Ev (fun k => metric_Equal.f k a.f0 a.f1 a.f2 a.f3 a.f4 a.f5 b.f0 b.f1 b.f2 b.f3 b.f4 b.f5) t ∧ (t = true ↔ a = b) := by
  have hx : ∀ {p : Prop} (hp : a = b → p), ¬ p → (false = true ↔ a = b) := fun hp hn => ⟨fun h => (by cases h), fun h => absurd (hp h) hn⟩
  unfold metric_Equal.f
  by_cases c0 : a.f0.toList = b.f0.toList
  · by_cases c1 : a.f1 = b.f1
    · by_cases c3 : a.f3 = b.f3
      · by_cases c5 : a.f5 = b.f5
        · obtain ⟨t, e1, e2⟩ := eqd_ev a.f2 b.f2 h2
          cases t with
          | true =>
            obtain ⟨u, g1, g2⟩ := eqt_ev a.f4 b.f4 h4
            refine ⟨u, Ev.congr (fun k => by rw [if_pos c0, if_pos c1, if_pos c3, if_pos c5]) (Ev.bind e1 (Ev.congr (fun k => if_pos rfl) (Ev.bind g1 (Ev.now _)))), ?_⟩
            rw [g2]
            have c2 := e2.1 rfl
            have c0' := ba_inj c0
            cases a; cases b
            simp_all
          | false =>
            have hne : ¬ a.f2 = b.f2 := fun h => absurd (e2.2 h) (by decide)
            exact ⟨false, Ev.congr (fun k => by rw [if_pos c0, if_pos c1, if_pos c3, if_pos c5]) (Ev.bind e1 (Ev.congr (fun k => if_neg (show ¬ (false = true) by decide)) (Ev.now _))), hx (fun h => by rw [h]) hne⟩
        · exact ⟨false, Ev.congr (fun k => by rw [if_pos c0, if_pos c1, if_pos c3, if_neg c5]) (Ev.now _), hx (fun h => by rw [h]) c5⟩
      · exact ⟨false, Ev.congr (fun k => by rw [if_pos c0, if_pos c1, if_neg c3]) (Ev.now _), hx (fun h => by rw [h]) c3⟩
    · exact ⟨false, Ev.congr (fun k => by rw [if_pos c0, if_neg c1]) (Ev.now _), hx (fun h => by rw [h]) c1⟩
  · exact ⟨false, Ev.congr (fun k => by rw [if_neg c0]) (Ev.now _), hx (fun h => by rw [h]) c0⟩
end Go.Proofs.Ytclbmdblalgdjaa.PE
