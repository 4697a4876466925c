/- What the laws of tags share: same, Few, awake; plain; no condition. -/
import Derived.Test.YthflkmgcifccjaaDoorZSRTagP
import Derived.Test.YthflkmgcifccjaaDoorZSPEx3
import Derived.Test.YthflkmgcifccjaaDoorZSPEx4
import Derived.Test.YthflkmgcifccjaaDoorZSRTagN
namespace Go.Proofs.YthflkmgcifccjaaDoor.PE
open Go.RowKit Go.Proofs.YthflkmgcifccjaaDoorW.PrintWords Go.Proofs.YthflkmgcifccjaaDoorW.PrintLast Go.Proofs.YthflkmgcifccjaaDoorW.PrintMore Go.Proofs.YthflkmgcifccjaaDoor
set_option linter.unusedVariables false
set_option linter.unusedSimpArgs false
instance : DecidableEq S34 := fun x y => decidable_of_iff (tEq x y = true) tEq_iff
theorem same_l0 (a b : List S34) (ha : a.length ≤ 140737488355328) (hl : b.length = a.length) : ∀ (d i : Nat), i + d = a.length → Ev (fun k => forebaylaw06_same.l0 k a b (i : Int)) (decide (a.drop i = b.drop i)) := by
  intro d
  induction d with
  | zero =>
    intro i hi
    rw [List.drop_eq_nil_of_le (by omega), List.drop_eq_nil_of_le (by omega)]
    refine Ev.step (f := fun _ => some true) (fun k => ?_) (Ev.now _)
    simp only [forebaylaw06_same.l0]
    rw [if_neg (by omega)]
  | succ d ih =>
    intro i hi
    have hw := w1 i (by omega)
    rw [List.drop_eq_getElem_cons (show i < a.length by omega), List.drop_eq_getElem_cons (show i < b.length by omega)]
    by_cases h : a[i]'(by omega) = b[i]'(by omega)
    · refine Ev.step (fun k => ?_) (show Ev (fun k => forebaylaw06_same.l0 k a b ((i + 1 : Nat) : Int)) _ from by
        have := ih (i + 1) (by omega)
        rw [show decide (a[i]'(by omega) :: a.drop (i + 1) = b[i]'(by omega) :: b.drop (i + 1)) = decide (a.drop (i + 1) = b.drop (i + 1)) by rw [h]; simp only [List.cons.injEq, true_and]]
        exact this)
      simp only [forebaylaw06_same.l0]
      rw [if_pos (by omega), if_pos (by omega), if_pos (by omega), rd_tag a i (by omega), rd_tag b i (by omega), if_neg (fun h3 => (tagEq_iff _ _).1 h3 h), hw]
    · rw [decide_eq_false (fun h2 => h (List.cons.inj h2).1)]
      refine Ev.step (f := fun _ => some false) (fun k => ?_) (Ev.now _)
      simp only [forebaylaw06_same.l0]
      rw [if_pos (by omega), if_pos (by omega), if_pos (by omega), rd_tag a i (by omega), rd_tag b i (by omega), if_pos ((tagEq_iff _ _).2 h)]
theorem same_ev (a b : List S34) (ha : a.length ≤ 140737488355328) : Ev (fun k => forebaylaw06_same.f k a b) (decide (a = b)) := by
  unfold forebaylaw06_same.f
  by_cases h : (a.length : Int) = (b.length : Int)
  · have h1 := same_l0 a b ha (by omega) a.length 0 (by omega)
    rw [List.drop_zero, List.drop_zero] at h1
    exact Ev.congr (fun k => if_pos h) h1
  · rw [decide_eq_false (fun e => h (by rw [e]))]
    exact Ev.congr (fun k => if_neg h) (Ev.now _)
theorem same_refl (a : List S34) (ha : a.length ≤ 140737488355328) : Ev (fun k => forebaylaw06_same.f k a a) true := by
  have h := same_ev a a ha
  rw [decide_eq_true rfl] at h
  exact h
def smallT (l : List S34) : Prop := l.length ≤ 60 ∧ ∀ t ∈ l, t.f0.size ≤ 200 ∧ t.f1.size ≤ 200
theorem few6_l0 (l : List S34) : ∀ (d i : Nat), i + d = l.length → i ≤ 61 → (∀ (j : Nat) (h : j < l.length), j < i → (l[j]'h).f0.size ≤ 200 ∧ (l[j]'h).f1.size ≤ 200) →
    ∃ p, Ev (fun k => forebaylaw06_Few.l0 k l (i : Int)) p ∧ (p = true → smallT l) := by
  have hend : ∀ i : Nat, (i = l.length ∨ 61 ≤ i) → (∀ (j : Nat) (h : j < l.length), j < i → (l[j]'h).f0.size ≤ 200 ∧ (l[j]'h).f1.size ≤ 200) → Ev (fun k => forebaylaw06_Few.j1 k l (i : Int) false) (decide ((l.length : Int) ≤ 60)) ∧ (decide ((l.length : Int) ≤ 60) = true → i ≤ l.length → smallT l) := by
    intro i hi hs
    refine ⟨Ev.step (f := fun _ => some (decide ((l.length : Int) ≤ 60))) (fun k => ?_) (Ev.now _), fun h hle => ?_⟩
    · simp only [forebaylaw06_Few.j1]
      rw [if_neg (by decide)]
    · have h1 := of_decide_eq_true h
      refine ⟨by omega, fun t ht => ?_⟩
      obtain ⟨j, hj, rfl⟩ := List.mem_iff_getElem.1 ht
      exact hs j hj (by omega)
  intro d
  induction d with
  | zero =>
    intro i hi h61 hs
    obtain ⟨h1, h2⟩ := hend i (.inl (by omega)) hs
    refine ⟨_, Ev.step (fun k => ?_) h1, fun h => h2 h (by omega)⟩
    simp only [forebaylaw06_Few.l0]
    rw [if_neg (by omega)]
  | succ d ih =>
    intro i hi h61 hs
    by_cases hc : i < 61
    · have hlt : i < l.length := by omega
      have hw := w1 i (by omega)
      by_cases h0 : ((l[i]'hlt).f0.size : Int) > 200
      · refine ⟨false, Ev.step (fun k => ?_) (Ev.step (f := fun _ => some false) (g := fun k => forebaylaw06_Few.j1 k l (i : Int) true) (fun k => ?_) (Ev.now _)), fun h => by cases h⟩
        · simp only [forebaylaw06_Few.l0]
          rw [if_pos (by omega), decide_eq_true (by omega)]
        · simp only [forebaylaw06_Few.j1]
          rw [if_pos trivial, if_pos (by omega), if_pos (by omega), rd_tag l i hlt, if_pos h0]
      · by_cases h1 : ((l[i]'hlt).f1.size : Int) > 200
        · refine ⟨false, Ev.step (fun k => ?_) (Ev.step (f := fun _ => some false) (g := fun k => forebaylaw06_Few.j1 k l (i : Int) true) (fun k => ?_) (Ev.now _)), fun h => by cases h⟩
          · simp only [forebaylaw06_Few.l0]
            rw [if_pos (by omega), decide_eq_true (by omega)]
          · simp only [forebaylaw06_Few.j1]
            rw [if_pos trivial, if_pos (by omega), if_pos (by omega), rd_tag l i hlt, if_neg h0, if_pos h1]
        · obtain ⟨p, hp, hq⟩ := ih (i + 1) (by omega) (by omega) (fun j hj hji => by
            by_cases e : j = i
            · subst e; exact ⟨by omega, by omega⟩
            · exact hs j hj (by omega))
          refine ⟨p, Ev.step (fun k => ?_) (Ev.step (g := fun k => forebaylaw06_Few.j1 k l (i : Int) true) (fun k => ?_) hp), hq⟩
          · simp only [forebaylaw06_Few.l0]
            rw [if_pos (by omega), decide_eq_true (by omega)]
          · simp only [forebaylaw06_Few.j1]
            rw [if_pos trivial, if_pos (by omega), if_pos (by omega), rd_tag l i hlt, if_neg h0, if_neg h1, hw]
    · obtain ⟨h1, h2⟩ := hend i (.inr (by omega)) hs
      refine ⟨_, Ev.step (fun k => ?_) h1, fun h => h2 h (by omega)⟩
      simp only [forebaylaw06_Few.l0]
      rw [if_pos (by omega), decide_eq_false (by omega)]
theorem few6_ev (l : List S34) : ∃ p, Ev (fun k => forebaylaw06_Few.f k l) p ∧ (p = true → smallT l) := few6_l0 l l.length 0 (by omega) (by omega) (fun j h hj => by omega)
def awkH : S34 := ⟨⟨#[104, 111, 115, 116]⟩, ⟨#[]⟩⟩
def awkE : S34 := ⟨⟨#[101, 110, 118]⟩, ⟨#[112, 114, 111, 100]⟩⟩
theorem awk_lt : tLt awkE awkH = true := by decide +kernel
theorem awk_norm : tNorm [awkH, awkE, awkH] = [awkE, awkH] := TUp.ext (tNorm_up _) (by
  refine List.Pairwise.cons (fun y hy => ?_) (List.Pairwise.cons (fun y hy => by simp at hy) List.Pairwise.nil)
  rw [List.mem_singleton] at hy
  rw [hy]
  exact awk_lt) fun y => by
  rw [tNorm_mem]
  simp only [List.mem_cons, List.not_mem_nil, or_false]
  constructor
  · rintro (h | h | h) <;> simp [h]
  · rintro (h | h) <;> simp [h]
theorem awk_p1 : tP (pcsL (⟨#[101, 110, 118, 58, 112, 114, 111, 100, 44, 104, 111, 115, 116]⟩ : ByteArray).data.toList) [] 0 = ([awkE, awkH], 0, 0) := by kernel_rfl
theorem awk_p2 : tP (pcsL (⟨#[97, 58, 49, 44, 98, 58]⟩ : ByteArray).data.toList) [] 0 = ([], 19, 4) := by kernel_rfl
theorem awk_p3 : tP (pcsL (⟨#[]⟩ : ByteArray).data.toList) [] 0 = ([], 19, 0) := by kernel_rfl
theorem awake06_ev : Ev (fun k => forebaylaw06_awake.f k) true := by
  have h1 := parse_ev (⟨#[101, 110, 118, 58, 112, 114, 111, 100, 44, 104, 111, 115, 116]⟩ : ByteArray) (by decide)
  have h2 := parse_ev (⟨#[97, 58, 49, 44, 98, 58]⟩ : ByteArray) (by decide)
  have h3 := parse_ev (⟨#[]⟩ : ByteArray) (by decide)
  rw [awk_p1] at h1
  rw [awk_p2] at h2
  rw [awk_p3] at h3
  unfold forebaylaw06_awake.f
  refine Ev.bind h1 (Ev.bind h2 (Ev.bind h3 ?_))
  refine Ev.congr (f := fun k => (forebaylaw06_same.f k [awkE, awkH] [awkE, awkH]).bind fun t142 => (if t142 = true then ((forebaylaw06_same.f k [awkE, awkH] [awkE, awkH]).bind fun t152 => (some t152)) else (none))) (fun k => ?_) (Ev.bind (same_refl _ (by decide)) (Ev.congr (fun k => if_pos rfl) (Ev.bind (same_refl _ (by decide)) (Ev.now _))))
  have hn : tag_Normal.f [awkH, awkE, awkH] = some [awkE, awkH] := by
    unfold tag_Normal.f
    rw [if_pos (by decide), awk_norm]
  rw [if_pos (by decide)]
  refine congrArg (fun f => Option.bind (forebaylaw06_same.f k [awkE, awkH] [awkE, awkH]) f) (funext fun t => ?_)
  by_cases ht : t = true
  · rw [if_pos ht, if_pos ht, if_pos (by decide), if_pos (by decide)]
    refine (congrArg (fun o => Option.bind o _) hn).trans ?_
    rfl
  · rw [if_neg ht, if_neg ht]
theorem tNorm_len6 (l : List S34) : (tNorm l).length ≤ l.length := by
  have h1 : ∀ (l : List S34) (t : S34), (ddFrom t l).length ≤ l.length := by
    intro l
    induction l with
    | nil => intro t; simp [ddFrom]
    | cons x l ih =>
      intro t
      unfold ddFrom
      split
      · have := ih t
        simp
        omega
      · have := ih x
        simp
        omega
  unfold tNorm
  have h2 : (tSort l).length = l.length := (List.mergeSort_perm l _).length_eq
  cases e : tSort l with
  | nil => simp [dd]
  | cons x r =>
    rw [e] at h2
    have := h1 r x
    simp only [dd, List.length_cons] at *
    omega
end Go.Proofs.YthflkmgcifccjaaDoor.PE
