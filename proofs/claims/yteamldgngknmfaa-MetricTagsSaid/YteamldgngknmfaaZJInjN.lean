/- The document's answer for numbers tells what package dec's Check tells; plain; no condition. -/
import Derived.Test.YteamldgngknmfaaZJLawMetB
import Derived.Test.YteamldgngknmfaaZJPEx6
import Derived.Test.YteamldgngknmfaaZJPEx8
import Derived.Test.YteamldgngknmfaaZJPEx4
import Derived.Test.YteamldgngknmfaaZJTagPl
import Derived.Test.YteamldgngknmfaaZJPEx10
import Derived.Test.YteamldgngknmfaaZJPEx9
import Derived.Test.YteamldgngknmfaaZJDecEv
import Derived.Test.YteamldgngknmfaaZJMNorm
import Derived.Test.YteamldgngknmfaaZJPEx11
import Derived.Test.YteamldgngknmfaaZJEach
import Derived.Maps.OwnOps
import Derived.Maps.OwnSet
import Derived.StringKeys
namespace Go.Proofs.Yteamldgngknmfaa.PE
open Go.RowKit Go.Proofs.YteamldgngknmfaaW.PrintWords Go.Proofs.YteamldgngknmfaaW.PrintLast Go.Proofs.YteamldgngknmfaaW.PrintMore Go.Proofs.Yteamldgngknmfaa
set_option linter.unusedVariables false
set_option linter.unusedSimpArgs false
def dgS (n : Nat) : ByteArray := ⟨(dg n).toArray⟩
theorem dg1_fin : ∀ d : Fin 10, (⟨#[48, 49, 50, 51, 52, 53, 54, 55, 56, 57]⟩ : ByteArray).extract d.val (d.val + 1) = ⟨#[UInt8.ofNat (48 + d.val)]⟩ := by decide +kernel
theorem dg1 (d : Nat) (h : d < 10) : (⟨#[48, 49, 50, 51, 52, 53, 54, 55, 56, 57]⟩ : ByteArray).extract d (d + 1) = ⟨#[UInt8.ofNat (48 + d)]⟩ := dg1_fin ⟨d, h⟩
end Go.Proofs.Yteamldgngknmfaa.PE
/- Few, of a metric; the elements of rows; plain; no condition. -/
namespace Go.Proofs.Yteamldgngknmfaa.PE
open Go.RowKit Go.Proofs.YteamldgngknmfaaW.PrintWords Go.Proofs.YteamldgngknmfaaW.PrintLast Go.Proofs.YteamldgngknmfaaW.PrintMore Go.Proofs.Yteamldgngknmfaa
set_option linter.unusedVariables false
set_option linter.unusedSimpArgs false
theorem rd_dec (l : List S40) (i : Nat) (h : i < l.length) : rd_T40 l (i : Int) = l[i]'h := by
 unfold rd_T40
 rw [Int.toNat_natCast, List.getD_eq_getElem?_getD, List.getElem?_eq_getElem h]
 rfl
theorem rd_tag (l : List S37) (i : Nat) (h : i < l.length) : rd_T37 l (i : Int) = l[i]'h := by
 unfold rd_T37
 rw [Int.toNat_natCast, List.getD_eq_getElem?_getD, List.getElem?_eq_getElem h]
 rfl
theorem w1 (i : Nat) (h : i < 9223372036854775807) : wrap64 ((i : Int) + 1) = ((i + 1 : Nat) : Int) := by
 rw [IntWalk.wrap64_in ((i : Int) + 1) (by omega)]
 omega
theorem few_l0 (m : S25) (hl : m.f4.length ≤ 40) : ∀ (d i : Nat), i + d = m.f4.length → ∃ b, Ev (fun k => forebaylaw07_Few.l0 k (i : Int) m.f0 m.f1 m.f2 m.f3 m.f4 m.f5) b := by
 intro d
 induction d with
 | zero =>
  intro i hi
  refine ⟨true, Ev.step (f := fun _ => some true) (fun k => ?_) (Ev.now _)⟩
  simp only [forebaylaw07_Few.l0]
  rw [if_neg (by omega)]
 | succ d ih =>
  intro i hi
  obtain ⟨b, h1⟩ := ih (i + 1) (by omega)
  by_cases h2 : (((rd_T37 m.f4 (i : Int)).f0).size : Int) > 150
  ·refine ⟨false, Ev.step (f := fun _ => some false) (fun k => ?_) (Ev.now _)⟩
   simp only [forebaylaw07_Few.l0]
   rw [if_pos (by omega), if_pos (by omega), if_pos h2]
  ·by_cases h3 : (((rd_T37 m.f4 (i : Int)).f1).size : Int) > 150
   ·refine ⟨false, Ev.step (f := fun _ => some false) (fun k => ?_) (Ev.now _)⟩
    simp only [forebaylaw07_Few.l0]
    rw [if_pos (by omega), if_pos (by omega), if_neg h2, if_pos h3]
   ·refine ⟨b, Ev.step (fun k => ?_) h1⟩
    simp only [forebaylaw07_Few.l0]
    rw [if_pos (by omega), if_pos (by omega), if_neg h2, if_neg h3, w1 i (by omega)]
theorem few_ev (m : S25) : ∃ b, Ev (fun k => forebaylaw07_Few.f k m.f0 m.f1 m.f2 m.f3 m.f4 m.f5) b ∧ (b = true → m.f2.length ≤ 80 ∧ m.f4.length ≤ 40) := by
 have hj : Ev (fun k => forebaylaw07_Few.j0 k true m.f0 m.f1 m.f2 m.f3 m.f4 m.f5) false := Ev.step (f := fun _ => some false) (fun k => by simp only [forebaylaw07_Few.j0]; rfl) (Ev.now _)
 unfold forebaylaw07_Few.f
 by_cases h1 : (m.f0.size : Int) > 300
 ·exact ⟨false, Ev.congr (fun k => if_pos h1) hj, fun h => by cases h⟩
 ·by_cases h2 : (m.f2.length : Int) > 80
  ·exact ⟨false, Ev.congr (fun k => by rw [if_neg h1, if_pos h2]) hj, fun h => by cases h⟩
  ·by_cases h3 : (m.f4.length : Int) > 40
   ·exact ⟨false, Ev.congr (fun k => by rw [if_neg h1, if_neg h2, decide_eq_true h3]) hj, fun h => by cases h⟩
   ·obtain ⟨b, hb⟩ := few_l0 m (by omega) m.f4.length 0 (by omega)
    refine ⟨b, Ev.congr (f := fun k => forebaylaw07_Few.j0 k false m.f0 m.f1 m.f2 m.f3 m.f4 m.f5) (fun k => by rw [if_neg h1, if_neg h2, decide_eq_false h3]) (Ev.step (fun k => ?_) hb), fun _ => by omega⟩
    simp only [forebaylaw07_Few.j0]
    rw [if_neg (by decide)]
    rfl
theorem mcheck_f (m : S25) (hm : metIn m = true) : metric_Check.f m.f0 m.f1 m.f2 m.f3 m.f4 m.f5 = some (metBad m) := if_pos hm
end Go.Proofs.Yteamldgngknmfaa.PE
/- The document's answer: are two metrics the same, as they stand; plain; no condition. -/
namespace Go.Proofs.Yteamldgngknmfaa.PE
open Go.RowKit Go.Proofs.YteamldgngknmfaaW.PrintWords Go.Proofs.YteamldgngknmfaaW.PrintLast Go.Proofs.YteamldgngknmfaaW.PrintMore Go.Proofs.Yteamldgngknmfaa
set_option linter.unusedVariables false
set_option linter.unusedSimpArgs false
theorem ba_inj {x y : ByteArray} (h : x.toList = y.toList) : x = y := by
 rw [ByteArray.toList_eq, ByteArray.toList_eq] at h
 cases x; cases y
 congr 1
 exact Array.ext' h
theorem ba_beq (x y : ByteArray) : (x.toList == y.toList) = decide (x = y) := by
 by_cases h : x = y
 ·subst h; simp
 ·rw [decide_eq_false h]
  exact beq_eq_false_iff_ne.mpr fun h2 => h (ba_inj h2)
theorem tagEq_iff (a b : S37) : ((!((a.f0.toList) == (b.f0.toList)) || (!((a.f1.toList) == (b.f1.toList)))) = true) ↔ a ≠ b := by
 rw [ba_beq, ba_beq]
 cases a with | mk a0 a1 => cases b with | mk b0 b1 =>
 by_cases h0 : a0 = b0 <;> by_cases h1 : a1 = b1 <;> simp [h0, h1]
theorem decEq_iff (a b : S40) : ((!((a.f0) == (b.f0)) || (!((a.f1) == (b.f1)) || (!((a.f2) == (b.f2))))) = true) ↔ a ≠ b := by
 cases a with | mk a0 a1 a2 => cases b with | mk b0 b1 b2 =>
 by_cases h0 : a0 = b0 <;> by_cases h1 : a1 = b1 <;> by_cases h2 : a2 = b2 <;> simp [h0, h1, h2]
theorem eqg_l1 (a b : S25) (h4 : a.f4.length ≤ 140737488355328) (hl : b.f4.length = a.f4.length) : ∀ (d i : Nat), i + d = a.f4.length → ∃ t, Ev (fun k => forebayref07_Equal.l1 k (i : Int) a.f0 a.f1 a.f2 a.f3 a.f4 a.f5 b.f0 b.f1 b.f2 b.f3 b.f4 b.f5) t ∧ (t = true ↔ a.f4.drop i = b.f4.drop i) := by
 intro d
 induction d with
 | zero =>
  intro i hi
  refine ⟨true, Ev.step (f := fun _ => some true) (fun k => ?_) (Ev.now _), ?_⟩
  ·simp only [forebayref07_Equal.l1]
   rw [if_neg (by omega)]
  ·rw [List.drop_eq_nil_of_le (by omega), List.drop_eq_nil_of_le (by omega)]
   simp
 | succ d ih =>
  intro i hi
  obtain ⟨t, h1, h2⟩ := ih (i + 1) (by omega)
  by_cases h : a.f4[i]'(by omega) = b.f4[i]'(by omega)
  ·refine ⟨t, Ev.step (fun k => ?_) h1, ?_⟩
   ·simp only [forebayref07_Equal.l1]
    rw [if_pos (by omega), if_pos (by omega), if_pos (by omega), rd_tag a.f4 i (by omega), rd_tag b.f4 i (by omega), if_neg (fun h3 => (tagEq_iff _ _).1 h3 h), w1 i (by omega)]
   ·rw [h2, List.drop_eq_getElem_cons (show i < a.f4.length by omega), List.drop_eq_getElem_cons (show i < b.f4.length by omega), h, List.cons.injEq]
    exact ⟨fun h => ⟨rfl, h⟩, fun h => h.2⟩
  ·refine ⟨false, Ev.step (f := fun _ => some false) (fun k => ?_) (Ev.now _), ?_⟩
   ·simp only [forebayref07_Equal.l1]
    rw [if_pos (by omega), if_pos (by omega), if_pos (by omega), rd_tag a.f4 i (by omega), rd_tag b.f4 i (by omega), if_pos ((tagEq_iff _ _).2 h)]
   ·rw [List.drop_eq_getElem_cons (show i < a.f4.length by omega), List.drop_eq_getElem_cons (show i < b.f4.length by omega), List.cons.injEq]
    exact ⟨fun h => (by cases h), fun h3 => absurd h3.1 h⟩
theorem eqg_l0 (a b : S25) (h2 : a.f2.length ≤ 140737488355328) (h4 : a.f4.length ≤ 140737488355328) (hl2 : b.f2.length = a.f2.length) (hl : b.f4.length = a.f4.length) : ∀ (d i : Nat), i + d = a.f2.length → ∃ t, Ev (fun k => forebayref07_Equal.l0 k (i : Int) a.f0 a.f1 a.f2 a.f3 a.f4 a.f5 b.f0 b.f1 b.f2 b.f3 b.f4 b.f5) t ∧ (t = true ↔ a.f2.drop i = b.f2.drop i ∧ a.f4 = b.f4) := by
 intro d
 induction d with
 | zero =>
  intro i hi
  obtain ⟨t, h1, h3⟩ := eqg_l1 a b h4 hl a.f4.length 0 (by omega)
  refine ⟨t, Ev.step (fun k => ?_) h1, ?_⟩
  ·simp only [forebayref07_Equal.l0]
   rw [if_neg (by omega)]
   rfl
  ·rw [h3, List.drop_zero, List.drop_zero, List.drop_eq_nil_of_le (show a.f2.length ≤ i by omega), List.drop_eq_nil_of_le (show b.f2.length ≤ i by omega)]
   simp
 | succ d ih =>
  intro i hi
  obtain ⟨t, h1, h3⟩ := ih (i + 1) (by omega)
  by_cases h : a.f2[i]'(by omega) = b.f2[i]'(by omega)
  ·refine ⟨t, Ev.step (fun k => ?_) h1, ?_⟩
   ·simp only [forebayref07_Equal.l0]
    rw [if_pos (by omega), if_pos (by omega), if_pos (by omega), rd_dec a.f2 i (by omega), rd_dec b.f2 i (by omega), if_neg (fun h3 => (decEq_iff _ _).1 h3 h), w1 i (by omega)]
   ·rw [h3, List.drop_eq_getElem_cons (show i < a.f2.length by omega), List.drop_eq_getElem_cons (show i < b.f2.length by omega), h, List.cons.injEq]
    exact ⟨fun h => ⟨⟨rfl, h.1⟩, h.2⟩, fun h => ⟨h.1.2, h.2⟩⟩
  ·refine ⟨false, Ev.step (f := fun _ => some false) (fun k => ?_) (Ev.now _), ?_⟩
   ·simp only [forebayref07_Equal.l0]
    rw [if_pos (by omega), if_pos (by omega), if_pos (by omega), rd_dec a.f2 i (by omega), rd_dec b.f2 i (by omega), if_pos ((decEq_iff _ _).2 h)]
   ·rw [List.drop_eq_getElem_cons (show i < a.f2.length by omega), List.drop_eq_getElem_cons (show i < b.f2.length by omega), List.cons.injEq]
    exact ⟨fun h => (by cases h), fun h3 => absurd h3.1.1 h⟩
theorem eqm_ev (a b : S25) (h2 : a.f2.length ≤ 140737488355328) (h4 : a.f4.length ≤ 140737488355328) : ∃ t, Ev (fun k => forebayref07_Equal.f k a.f0 a.f1 a.f2 a.f3 a.f4 a.f5 b.f0 b.f1 b.f2 b.f3 b.f4 b.f5) t ∧ (t = true ↔ a = b) := by
 have hf : Ev (fun k => forebayref07_Equal.j0 k true a.f0 a.f1 a.f2 a.f3 a.f4 a.f5 b.f0 b.f1 b.f2 b.f3 b.f4 b.f5) false := Ev.step (f := fun _ => some false) (fun k => by simp only [forebayref07_Equal.j0]; rfl) (Ev.now _)
 have hx : ∀ {p : Prop} (hp : a = b → p), ¬ p → (false = true ↔ a = b) := fun hp hn => ⟨fun h => (by cases h), fun h => absurd (hp h) hn⟩
 unfold forebayref07_Equal.f
 by_cases c0 : a.f0.toList = b.f0.toList
 ·by_cases c1 : a.f1 = b.f1
  ·by_cases c3 : a.f3 = b.f3
   ·by_cases c5 : a.f5 = b.f5
    ·by_cases c2 : (a.f2.length : Int) = (b.f2.length : Int)
     ·by_cases c4 : (a.f4.length : Int) = (b.f4.length : Int)
      ·obtain ⟨t, e1, e2⟩ := eqg_l0 a b h2 h4 (by omega) (by omega) a.f2.length 0 (by omega)
       refine ⟨t, Ev.congr (f := fun k => forebayref07_Equal.j0 k false a.f0 a.f1 a.f2 a.f3 a.f4 a.f5 b.f0 b.f1 b.f2 b.f3 b.f4 b.f5) (fun k => by rw [if_pos c0, if_pos c1, if_pos c3, if_pos c5, if_pos c2, bne_eq_false_iff_eq.mpr c4]) (Ev.step (fun k => ?_) e1), ?_⟩
       ·simp only [forebayref07_Equal.j0]
        rw [if_neg (by decide)]
        rfl
       ·rw [e2, List.drop_zero, List.drop_zero]
        have c0' := ba_inj c0
        cases a; cases b
        simp_all
      ·exact ⟨false, Ev.congr (fun k => by rw [if_pos c0, if_pos c1, if_pos c3, if_pos c5, if_pos c2, bne_iff_ne.mpr c4]) hf, hx (fun h => by rw [h]) c4⟩
     ·exact ⟨false, Ev.congr (fun k => by rw [if_pos c0, if_pos c1, if_pos c3, if_pos c5, if_neg c2]) hf, hx (fun h => by rw [h]) c2⟩
    ·exact ⟨false, Ev.congr (fun k => by rw [if_pos c0, if_pos c1, if_pos c3, if_neg c5]) hf, hx (fun h => by rw [h]) c5⟩
   ·exact ⟨false, Ev.congr (fun k => by rw [if_pos c0, if_pos c1, if_neg c3]) hf, hx (fun h => by rw [h]) c3⟩
  ·exact ⟨false, Ev.congr (fun k => by rw [if_pos c0, if_neg c1]) hf, hx (fun h => by rw [h]) c1⟩
 ·exact ⟨false, Ev.congr (fun k => by rw [if_neg c0]) hf, hx (fun h => by rw [h]) c0⟩
theorem eqm_same (a b : S25) (h2 : a.f2.length ≤ 140737488355328) (h4 : a.f4.length ≤ 140737488355328) (h : a = b) : Ev (fun k => forebayref07_Equal.f k a.f0 a.f1 a.f2 a.f3 a.f4 a.f5 b.f0 b.f1 b.f2 b.f3 b.f4 b.f5) true := by
 obtain ⟨t, e1, e2⟩ := eqm_ev a b h2 h4
 rw [e2.2 h] at e1
 exact e1
end Go.Proofs.Yteamldgngknmfaa.PE
/- The document's order of tags and its one form of tags are package tag's; plain; no condition. -/
namespace Go.Proofs.Yteamldgngknmfaa.PE
open Go.RowKit Go.Proofs.YteamldgngknmfaaW.PrintWords Go.Proofs.YteamldgngknmfaaW.PrintLast Go.Proofs.YteamldgngknmfaaW.PrintMore Go.Proofs.Yteamldgngknmfaa
set_option linter.unusedVariables false
set_option linter.unusedSimpArgs false
def tIns (t : S37) : List S37 → List S37
 | [] => [t]
 | x :: l => if tLt x t = true then x :: tIns t l else if tEq x t = true then x :: l else t :: x :: l
def tPut (l out : List S37) : List S37 := l.foldl (fun o t => tIns t o) out
end Go.Proofs.Yteamldgngknmfaa.PE
/- The document's one form of a metric is package metric's; its Equal, its Is; plain; no condition. -/
namespace Go.Proofs.Yteamldgngknmfaa.PE
open Go.RowKit Go.Proofs.YteamldgngknmfaaW.PrintWords Go.Proofs.YteamldgngknmfaaW.PrintLast Go.Proofs.YteamldgngknmfaaW.PrintMore Go.Proofs.Yteamldgngknmfaa
set_option linter.unusedVariables false
set_option linter.unusedSimpArgs false
def normT (m : S25) : ByteArray × Int × List S40 × Int × List S37 × Int × Int := ((metNorm m).1.f0, (metNorm m).1.f1, (metNorm m).1.f2, (metNorm m).1.f3, (metNorm m).1.f4, (metNorm m).1.f5, (metNorm m).2)
theorem mnorm_f (m : S25) (hm : metIn m = true) (h2 : m.f2.length < 1000000) (h4 : m.f4.length < 1000000) : metric_Normal.f m.f0 m.f1 m.f2 m.f3 m.f4 m.f5 = some (normT m) := if_pos ⟨hm, h2, h4⟩
theorem metBad_parts {m : S25} (h : metBad m = 0) : metPart m 0 = true ∧ metPart m 1 = true ∧ metPart m 2 = true ∧ metPart m 3 = true ∧ metPart m 4 = true ∧ metPart m 5 = true := by
 unfold metBad at h
 repeat' split at h
 all_goals first | (exfalso; omega) | (simp_all)
theorem metBad_of {m : S25} (h : metPart m 0 = true ∧ metPart m 1 = true ∧ metPart m 2 = true ∧ metPart m 3 = true ∧ metPart m 4 = true ∧ metPart m 5 = true) : metBad m = 0 := by
 unfold metBad
 rw [h.1, h.2.1, h.2.2.1, h.2.2.2.1, h.2.2.2.2.1, h.2.2.2.2.2]
 rfl
theorem eqd_l0 (a b : List S40) (h2 : a.length ≤ 140737488355328) (hl : b.length = a.length) : ∀ (d i : Nat), i + d = a.length → ∃ t, Ev (fun k => api_Dec_81.l0 k a b (a.length : Int) (i : Int)) t ∧ (t = true ↔ a.drop i = b.drop i) := by
 intro d
 induction d with
 | zero =>
  intro i hi
  refine ⟨true, Ev.step (f := fun _ => some true) (fun k => ?_) (Ev.now _), ?_⟩
  ·simp only [api_Dec_81.l0]
   rw [if_neg (by omega)]
  ·rw [List.drop_eq_nil_of_le (by omega), List.drop_eq_nil_of_le (by omega)]
   simp
 | succ d ih =>
  intro i hi
  obtain ⟨t, h1, h2⟩ := ih (i + 1) (by omega)
  by_cases h : a[i]'(by omega) = b[i]'(by omega)
  ·refine ⟨t, Ev.step (fun k => ?_) h1, ?_⟩
   ·simp only [api_Dec_81.l0]
    rw [if_pos (by omega), if_pos (by omega), if_pos (by omega), if_pos (by omega), rd_dec a i (by omega), rd_dec b i (by omega), if_neg (fun h3 => (decEq_iff _ _).1 h3 h), w1 i (by omega)]
   ·rw [h2, List.drop_eq_getElem_cons (show i < a.length by omega), List.drop_eq_getElem_cons (show i < b.length by omega), h, List.cons.injEq]
    exact ⟨fun h => ⟨rfl, h⟩, fun h => h.2⟩
  ·refine ⟨false, Ev.step (f := fun _ => some false) (fun k => ?_) (Ev.now _), ?_⟩
   ·simp only [api_Dec_81.l0]
    rw [if_pos (by omega), if_pos (by omega), if_pos (by omega), if_pos (by omega), rd_dec a i (by omega), rd_dec b i (by omega), if_pos ((decEq_iff _ _).2 h)]
   ·rw [List.drop_eq_getElem_cons (show i < a.length by omega), List.drop_eq_getElem_cons (show i < b.length by omega), List.cons.injEq]
    exact ⟨fun h => (by cases h), fun h3 => absurd h3.1 h⟩
theorem eqt_l0 (a b : List S37) (h2 : a.length ≤ 140737488355328) (hl : b.length = a.length) : ∀ (d i : Nat), i + d = a.length → ∃ t, Ev (fun k => api_Tag_82.l0 k a b (a.length : Int) (i : Int)) t ∧ (t = true ↔ a.drop i = b.drop i) := by
 intro d
 induction d with
 | zero =>
  intro i hi
  refine ⟨true, Ev.step (f := fun _ => some true) (fun k => ?_) (Ev.now _), ?_⟩
  ·simp only [api_Tag_82.l0]
   rw [if_neg (by omega)]
  ·rw [List.drop_eq_nil_of_le (by omega), List.drop_eq_nil_of_le (by omega)]
   simp
 | succ d ih =>
  intro i hi
  obtain ⟨t, h1, h2⟩ := ih (i + 1) (by omega)
  by_cases h : a[i]'(by omega) = b[i]'(by omega)
  ·refine ⟨t, Ev.step (fun k => ?_) h1, ?_⟩
   ·simp only [api_Tag_82.l0]
    rw [if_pos (by omega), if_pos (by omega), if_pos (by omega), if_pos (by omega), rd_tag a i (by omega), rd_tag b i (by omega), if_neg (fun h3 => (tagEq_iff _ _).1 h3 h), w1 i (by omega)]
   ·rw [h2, List.drop_eq_getElem_cons (show i < a.length by omega), List.drop_eq_getElem_cons (show i < b.length by omega), h, List.cons.injEq]
    exact ⟨fun h => ⟨rfl, h⟩, fun h => h.2⟩
  ·refine ⟨false, Ev.step (f := fun _ => some false) (fun k => ?_) (Ev.now _), ?_⟩
   ·simp only [api_Tag_82.l0]
    rw [if_pos (by omega), if_pos (by omega), if_pos (by omega), if_pos (by omega), rd_tag a i (by omega), rd_tag b i (by omega), if_pos ((tagEq_iff _ _).2 h)]
   ·rw [List.drop_eq_getElem_cons (show i < a.length by omega), List.drop_eq_getElem_cons (show i < b.length by omega), List.cons.injEq]
    exact ⟨fun h => (by cases h), fun h3 => absurd h3.1 h⟩
theorem eqd_ev (a b : List S40) (h2 : a.length ≤ 140737488355328) : ∃ t, Ev (fun k => api_Dec_54.f k a b) t ∧ (t = true ↔ a = b) := by
 unfold api_Dec_54.f api_Dec_81.f
 by_cases h : (a.length : Int) = (b.length : Int)
 ·obtain ⟨t, e1, e2⟩ := eqd_l0 a b h2 (by omega) a.length 0 (by omega)
  exact ⟨t, Ev.bind (Ev.congr (fun k => if_pos h) e1) (Ev.now _), by rw [e2]; rfl⟩
 ·exact ⟨false, Ev.bind (Ev.congr (fun k => if_neg h) (Ev.now _)) (Ev.now _), fun h => (by cases h), fun h3 => absurd (by rw [h3]) h⟩
theorem eqt_ev (a b : List S37) (h2 : a.length ≤ 140737488355328) : ∃ t, Ev (fun k => api_Tag_55.f k a b) t ∧ (t = true ↔ a = b) := by
 unfold api_Tag_55.f api_Tag_82.f
 by_cases h : (a.length : Int) = (b.length : Int)
 ·obtain ⟨t, e1, e2⟩ := eqt_l0 a b h2 (by omega) a.length 0 (by omega)
  exact ⟨t, Ev.bind (Ev.congr (fun k => if_pos h) e1) (Ev.now _), by rw [e2]; rfl⟩
 ·exact ⟨false, Ev.bind (Ev.congr (fun k => if_neg h) (Ev.now _)) (Ev.now _), fun h => (by cases h), fun h3 => absurd (by rw [h3]) h⟩
theorem meq_ev (a b : S25) (h2 : a.f2.length ≤ 140737488355328) (h4 : a.f4.length ≤ 140737488355328) : ∃ t, Ev (fun k => metric_Equal.f k a.f0 a.f1 a.f2 a.f3 a.f4 a.f5 b.f0 b.f1 b.f2 b.f3 b.f4 b.f5) t ∧ (t = true ↔ a = b) := by
 have hx : ∀ {p : Prop} (hp : a = b → p), ¬ p → (false = true ↔ a = b) := fun hp hn => ⟨fun h => (by cases h), fun h => absurd (hp h) hn⟩
 unfold metric_Equal.f
 by_cases c0 : a.f0.toList = b.f0.toList
 ·by_cases c1 : a.f1 = b.f1
  ·by_cases c3 : a.f3 = b.f3
   ·by_cases c5 : a.f5 = b.f5
    ·obtain ⟨t, e1, e2⟩ := eqd_ev a.f2 b.f2 h2
     cases t with
     | true =>
      obtain ⟨u, g1, g2⟩ := eqt_ev a.f4 b.f4 h4
      refine ⟨u, Ev.congr (fun k => by rw [if_pos c0, if_pos c1, if_pos c3, if_pos c5]) (Ev.bind e1 (Ev.congr (fun k => if_pos rfl) (Ev.bind g1 (Ev.now _)))), ?_⟩
      rw [g2]
      have c2 := e2.1 rfl
      have c0' := ba_inj c0
      cases a; cases b
      simp_all
     | false =>
      have hne : ¬ a.f2 = b.f2 := fun h => absurd (e2.2 h) (by decide)
      exact ⟨false, Ev.congr (fun k => by rw [if_pos c0, if_pos c1, if_pos c3, if_pos c5]) (Ev.bind e1 (Ev.congr (fun k => if_neg (show ¬ (false = true) by decide)) (Ev.now _))), hx (fun h => by rw [h]) hne⟩
    ·exact ⟨false, Ev.congr (fun k => by rw [if_pos c0, if_pos c1, if_pos c3, if_neg c5]) (Ev.now _), hx (fun h => by rw [h]) c5⟩
   ·exact ⟨false, Ev.congr (fun k => by rw [if_pos c0, if_pos c1, if_neg c3]) (Ev.now _), hx (fun h => by rw [h]) c3⟩
  ·exact ⟨false, Ev.congr (fun k => by rw [if_pos c0, if_neg c1]) (Ev.now _), hx (fun h => by rw [h]) c1⟩
 ·exact ⟨false, Ev.congr (fun k => by rw [if_neg c0]) (Ev.now _), hx (fun h => by rw [h]) c0⟩
theorem ddFrom_len : ∀ (l : List S37) (t : S37), (ddFrom t l).length ≤ l.length
 | [], _ => Nat.le_refl _
 | x :: l, t => by
  unfold ddFrom
  split
  ·exact Nat.le_succ_of_le (ddFrom_len l t)
  ·exact Nat.succ_le_succ (ddFrom_len l x)
theorem tNorm_len (l : List S37) : (tNorm l).length ≤ l.length := by
 have hs : (tSort l).length = l.length := (List.mergeSort_perm l _).length_eq
 unfold tNorm
 cases he : tSort l with
 | nil => exact Nat.zero_le _
 | cons x r =>
  rw [he] at hs
  have := ddFrom_len r x
  simp only [dd, List.length_cons] at *
  omega
theorem metNorm_len (m : S25) (h2 : m.f2.length ≤ 100000) (h4 : m.f4.length ≤ 100000) : (metNorm m).1.f2.length ≤ 100000 ∧ (metNorm m).1.f4.length ≤ 100000 := by
 have := tNorm_len m.f4
 unfold metNorm
 split
 ·simp only [List.length_map]
  omega
 ·exact ⟨Nat.zero_le _, Nat.zero_le _⟩
theorem msame_ev (a b : S25) (ha : metIn a = true) (hb : metIn b = true) (a2 : a.f2.length ≤ 100000) (a4 : a.f4.length ≤ 100000) (b2 : b.f2.length ≤ 100000) (b4 : b.f4.length ≤ 100000) : ∃ t, Ev (fun k => metric_Same.f k a.f0 a.f1 a.f2 a.f3 a.f4 a.f5 b.f0 b.f1 b.f2 b.f3 b.f4 b.f5) t ∧ (t = true ↔ (metNorm a).2 = 0 ∧ (metNorm b).2 = 0 ∧ (metNorm a).1 = (metNorm b).1) := by
 have hl := metNorm_len a a2 a4
 obtain ⟨t, e1, e2⟩ := meq_ev (metNorm a).1 (metNorm b).1 (by omega) (by omega)
 unfold metric_Same.f
 rw [mnorm_f a ha (by omega) (by omega), mnorm_f b hb (by omega) (by omega)]
 by_cases h1 : (metNorm a).2 = 0
 ·by_cases h2 : (metNorm b).2 = 0
  ·refine ⟨t, Ev.congr (f := fun k => (metric_Equal.f k (metNorm a).1.f0 (metNorm a).1.f1 (metNorm a).1.f2 (metNorm a).1.f3 (metNorm a).1.f4 (metNorm a).1.f5 (metNorm b).1.f0 (metNorm b).1.f1 (metNorm b).1.f2 (metNorm b).1.f3 (metNorm b).1.f4 (metNorm b).1.f5).bind fun t => some t) (fun k => ?_) (Ev.bind e1 (Ev.now _)), by rw [e2]; exact ⟨fun h => ⟨h1, h2, h⟩, fun h => h.2.2⟩⟩
   rw [Option.bind_some, Option.bind_some]
   exact (if_pos h1).trans (if_pos h2)
  ·refine ⟨false, Ev.congr (f := fun _ => some false) (fun k => ?_) (Ev.now _), fun h => (by cases h), fun h => absurd h.2.1 h2⟩
   rw [Option.bind_some, Option.bind_some]
   exact (if_pos h1).trans (if_neg h2)
 ·refine ⟨false, Ev.congr (f := fun _ => some false) (fun k => ?_) (Ev.now _), fun h => (by cases h), fun h => absurd h.1 h1⟩
  rw [Option.bind_some, Option.bind_some]
  exact if_neg h1
end Go.Proofs.Yteamldgngknmfaa.PE
/- Package batch: Check; no condition. -/
namespace Go.Proofs.Yteamldgngknmfaa
open Go.RowKit Go.Proofs.YteamldgngknmfaaW.PrintWords Go.Proofs.YteamldgngknmfaaW.PrintLast Go.Proofs.YteamldgngknmfaaW.PrintMore Go.Proofs.Yteamldgngknmfaa.PE
set_option linter.unusedVariables false
set_option linter.unusedSimpArgs false
attribute [local go_sem] ea_fn ea_depth Fence.wide_round Oper.semAt_some
def batGo (of : MetS → Int) : List MetS → Int → Int × Int
 | [], _ => (0, 0)
 | m :: l, i => if of m = 0 then batGo of l (i + 1) else (i, of m)
def batBad (l : List MetS) : Int × Int := if 1000 < (l.length : Int) then (1000, 12) else batGo metBad l 0
abbrev kBool : Kd Bool := Kd.scalar Value.bool (fun _ => rfl)
end Go.Proofs.Yteamldgngknmfaa
/- Package batch: Normal; no condition. -/
namespace Go.Proofs.Yteamldgngknmfaa
open Go.RowKit Go.Proofs.YteamldgngknmfaaW.PrintWords Go.Proofs.YteamldgngknmfaaW.PrintLast Go.Proofs.YteamldgngknmfaaW.PrintMore Go.Proofs.Yteamldgngknmfaa.PE
set_option linter.unusedVariables false
set_option linter.unusedSimpArgs false
attribute [local go_sem] ea_fn ea_depth Fence.wide_round Oper.semAt_some
def ngo (m : MetS) : Int := (metNorm m).2
def batNorm (l : List MetS) : List MetS × Int × Int := if 1000 < (l.length : Int) then ([], 1000, 12) else if (batGo ngo l 0).2 = 0 then (l.map fun m => (metNorm m).1, 0, 0) else ([], batGo ngo l 0)
end Go.Proofs.Yteamldgngknmfaa
/- Package batch: Equal (slices.EqualFunc over metric.Equal); no condition. -/
namespace Go.Proofs.Yteamldgngknmfaa
open Go.RowKit Go.Proofs.YteamldgngknmfaaW.PrintWords Go.Proofs.YteamldgngknmfaaW.PrintLast Go.Proofs.YteamldgngknmfaaW.PrintMore Go.Proofs.Yteamldgngknmfaa.PE
set_option linter.unusedVariables false
set_option linter.unusedSimpArgs false
def decsEq : List S40 → List S40 → Bool
 | [], [] => true
 | x :: l, y :: r => ((x.f0 == y.f0) && ((x.f1 == y.f1) && (x.f2 == y.f2))) && decsEq l r
 | _, _ => false
def tagsEq : List S37 → List S37 → Bool
 | [], [] => true
 | x :: l, y :: r => ((x.f0.toList == y.f0.toList) && (x.f1.toList == y.f1.toList)) && tagsEq l r
 | _, _ => false
def metEq (a b : MetS) : Bool := (a.f0.toList == b.f0.toList) && ((a.f1 == b.f1) && ((a.f3 == b.f3) && ((a.f5 == b.f5) && (decsEq a.f2 b.f2 && tagsEq a.f4 b.f4))))
def metsEq : List MetS → List MetS → Bool
 | [], [] => true
 | x :: l, y :: r => metEq x y && metsEq l r
 | _, _ => false
theorem decsEq_iff : ∀ a b : List S40, decsEq a b = true ↔ a = b
 | [], [] => by simp [decsEq]
 | [], _ :: _ => by simp [decsEq]
 | _ :: _, [] => by simp [decsEq]
 | x :: l, y :: r => by
  have ih := decsEq_iff l r
  cases x; cases y
  simp only [decsEq, Bool.and_eq_true, beq_iff_eq, ih, List.cons.injEq]
  constructor
  ·rintro ⟨⟨h1, h2, h3⟩, h4⟩; subst h1 h2 h3 h4; exact ⟨rfl, rfl⟩
  ·rintro ⟨h1, h2⟩; injection h1 with h1 h3 h4; exact ⟨⟨h1, h3, h4⟩, h2⟩
theorem tagsEq_iff : ∀ a b : List S37, tagsEq a b = true ↔ a = b
 | [], [] => by simp [tagsEq]
 | [], _ :: _ => by simp [tagsEq]
 | _ :: _, [] => by simp [tagsEq]
 | x :: l, y :: r => by
  have ih := tagsEq_iff l r
  cases x; cases y
  simp only [tagsEq, Bool.and_eq_true, beq_iff_eq, ih, List.cons.injEq]
  constructor
  ·rintro ⟨⟨h1, h2⟩, h4⟩; have h1 := ba_inj h1; have h2 := ba_inj h2; subst h1 h2 h4; exact ⟨rfl, rfl⟩
  ·rintro ⟨h1, h2⟩; injection h1 with h1 h3; exact ⟨⟨by rw [h1], by rw [h3]⟩, h2⟩
theorem metEq_iff (a b : MetS) : metEq a b = true ↔ a = b := by
 cases a; cases b
 simp only [metEq, Bool.and_eq_true, beq_iff_eq, decsEq_iff, tagsEq_iff]
 constructor
 ·rintro ⟨h1, h2, h3, h4, h5, h6⟩; have h1 := ba_inj h1; subst h1 h2 h3 h4 h5 h6; rfl
 ·intro h; injection h with h1 h2 h3 h4 h5 h6; exact ⟨by rw [h1], h2, h4, h6, h3, h5⟩
end Go.Proofs.Yteamldgngknmfaa
/- Contracts of package batch's Check, Normal and Equal in the printed form; no condition. -/
namespace Go.Proofs.Yteamldgngknmfaa.PE
open Go.RowKit Go.Proofs.YteamldgngknmfaaW.PrintWords Go.Proofs.YteamldgngknmfaaW.PrintLast Go.Proofs.YteamldgngknmfaaW.PrintMore Go.Proofs.Yteamldgngknmfaa
set_option linter.unusedVariables false
set_option linter.unusedSimpArgs false
def batch_Check.f (l0 : List S25) : Option (Int × Int) := if l0.all metIn = true then some (batBad l0) else none
def batIn (l : List S25) : Bool := l.all fun m => metIn m && (decide (m.f2.length < 1000000) && decide (m.f4.length < 1000000))
def batch_Normal.f (l0 : List S25) : Option (List S25 × Int × Int) := if batIn l0 = true then some (batNorm l0) else none
def batch_Equal.f (l0 : List S25) (l1 : List S25) : Option Bool := if batIn l0 = true ∧ batIn l1 = true then some (metsEq l0 l1) else none
end Go.Proofs.Yteamldgngknmfaa.PE
/- Package batch: Names; no condition. -/
namespace Go.Proofs.Yteamldgngknmfaa
open Go.RowKit Go.Maps Go.Proofs.YteamldgngknmfaaW.PrintWords Go.Proofs.YteamldgngknmfaaW.PrintLast Go.Proofs.YteamldgngknmfaaW.PrintMore Go.Proofs.Yteamldgngknmfaa.PE
set_option linter.unusedVariables false
set_option linter.unusedSimpArgs false
def nmHas (l : List ByteArray) (s : ByteArray) : Bool := l.any fun x => decide (x = s)
def nmGo : List MetS → List ByteArray → List ByteArray
 | [], out => out
 | m :: l, out => if nmHas out m.f0 = true then nmGo l out else nmGo l (out ++ [m.f0])
def namesOf (l : List MetS) : List ByteArray := nmGo l []
section
set_option maxRecDepth 100000
variable {ops : Array Oper} {rest : List Oper} {o : Oper} {a : Act} {Q : Exit → Act → World → Prop} {W : World} {gm : Nat} {ws : List ByteArray} {s : ByteArray}
end
end Go.Proofs.Yteamldgngknmfaa
/- The contract of package batch's Names in the printed form; no condition. -/
namespace Go.Proofs.Yteamldgngknmfaa.PE
open Go.RowKit Go.Proofs.YteamldgngknmfaaW.PrintWords Go.Proofs.YteamldgngknmfaaW.PrintLast Go.Proofs.YteamldgngknmfaaW.PrintMore Go.Proofs.Yteamldgngknmfaa
set_option linter.unusedVariables false
set_option linter.unusedSimpArgs false
def namIn (l : List S25) : Bool := l.all metIn && decide (l.length < 1000000)
def batch_Names.f (l0 : List S25) : Option (List ByteArray) := if namIn l0 = true then some (namesOf l0) else none
end Go.Proofs.Yteamldgngknmfaa.PE
