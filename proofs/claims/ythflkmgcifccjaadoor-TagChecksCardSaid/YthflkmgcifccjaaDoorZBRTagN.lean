/- The document's order of tags and its one form of tags are package tag's; plain; no condition. -/
import Derived.Test.YthflkmgcifccjaaDoorZBTagE
import Derived.Test.YthflkmgcifccjaaDoorZBTagPl
import Derived.Test.YthflkmgcifccjaaDoorZBPEx4
import Derived.Test.YthflkmgcifccjaaDoorZBPEx5
namespace Go.Proofs.YthflkmgcifccjaaDoor.PE
open Go.RowKit Go.Proofs.YthflkmgcifccjaaDoorW.PrintWords Go.Proofs.YthflkmgcifccjaaDoorW.PrintLast Go.Proofs.YthflkmgcifccjaaDoorW.PrintMore Go.Proofs.YthflkmgcifccjaaDoor
set_option linter.unusedVariables false
set_option linter.unusedSimpArgs false
theorem bt_list (a : ByteArray) (i : Nat) (h : i < a.toList.length) : bt a (i : Int) = ((a.toList[i]'h).toNat : Int) := by
  obtain ⟨⟨l⟩⟩ := a
  have e : (ByteArray.mk ⟨l⟩).toList = l := by rw [ByteArray.toList_eq]
  have h2 : i < l.length := by rw [e] at h; exact h
  have hx : (ByteArray.mk ⟨l⟩).toList[i]'h = l[i]'h2 := by
    apply Option.some.inj
    rw [← List.getElem?_eq_getElem, ← List.getElem?_eq_getElem, e]
  rw [hx]
  unfold bt
  rw [dif_pos (show ((i : Int)).toNat < (ByteArray.mk ⟨l⟩).size by rw [Int.toNat_natCast]; exact h2)]
  rfl
theorem ba_len (a : ByteArray) : a.toList.length = a.size := by rw [ByteArray.toList_eq]; exact Array.length_toList
theorem ahead_l0 (a b : ByteArray) (ha : a.size ≤ 9223372036854775807) : ∀ (d i : Nat), i + d = a.size → i ≤ b.size → Ev (fun k => forebayref06_Ahead.l0 k a b (i : Int)) (Op.bytesLess (a.toList.drop i) (b.toList.drop i)) := by
  have la := ba_len a
  have lb := ba_len b
  intro d
  induction d with
  | zero =>
    intro i hi hb
    refine Ev.step (f := fun k => forebayref06_Ahead.j1 k a b (i : Int) false) (fun k => ?_) (Ev.step (f := fun _ => some (decide ((a.size : Int) < (b.size : Int)))) (fun k => ?_) ?_)
    · simp only [forebayref06_Ahead.l0]
      rw [if_neg (by omega)]
    · simp only [forebayref06_Ahead.j1]
      rw [if_neg (by decide)]
    · have e : Op.bytesLess (a.toList.drop i) (b.toList.drop i) = decide ((a.size : Int) < (b.size : Int)) := by
        rw [List.drop_eq_nil_of_le (show a.toList.length ≤ i by omega)]
        by_cases h : i < b.size
        · rw [List.drop_eq_getElem_cons (show i < b.toList.length by omega), decide_eq_true (by omega)]
          rfl
        · rw [List.drop_eq_nil_of_le (show b.toList.length ≤ i by omega), decide_eq_false (by omega)]
          rfl
      rw [e]
      exact Ev.now _
  | succ d ih =>
    intro i hi hb
    rw [List.drop_eq_getElem_cons (show i < a.toList.length by omega)]
    by_cases h : i < b.size
    · rw [List.drop_eq_getElem_cons (show i < b.toList.length by omega)]
      have ea := bt_list a i (by omega)
      have eb := bt_list b i (by omega)
      have hj : ∀ r, Ev (fun k => if (bt a (i : Int)) = (bt b (i : Int)) then (forebayref06_Ahead.l0 k a b ((i + 1 : Nat) : Int)) else (some (decide ((bt a (i : Int)) < (bt b (i : Int)))))) r → Ev (fun k => forebayref06_Ahead.l0 k a b (i : Int)) r := by
        intro r hr
        refine Ev.step (f := fun k => forebayref06_Ahead.j1 k a b (i : Int) true) (fun k => ?_) (Ev.step (fun k => ?_) hr)
        · simp only [forebayref06_Ahead.l0]
          rw [if_pos (by omega), decide_eq_true (by omega)]
        · simp only [forebayref06_Ahead.j1]
          rw [if_pos trivial, if_pos (by omega), if_pos (by omega), if_pos (by omega), w1 i (by omega)]
      refine hj _ ?_
      by_cases hq : a.toList[i]'(by omega) = b.toList[i]'(by omega)
      · have e : Op.bytesLess (a.toList[i]'(by omega) :: a.toList.drop (i + 1)) (b.toList[i]'(by omega) :: b.toList.drop (i + 1)) = Op.bytesLess (a.toList.drop (i + 1)) (b.toList.drop (i + 1)) := by
          rw [hq]
          simp [Op.bytesLess]
        rw [e]
        exact Ev.congr (fun k => if_pos (by rw [ea, eb, hq])) (ih (i + 1) (by omega) (by omega))
      · have hn : ¬ (a.toList[i]'(by omega)).toNat = (b.toList[i]'(by omega)).toNat := fun h => hq (UInt8.toNat_inj.1 h)
        have e : Op.bytesLess (a.toList[i]'(by omega) :: a.toList.drop (i + 1)) (b.toList[i]'(by omega) :: b.toList.drop (i + 1)) = decide ((bt a (i : Int)) < (bt b (i : Int))) := by
          rw [ea, eb]
          simp [Op.bytesLess, hq, UInt8.lt_iff_toNat_lt]
        rw [e]
        exact Ev.congr (fun k => if_neg (by omega)) (Ev.now _)
    · rw [List.drop_eq_nil_of_le (show b.toList.length ≤ i by omega)]
      refine Ev.step (f := fun k => forebayref06_Ahead.j1 k a b (i : Int) false) (fun k => ?_) (Ev.step (f := fun _ => some false) (fun k => ?_) (Ev.now _))
      · simp only [forebayref06_Ahead.l0]
        rw [if_pos (by omega), decide_eq_false (by omega)]
      · simp only [forebayref06_Ahead.j1]
        rw [if_neg (by decide), decide_eq_false (by omega)]
theorem ahead_ev (a b : ByteArray) (ha : a.size ≤ 9223372036854775807) : Ev (fun k => forebayref06_Ahead.f k a b) (sLt a b) := by
  have h := ahead_l0 a b ha a.size 0 (by omega) (by omega)
  exact h
theorem tagIn_sizes {t : S34} (h : tagIn t = true) : t.f0.size ≤ 9223372036854775807 ∧ t.f1.size ≤ 9223372036854775807 := by
  unfold tagIn at h
  simpa using h
theorem less_ev (x y : S34) (h : tagIn x = true) : Ev (fun k => forebayref06_Less.f k x.f0 x.f1 y.f0 y.f1) (tLt x y) := by
  have hs := tagIn_sizes h
  unfold forebayref06_Less.f
  refine Ev.bind (ahead_ev x.f0 y.f0 hs.1) ?_
  unfold tLt
  by_cases h1 : x.f0.toList = y.f0.toList
  · have h2 : sEq x.f0 y.f0 = true := beq_iff_eq.mpr h1
    have h3 : sLt x.f0 y.f0 = false := by rw [ba_inj h1]; exact sLt_irr _
    rw [if_pos h2, h3]
    exact Ev.congr (fun k => by rw [if_neg (by decide), if_pos h1]) (Ev.bind (ahead_ev x.f1 y.f1 hs.2) (Ev.now _))
  · have h2 : sEq x.f0 y.f0 = false := beq_eq_false_iff_ne.mpr h1
    rw [h2, if_neg (by decide)]
    cases sLt x.f0 y.f0 with
    | true => exact Ev.congr (fun k => if_pos rfl) (Ev.now _)
    | false => exact Ev.congr (fun k => by rw [if_neg (by decide), if_neg h1]) (Ev.now _)
def tIns (t : S34) : List S34 → List S34
  | [] => [t]
  | x :: l => if tLt x t = true then x :: tIns t l else if tEq x t = true then x :: l else t :: x :: l
def tPut (l out : List S34) : List S34 := l.foldl (fun o t => tIns t o) out
theorem tagless_f (x y : S34) : tag_Less.f x.f0 x.f1 y.f0 y.f1 = some (tLt x y) := by
  unfold tag_Less.f tLt
  by_cases h1 : x.f0.toList = y.f0.toList
  · rw [if_pos h1, if_pos (show sEq x.f0 y.f0 = true from beq_iff_eq.mpr h1)]
    rfl
  · rw [if_neg h1, if_neg (show ¬ sEq x.f0 y.f0 = true from fun h => h1 (beq_iff_eq.mp h))]
    rfl
end Go.Proofs.YthflkmgcifccjaaDoor.PE
