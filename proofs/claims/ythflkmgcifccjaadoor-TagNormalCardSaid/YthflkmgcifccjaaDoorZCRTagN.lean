/- The document's order of tags and its one form of tags are package tag's; plain; no condition. -/
import Derived.Test.YthflkmgcifccjaaDoorZCTagE
import Derived.Test.YthflkmgcifccjaaDoorZCTagPl
import Derived.Test.YthflkmgcifccjaaDoorZCPEx4
import Derived.Test.YthflkmgcifccjaaDoorZCPEx5
namespace Go.Proofs.YthflkmgcifccjaaDoor.PE
open Go.RowKit Go.Proofs.YthflkmgcifccjaaDoorW.PrintWords Go.Proofs.YthflkmgcifccjaaDoorW.PrintLast Go.Proofs.YthflkmgcifccjaaDoorW.PrintMore Go.Proofs.YthflkmgcifccjaaDoor
set_option linter.unusedVariables false
set_option linter.unusedSimpArgs false
theorem bt_list (a : ByteArray) (i : Nat) (h : i < a.toList.length) : bt a (i : Int) = ((a.toList[i]'h).toNat : Int) := by
  obtain ⟨⟨l⟩⟩ := a
  have e : (ByteArray.mk ⟨l⟩).toList = l := by rw [ByteArray.toList_eq]
  have h2 : i < l.length := by rw [e] at h; exact h
  have hx : (ByteArray.mk ⟨l⟩).toList[i]'h = l[i]'h2 := by
    apply Option.some.inj
    rw [← List.getElem?_eq_getElem, ← List.getElem?_eq_getElem, e]
  rw [hx]
  unfold bt
  rw [dif_pos (show ((i : Int)).toNat < (ByteArray.mk ⟨l⟩).size by rw [Int.toNat_natCast]; exact h2)]
  rfl
theorem ba_len (a : ByteArray) : a.toList.length = a.size := by rw [ByteArray.toList_eq]; exact Array.length_toList
theorem ahead_l0 (a b : ByteArray) (ha : a.size ≤ 9223372036854775807) : ∀ (d i : Nat), i + d = a.size → i ≤ b.size → Ev (fun k => forebayref06_Ahead.l0 k a b (i : Int)) (Op.bytesLess (a.toList.drop i) (b.toList.drop i)) := by
  have la := ba_len a
  have lb := ba_len b
  intro d
  induction d with
  | zero =>
    intro i hi hb
    refine Ev.step (f := fun k => forebayref06_Ahead.j1 k a b (i : Int) false) (fun k => ?_) (Ev.step (f := fun _ => some (decide ((a.size : Int) < (b.size : Int)))) (fun k => ?_) ?_)
    · simp only [forebayref06_Ahead.l0]
      rw [if_neg (by omega)]
    · simp only [forebayref06_Ahead.j1]
      rw [if_neg (by decide)]
    · have e : Op.bytesLess (a.toList.drop i) (b.toList.drop i) = decide ((a.size : Int) < (b.size : Int)) := by
        rw [List.drop_eq_nil_of_le (show a.toList.length ≤ i by omega)]
        by_cases h : i < b.size
        · rw [List.drop_eq_getElem_cons (show i < b.toList.length by omega), decide_eq_true (by omega)]
          rfl
        · rw [List.drop_eq_nil_of_le (show b.toList.length ≤ i by omega), decide_eq_false (by omega)]
          rfl
      rw [e]
      exact Ev.now _
  | succ d ih =>
    intro i hi hb
    rw [List.drop_eq_getElem_cons (show i < a.toList.length by omega)]
    by_cases h : i < b.size
    · rw [List.drop_eq_getElem_cons (show i < b.toList.length by omega)]
      have ea := bt_list a i (by omega)
      have eb := bt_list b i (by omega)
      have hj : ∀ r, Ev (fun k => if (bt a (i : Int)) = (bt b (i : Int)) then (forebayref06_Ahead.l0 k a b ((i + 1 : Nat) : Int)) else (some (decide ((bt a (i : Int)) < (bt b (i : Int)))))) r → Ev (fun k => forebayref06_Ahead.l0 k a b (i : Int)) r := by
        intro r hr
        refine Ev.step (f := fun k => forebayref06_Ahead.j1 k a b (i : Int) true) (fun k => ?_) (Ev.step (fun k => ?_) hr)
        · simp only [forebayref06_Ahead.l0]
          rw [if_pos (by omega), decide_eq_true (by omega)]
        · simp only [forebayref06_Ahead.j1]
          rw [if_pos trivial, if_pos (by omega), if_pos (by omega), if_pos (by omega), w1 i (by omega)]
      refine hj _ ?_
      by_cases hq : a.toList[i]'(by omega) = b.toList[i]'(by omega)
      · have e : Op.bytesLess (a.toList[i]'(by omega) :: a.toList.drop (i + 1)) (b.toList[i]'(by omega) :: b.toList.drop (i + 1)) = Op.bytesLess (a.toList.drop (i + 1)) (b.toList.drop (i + 1)) := by
          rw [hq]
          simp [Op.bytesLess]
        rw [e]
        exact Ev.congr (fun k => if_pos (by rw [ea, eb, hq])) (ih (i + 1) (by omega) (by omega))
      · have hn : ¬ (a.toList[i]'(by omega)).toNat = (b.toList[i]'(by omega)).toNat := fun h => hq (UInt8.toNat_inj.1 h)
        have e : Op.bytesLess (a.toList[i]'(by omega) :: a.toList.drop (i + 1)) (b.toList[i]'(by omega) :: b.toList.drop (i + 1)) = decide ((bt a (i : Int)) < (bt b (i : Int))) := by
          rw [ea, eb]
          simp [Op.bytesLess, hq, UInt8.lt_iff_toNat_lt]
        rw [e]
        exact Ev.congr (fun k => if_neg (by omega)) (Ev.now _)
    · rw [List.drop_eq_nil_of_le (show b.toList.length ≤ i by omega)]
      refine Ev.step (f := fun k => forebayref06_Ahead.j1 k a b (i : Int) false) (fun k => ?_) (Ev.step (f := fun _ => some false) (fun k => ?_) (Ev.now _))
      · simp only [forebayref06_Ahead.l0]
        rw [if_pos (by omega), decide_eq_false (by omega)]
      · simp only [forebayref06_Ahead.j1]
        rw [if_neg (by decide), decide_eq_false (by omega)]
theorem ahead_ev (a b : ByteArray) (ha : a.size ≤ 9223372036854775807) : Ev (fun k => forebayref06_Ahead.f k a b) (sLt a b) := by
  have h := ahead_l0 a b ha a.size 0 (by omega) (by omega)
  exact h
theorem tagIn_sizes {t : S34} (h : tagIn t = true) : t.f0.size ≤ 9223372036854775807 ∧ t.f1.size ≤ 9223372036854775807 := by
  unfold tagIn at h
  simpa using h
theorem less_ev (x y : S34) (h : tagIn x = true) : Ev (fun k => forebayref06_Less.f k x.f0 x.f1 y.f0 y.f1) (tLt x y) := by
  have hs := tagIn_sizes h
  unfold forebayref06_Less.f
  refine Ev.bind (ahead_ev x.f0 y.f0 hs.1) ?_
  unfold tLt
  by_cases h1 : x.f0.toList = y.f0.toList
  · have h2 : sEq x.f0 y.f0 = true := beq_iff_eq.mpr h1
    have h3 : sLt x.f0 y.f0 = false := by rw [ba_inj h1]; exact sLt_irr _
    rw [if_pos h2, h3]
    exact Ev.congr (fun k => by rw [if_neg (by decide), if_pos h1]) (Ev.bind (ahead_ev x.f1 y.f1 hs.2) (Ev.now _))
  · have h2 : sEq x.f0 y.f0 = false := beq_eq_false_iff_ne.mpr h1
    rw [h2, if_neg (by decide)]
    cases sLt x.f0 y.f0 with
    | true => exact Ev.congr (fun k => if_pos rfl) (Ev.now _)
    | false => exact Ev.congr (fun k => by rw [if_neg (by decide), if_neg h1]) (Ev.now _)
def tIns (t : S34) : List S34 → List S34
  | [] => [t]
  | x :: l => if tLt x t = true then x :: tIns t l else if tEq x t = true then x :: l else t :: x :: l
theorem tIns_mem (t y : S34) : ∀ l, y ∈ tIns t l ↔ y = t ∨ y ∈ l
  | [] => by simp [tIns]
  | x :: l => by
    have ih := tIns_mem t y l
    unfold tIns
    split
    · rw [List.mem_cons, ih, List.mem_cons]
      constructor <;> (intro h; rcases h with h | h | h <;> simp [h])
    · split
      · rename_i h
        obtain rfl := tEq_iff.1 h
        simp
      · simp
theorem tIns_len (t : S34) : ∀ l, (tIns t l).length ≤ l.length + 1
  | [] => by simp [tIns]
  | x :: l => by
    have ih := tIns_len t l
    unfold tIns
    split
    · simp only [List.length_cons]; omega
    · split <;> simp
theorem tIns_up (t : S34) : ∀ l, TUp l → TUp (tIns t l)
  | [], _ => by simp [tIns, TUp]
  | x :: l, h => by
    have h1 := List.pairwise_cons.1 h
    unfold tIns
    split
    · rename_i hx
      refine List.pairwise_cons.2 ⟨fun y hy => ?_, tIns_up t l h1.2⟩
      rcases (tIns_mem t y l).1 hy with rfl | hy
      · exact hx
      · exact h1.1 y hy
    · rename_i hx
      split
      · exact h
      · rename_i hne
        have hlt : tLt t x = true := by
          cases hh : tLt t x with
          | true => rfl
          | false => exact absurd (tEq_iff.2 (tLt_tri (by simpa using hx) hh)) hne
        refine List.pairwise_cons.2 ⟨fun y hy => ?_, h⟩
        rcases List.mem_cons.1 hy with rfl | hy
        · exact hlt
        · exact tLt_trans hlt (h1.1 y hy)
def tPut (l out : List S34) : List S34 := l.foldl (fun o t => tIns t o) out
theorem tPut_spec : ∀ (l out : List S34), TUp out → TUp (tPut l out) ∧ ∀ y, y ∈ tPut l out ↔ y ∈ out ∨ y ∈ l
  | [], out, h => ⟨h, fun y => by simp [tPut]⟩
  | t :: l, out, h => by
    have ih := tPut_spec l (tIns t out) (tIns_up t out h)
    refine ⟨ih.1, fun y => ?_⟩
    rw [show tPut (t :: l) out = tPut l (tIns t out) from rfl, ih.2 y, tIns_mem, List.mem_cons]
    constructor
    · rintro ((h | h) | h) <;> simp [h]
    · rintro (h | h | h) <;> simp [h]
theorem tPut_norm (l : List S34) : tPut l [] = tNorm l := TUp.ext (tPut_spec l [] List.Pairwise.nil).1 (tNorm_up l) fun y => by
  rw [(tPut_spec l [] List.Pairwise.nil).2 y, tNorm_mem]
  simp
theorem rtn_l1t (L out : List S34) (i : Nat) (hL : L.length ≤ 1000000) (hi : i < L.length) {r : List S34} : ∀ (d j : Nat) (more : List S34), j + d = out.length → out.length ≤ 1000000 → more.length + d ≤ 4000000 →
    Ev (fun k => forebayref06_Normal.l0 k L (more ++ out.drop j) ((i + 1 : Nat) : Int)) r → Ev (fun k => forebayref06_Normal.l1 k L out (i : Int) more true (j : Int)) r := by
  intro d
  induction d with
  | zero =>
    intro j more hj ho hm hr
    rw [List.drop_eq_nil_of_le (by omega), List.append_nil] at hr
    refine Ev.step (fun k => ?_) hr
    simp only [forebayref06_Normal.l1]
    rw [if_neg (by omega), if_pos trivial, w1 i (by omega)]
  | succ d ih =>
    intro j more hj ho hm hr
    have hlt : j < out.length := by omega
    rw [List.drop_eq_getElem_cons hlt, show more ++ out[j] :: out.drop (j + 1) = (more ++ [out[j]]) ++ out.drop (j + 1) by simp] at hr
    have h1 := ih (j + 1) (more ++ [out[j]]) (by omega) ho (by simp; omega) hr
    refine Ev.step (f := fun k => forebayref06_Normal.j2 k L out (i : Int) more true (j : Int) false) (fun k => ?_) (Ev.step (fun k => ?_) h1)
    · simp only [forebayref06_Normal.l1]
      rw [if_pos (by omega), if_pos trivial]
    · simp only [forebayref06_Normal.j2]
      rw [if_neg (by decide), if_pos (by omega), if_pos (by omega), if_pos (by omega), w1 j (by omega), rd_tag out j hlt]
theorem rtn_l1f (L out : List S34) (i : Nat) (hL : L.length ≤ 1000000) (hi : i < L.length) (hin : ∀ x ∈ out, tagIn x = true) {r : List S34} : ∀ (d j : Nat) (more : List S34), j + d = out.length → out.length ≤ 1000000 → more.length + d ≤ 3000000 →
    Ev (fun k => forebayref06_Normal.l0 k L (more ++ tIns (L[i]'hi) (out.drop j)) ((i + 1 : Nat) : Int)) r → Ev (fun k => forebayref06_Normal.l1 k L out (i : Int) more false (j : Int)) r := by
  intro d
  induction d with
  | zero =>
    intro j more hj ho hm hr
    rw [List.drop_eq_nil_of_le (by omega)] at hr
    refine Ev.step (fun k => ?_) hr
    simp only [forebayref06_Normal.l1]
    rw [if_neg (by omega), if_neg (by decide), if_pos (by omega), if_pos (by omega), if_pos (by omega), w1 i (by omega), rd_tag L i hi]
    rfl
  | succ d ih =>
    intro j more hj ho hm hr
    have hlt : j < out.length := by omega
    rw [List.drop_eq_getElem_cons hlt] at hr
    have hle := less_ev (out[j]'hlt) (L[i]'hi) (hin _ (List.getElem_mem _))
    refine Ev.step (f := fun k => (forebayref06_Less.f k (out[j]'hlt).f0 (out[j]'hlt).f1 (L[i]'hi).f0 (L[i]'hi).f1).bind fun t => forebayref06_Normal.j2 k L out (i : Int) more false (j : Int) (!t)) (fun k => ?_) (Ev.bind hle ?_)
    · simp only [forebayref06_Normal.l1]
      rw [if_pos (by omega), if_neg (by decide), if_pos (by omega), if_pos (by omega), if_pos (by omega), rd_tag out j hlt, rd_tag L i hi]
    · unfold tIns at hr
      cases ht : tLt (out[j]'hlt) (L[i]'hi) with
      | true =>
        rw [if_pos ht, show more ++ out[j] :: tIns (L[i]'hi) (out.drop (j + 1)) = (more ++ [out[j]]) ++ tIns (L[i]'hi) (out.drop (j + 1)) by simp] at hr
        have h1 := ih (j + 1) (more ++ [out[j]]) (by omega) ho (by simp; omega) hr
        refine Ev.step (fun k => ?_) h1
        show forebayref06_Normal.j2 (k + 1) L out (i : Int) more false (j : Int) false = _
        simp only [forebayref06_Normal.j2]
        rw [if_neg (by decide), if_pos (by omega), if_pos (by omega), if_pos (by omega), w1 j (by omega), rd_tag out j hlt]
      | false =>
        rw [if_neg (by rw [ht]; decide)] at hr
        by_cases he : out[j]'hlt = L[i]'hi
        · rw [if_pos (tEq_iff.2 he), show more ++ out[j] :: out.drop (j + 1) = (more ++ [out[j]]) ++ out.drop (j + 1) by simp] at hr
          have h1 := rtn_l1t L out i hL hi d (j + 1) (more ++ [out[j]]) (by omega) ho (by simp; omega) hr
          refine Ev.step (fun k => ?_) h1
          show forebayref06_Normal.j2 (k + 1) L out (i : Int) more false (j : Int) true = _
          simp only [forebayref06_Normal.j2]
          rw [if_pos trivial, if_pos (by omega), if_pos (by omega), if_pos (by omega), if_pos (by omega), rd_tag out j hlt, rd_tag L i hi, if_neg (fun h => (tagEq_iff _ _).1 h he), if_pos (by omega), w1 j (by omega)]
        · rw [if_neg (fun h => he (tEq_iff.1 h)), show more ++ (L[i]'hi) :: out[j] :: out.drop (j + 1) = ((more ++ [L[i]'hi]) ++ [out[j]]) ++ out.drop (j + 1) by simp] at hr
          have h1 := rtn_l1t L out i hL hi d (j + 1) ((more ++ [L[i]'hi]) ++ [out[j]]) (by omega) ho (by simp; omega) hr
          refine Ev.step (fun k => ?_) h1
          show forebayref06_Normal.j2 (k + 1) L out (i : Int) more false (j : Int) true = _
          simp only [forebayref06_Normal.j2]
          rw [if_pos trivial, if_pos (by omega), if_pos (by omega), if_pos (by omega), if_pos (by omega), rd_tag out j hlt, rd_tag L i hi, if_pos ((tagEq_iff _ _).2 he), if_pos (by omega), Option.bind_some, if_pos (by simp; omega), w1 j (by omega)]
theorem rtn_l0 (L : List S34) (hL : L.length ≤ 1000000) (hin : ∀ x ∈ L, tagIn x = true) : ∀ (d i : Nat) (out : List S34), i + d = L.length → out.length ≤ i → (∀ x ∈ out, tagIn x = true) → Ev (fun k => forebayref06_Normal.l0 k L out (i : Int)) (tPut (L.drop i) out) := by
  intro d
  induction d with
  | zero =>
    intro i out hi ho hm
    rw [List.drop_eq_nil_of_le (by omega)]
    refine Ev.step (f := fun _ => some out) (fun k => ?_) (Ev.now _)
    simp only [forebayref06_Normal.l0]
    rw [if_neg (by omega)]
  | succ d ih =>
    intro i out hi ho hm
    have hlt : i < L.length := by omega
    have hlen := tIns_len (L[i]'hlt) out
    have h1 := ih (i + 1) (tIns (L[i]'hlt) out) (by omega) (by omega) (fun x hx => by
      rcases (tIns_mem _ _ _).1 hx with rfl | hx
      · exact hin _ (List.getElem_mem _)
      · exact hm x hx)
    rw [List.drop_eq_getElem_cons hlt]
    show Ev _ (tPut (L.drop (i + 1)) (tIns (L[i]'hlt) out))
    refine Ev.step (f := fun k => forebayref06_Normal.l1 k L out (i : Int) [] false 0) (fun k => ?_) (rtn_l1f L out i hL hlt hm out.length 0 [] (by omega) (by omega) (by simp; omega) ?_)
    · simp only [forebayref06_Normal.l0]
      rw [if_pos (by omega)]
    · rw [List.drop_zero, List.nil_append]
      exact h1
theorem reftagn_ev (L : List S34) (hL : L.length ≤ 1000000) (hin : ∀ x ∈ L, tagIn x = true) : Ev (fun k => forebayref06_Normal.f k L) (tNorm L) := by
  have h := rtn_l0 L hL hin L.length 0 [] (by omega) (by simp) (by simp)
  rw [List.drop_zero, tPut_norm] at h
  exact h
theorem tagless_f (x y : S34) : tag_Less.f x.f0 x.f1 y.f0 y.f1 = some (tLt x y) := by
  unfold tag_Less.f tLt
  by_cases h1 : x.f0.toList = y.f0.toList
  · rw [if_pos h1, if_pos (show sEq x.f0 y.f0 = true from beq_iff_eq.mpr h1)]
    rfl
  · rw [if_neg h1, if_neg (show ¬ sEq x.f0 y.f0 = true from fun h => h1 (beq_iff_eq.mp h))]
    rfl
theorem tagis_l0 (L : List S34) (hL : L.length ≤ 140737488355328) : ∀ (d i : Nat), i + d = L.length → 1 ≤ i → Ev (fun k => tag_Is.l0 k L (i : Int)) (tIs (L.drop (i - 1))) := by
  intro d
  induction d with
  | zero =>
    intro i hi h1
    have e : tIs (L.drop (i - 1)) = true := by
      rw [List.drop_eq_getElem_cons (show i - 1 < L.length by omega), List.drop_eq_nil_of_le (by omega)]
      rfl
    rw [e]
    refine Ev.step (f := fun _ => some true) (fun k => ?_) (Ev.now _)
    simp only [tag_Is.l0]
    rw [if_neg (by omega)]
  | succ d ih =>
    intro i hi h1
    have ih := ih (i + 1) (by omega) (by omega)
    rw [show i + 1 - 1 = i by omega, List.drop_eq_getElem_cons (show i < L.length by omega)] at ih
    rw [List.drop_eq_getElem_cons (show i - 1 < L.length by omega), show i - 1 + 1 = i by omega, List.drop_eq_getElem_cons (show i < L.length by omega)]
    have hw : wrap64 ((i : Int) - 1) = ((i - 1 : Nat) : Int) := by rw [IntWalk.wrap64_in _ (by omega)]; omega
    show Ev _ (tLt (L[i - 1]'(by omega)) (L[i]'(by omega)) && tIs (L[i]'(by omega) :: L.drop (i + 1)))
    have hstep : ∀ k, tag_Is.l0 (k + 1) L (i : Int) = if tLt (L[i - 1]'(by omega)) (L[i]'(by omega)) = true then tag_Is.l0 k L ((i + 1 : Nat) : Int) else some false := by
      intro k
      simp only [tag_Is.l0]
      rw [if_pos (by omega), hw, if_pos (by omega), if_pos (by omega), if_pos (by omega), rd_tag L (i - 1) (by omega), rd_tag L i (by omega), tagless_f, Option.bind_some, w1 i (by omega)]
    cases h : tLt (L[i - 1]'(by omega)) (L[i]'(by omega)) with
    | true => exact Ev.step (fun k => by rw [hstep k, if_pos h]) ih
    | false => exact Ev.step (f := fun _ => some false) (fun k => by rw [hstep k, if_neg (by rw [h]; decide)]) (Ev.now _)
theorem tagis_ev (L : List S34) (hL : L.length ≤ 140737488355328) : Ev (fun k => tag_Is.f k L) (tIs L) := by
  cases L with
  | nil =>
    refine Ev.step (f := fun _ => some true) (fun k => ?_) (Ev.now _)
    show tag_Is.l0 (k + 1) [] 1 = _
    simp only [tag_Is.l0]
    rw [if_neg (by simp)]
  | cons x l =>
    have h := tagis_l0 (x :: l) hL l.length 1 (by simp; omega) (by omega)
    exact h
end Go.Proofs.YthflkmgcifccjaaDoor.PE
