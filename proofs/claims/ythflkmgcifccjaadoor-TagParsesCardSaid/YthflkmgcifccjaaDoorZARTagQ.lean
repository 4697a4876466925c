/- The document's Parse tells what package tag's Parse tells; plain; for texts of up to 1000000 bytes. -/
import Derived.Test.YthflkmgcifccjaaDoorZARTagP
import Derived.Test.YthflkmgcifccjaaDoorZAPEx3
import Derived.Test.YthflkmgcifccjaaDoorZAPEx4
namespace Go.Proofs.YthflkmgcifccjaaDoor.PE
open Go.RowKit Go.Proofs.YthflkmgcifccjaaDoorW.PrintWords Go.Proofs.YthflkmgcifccjaaDoorW.PrintLast Go.Proofs.YthflkmgcifccjaaDoorW.PrintMore Go.Proofs.YthflkmgcifccjaaDoor
set_option linter.unusedVariables false
set_option linter.unusedSimpArgs false
theorem refright_f (k v : ByteArray) (hk : k.size ≤ 9223372036854775807) (hv : v.size ≤ 9223372036854775807) : forebayref06_Right.f k v = some (decide (tagBad k v = 0)) := by
  have h1 : forebayref04_Text.f 2 k 1 64 = some (textW 2 k 1 64) := by unfold forebayref04_Text.f; rw [if_pos ⟨by decide, by omega, hk⟩]
  have h2 : forebayref04_Text.f 3 v 0 100 = some (textW 3 v 0 100) := by unfold forebayref04_Text.f; rw [if_pos ⟨by decide, by omega, hv⟩]
  unfold forebayref06_Right.f
  rw [h1, h2]
  simp only [Option.bind_some]
  unfold tagBad
  have e1 : ((textW 2 k 1 64).1 == 0 && ((textW 2 k 1 64).2 == 0)) = txOk 2 k 1 64 := rfl
  have e2 : ((textW 3 v 0 100).1 == 0 && ((textW 3 v 0 100).2 == 0)) = txOk 3 v 0 100 := rfl
  rw [e1, e2]
  generalize txOk 2 k 1 64 = x
  generalize txOk 3 v 0 100 = y
  cases x <;> cases y <;> rfl
def oneL (k v : List UInt8) : List UInt8 := if v = [] then k else k ++ 58 :: v
theorem refone_f (k v : List UInt8) (hk : k.length ≤ 1000000) (hv : v.length ≤ 1000000) : forebayref06_One.f (mkB k) (mkB v) = some (mkB (oneL k v)) := by
  unfold forebayref06_One.f oneL
  rw [mkB_list']
  by_cases h : v = []
  · rw [if_pos h, if_pos h]
  · rw [if_neg h, if_neg h, if_pos (by rw [mkB_size]; omega), if_pos (by rw [ByteArray.size_append, mkB_size, mkB_size]; show k.length + 1 + v.length ≤ _; omega)]
    congr 1
    apply ba_ext2
    simp [mkB]
def colB (l : List UInt8) (n : Nat) (a b : List UInt8) (f : Bool) : Prop :=
  (f = true ∧ ∃ j, n ≤ j ∧ l[j]? = some 58 ∧ (∀ i, n ≤ i → i < j → l[i]? ≠ some 58) ∧ a = l.take j ∧ b = l.drop (j + 1)) ∨ (f = false ∧ (∀ i, n ≤ i → l[i]? ≠ some 58) ∧ a = l ∧ b = [])
theorem colB_cut {l a b : List UInt8} {f : Bool} (h : colB l 0 a b f) : Lib.cut l [58] = (a, b, f) := by
  rcases h with ⟨rfl, j, _, hj, hn, rfl, rfl⟩ | ⟨rfl, hn, rfl, rfl⟩
  · obtain ⟨hlt, hv⟩ := List.getElem?_eq_some_iff.mp hj
    have hl : l = l.take j ++ 58 :: l.drop (j + 1) := by
      have := List.take_append_drop j l
      rw [List.drop_eq_getElem_cons hlt, hv] at this
      exact this.symm
    have hm : (58 : UInt8) ∉ l.take j := fun hm => by
      obtain ⟨i, hi, he⟩ := List.mem_iff_getElem.1 hm
      rw [List.length_take] at hi
      refine hn i (Nat.zero_le _) (by omega) ?_
      rw [List.getElem_take] at he
      rw [List.getElem?_eq_getElem (by omega), he]
    have hi : Lib.index l [58] = (j : Int) := by
      have h1 := idx_app 58 (l.take j) (l.drop (j + 1)) hm
      rw [← hl, List.length_take] at h1
      rw [h1]
      omega
    unfold Lib.cut
    rw [hi, if_pos (by omega)]
    simp
  · have hm : (58 : UInt8) ∉ a := fun hm => by
      obtain ⟨i, hi, he⟩ := List.mem_iff_getElem.1 hm
      exact hn i (Nat.zero_le _) (by rw [List.getElem?_eq_getElem hi, he])
    unfold Lib.cut
    rw [idx_none 58 a hm, if_neg (by omega)]
theorem bt_get (s : ByteArray) (i : Nat) (h : i < s.data.toList.length) : bt s (i : Int) = ((s.data.toList[i]'h).toNat : Int) := by
  obtain ⟨⟨l⟩⟩ := s
  unfold bt
  rw [dif_pos (show ((i : Int)).toNat < (ByteArray.mk ⟨l⟩).size by rw [Int.toNat_natCast]; exact h)]
  rfl
theorem bt_eq (s : ByteArray) (i : Nat) (h : i < s.data.toList.length) (c : UInt8) : bt s (i : Int) = (c.toNat : Int) ↔ s.data.toList[i]? = some c := by
  rw [bt_get s i h, List.getElem?_eq_getElem h]
  constructor
  · intro e
    have e2 : (s.data.toList[i]'h).toNat = c.toNat := by omega
    rw [UInt8.toNat_inj.1 e2]
  · intro e
    rw [Option.some.inj e]
theorem ext_take (s : ByteArray) (d : Nat) : s.extract 0 d = mkB (s.data.toList.take d) := ba_ext2 (by rw [Lib.extract_data, mkB_list]; simp)
theorem ext_drop (s : ByteArray) (d : Nat) : s.extract d s.size = mkB (s.data.toList.drop d) := ba_ext2 (by rw [Lib.extract_to_end, mkB_list])
def rBody (k : Nat) (s : ByteArray) (out : List S34) (f i : Int) (p u0 u1 : ByteArray) : Option (List S34 × Int × Int) :=
  (forebayref06_Right.f u0 u1).bind fun t164 => (if t164 = true then ((forebayref06_One.f u0 u1).bind fun t165 => (if t165.toList = p.toList then (if out.length < 4398046511104 then (forebayref06_Parse.l0 k s (out ++ [(⟨u0, u1⟩ : S34)]) (wrap64 (i + 1)) (wrap64 (i + 1))) else (none)) else (some (([] : List S34), 19, f)))) else (some (([] : List S34), 19, f)))
theorem refp_l1 (s : ByteArray) (out : List S34) (f i : Int) (p : ByteArray) (hp : p.size ≤ 1000000) {r : List S34 × Int × Int}
    (hB : ∀ a b g, colB p.data.toList 0 a b g → Ev (fun k => rBody k s out f i p (mkB a) (mkB b)) r) :
    ∀ (d : Nat) (x9 : Int) (a b : List UInt8) (g : Bool), x9 = (d : Int) - 1 → d ≤ p.size → colB p.data.toList d a b g → Ev (fun k => forebayref06_Parse.l1 k s out f i p x9 (mkB a) (mkB b)) r := by
  intro d
  induction d with
  | zero =>
    intro x9 a b g hx hd hc
    refine Ev.step (fun k => ?_) (hB a b g hc)
    simp only [forebayref06_Parse.l1]
    rw [if_neg (by omega)]
    rfl
  | succ d ih =>
    intro x9 a b g hx hd hc
    obtain rfl : x9 = (d : Int) := by omega
    have hlt : d < p.data.toList.length := by rw [← ba_size]; omega
    have hw1 : wrap64 ((d : Int) + 1) = ((d + 1 : Nat) : Int) := w1 d (by omega)
    have hw2 : wrap64 ((d : Int) - 1) = (d : Int) - 1 := IntWalk.wrap64_in _ (by omega)
    by_cases h58 : p.data.toList[d]? = some 58
    · have hbt : bt p (d : Int) = 58 := (bt_eq p d hlt 58).2 h58
      have hc2 : colB p.data.toList d (p.data.toList.take d) (p.data.toList.drop (d + 1)) true := .inl ⟨rfl, d, Nat.le_refl _, h58, fun i h1 h2 => by omega, rfl, rfl⟩
      refine Ev.step (fun k => ?_) (ih ((d : Int) - 1) _ _ _ rfl (by omega) hc2)
      simp only [forebayref06_Parse.l1]
      rw [if_pos (by omega), if_pos (by omega), if_pos (by omega), if_pos hbt, if_pos (by omega), hw1, if_pos (by omega), if_pos (by omega), hw2, Int.toNat_natCast, Int.toNat_natCast, ext_take, ext_drop]
    · have hbt : ¬ bt p (d : Int) = 58 := fun e => h58 ((bt_eq p d hlt 58).1 e)
      have hc2 : colB p.data.toList d a b g := by
        rcases hc with ⟨h1, j, h2, h3, h4, h5⟩ | ⟨h1, h2, h3⟩
        · refine .inl ⟨h1, j, by omega, h3, fun i hi hij => ?_, h5⟩
          by_cases e : i = d
          · rw [e]; exact h58
          · exact h4 i (by omega) hij
        · refine .inr ⟨h1, fun i hi => ?_, h3⟩
          by_cases e : i = d
          · rw [e]; exact h58
          · exact h2 i (by omega)
      refine Ev.step (fun k => ?_) (ih ((d : Int) - 1) _ _ _ rfl (by omega) hc2)
      simp only [forebayref06_Parse.l1]
      rw [if_pos (by omega), if_pos (by omega), if_pos (by omega), if_neg hbt, hw2]
theorem one_piece {l a b : List UInt8} {g : Bool} (h : colB l 0 a b g) : oneL a b = l ↔ ¬ (g = true ∧ b = []) := by
  unfold oneL
  rcases h with ⟨rfl, j, _, hj, hn, rfl, rfl⟩ | ⟨rfl, hn, rfl, rfl⟩
  · obtain ⟨hlt, hv⟩ := List.getElem?_eq_some_iff.mp hj
    have hl : l = l.take j ++ 58 :: l.drop (j + 1) := by
      have := List.take_append_drop j l
      rw [List.drop_eq_getElem_cons hlt, hv] at this
      exact this.symm
    by_cases hb : l.drop (j + 1) = []
    · rw [if_pos hb]
      simp only [true_and]
      constructor
      · intro e
        have := congrArg List.length e
        rw [List.length_take] at this
        omega
      · intro e
        exact absurd hb e
    · rw [if_neg hb]
      exact ⟨fun _ h => hb h.2, fun _ => hl.symm⟩
  · simp
theorem refp_piece (s : ByteArray) (hs : s.size ≤ 1000000) (out : List S34) (f i : Nat) (hfi : f ≤ i) (hi : i ≤ s.size) (ho : out.length ≤ i) (R : S34 → List S34 × Int × Int) (p : ByteArray) (hp : p = mkB ((s.data.toList.drop f).take (i - f)))
    (hR : ∀ t, tStep p = some t → Ev (fun k => forebayref06_Parse.l0 k s (out ++ [t]) ((i + 1 : Nat) : Int) ((i + 1 : Nat) : Int)) (R t)) :
    Ev (fun k => forebayref06_Parse.j1 k s out (f : Int) (i : Int) false) (match tStep p with | some t => R t | none => ([], 19, (f : Int))) := by
  have hx : s.extract f i = p := by rw [hp]; exact ba_ext2 (by rw [Lib.extract_data, mkB_list])
  have hps : p.size ≤ 1000000 := by rw [hp, mkB_size]; have := ba_size s; simp; omega
  have hw := w1 i (by omega)
  have h1 : Ev (fun k => forebayref06_Parse.l1 k s out (f : Int) (i : Int) p ((p.size : Int) - 1) (mkB p.data.toList) (mkB [])) (match tStep p with | some t => R t | none => ([], 19, (f : Int))) := by
    refine refp_l1 s out f i p hps (fun a b g hc => ?_) p.size _ p.data.toList [] false rfl (Nat.le_refl _) (.inr ⟨rfl, fun i hi => ?_, rfl, rfl⟩)
    · have hcut := colB_cut hc
      have hone := one_piece hc
      have hla : a.length ≤ 1000000 ∧ b.length ≤ 1000000 := by
        have := cut_len p.data.toList 58
        rw [hcut, ← ba_size] at this
        dsimp only at this
        exact ⟨by omega, by omega⟩
      unfold rBody tStep
      rw [hcut]
      simp only
      rw [refright_f _ _ (by rw [mkB_size]; omega) (by rw [mkB_size]; omega), refone_f a b hla.1 hla.2]
      simp only [Option.bind_some, decide_eq_true_eq]
      rw [mkB_list', show p.toList = p.data.toList from by rw [ByteArray.toList_eq]]
      by_cases c1 : tagBad (mkB a) (mkB b) = 0
      · by_cases c2 : oneL a b = p.data.toList
        · have c3 := hone.1 c2
          have ht : tStep p = some ⟨mkB a, mkB b⟩ := by
            unfold tStep
            rw [hcut]
            exact if_pos ⟨c1, c3⟩
          rw [if_pos (⟨c1, c3⟩ : _ ∧ _)]
          exact Ev.congr (fun k => by rw [if_pos c1, if_pos c2, if_pos (show out.length < 4398046511104 by omega), hw]) (hR _ ht)
        · rw [if_neg (fun h => c2 (hone.2 h.2))]
          exact Ev.congr (fun k => by rw [if_pos c1, if_neg c2]) (Ev.now _)
      · rw [if_neg (fun h => c1 h.1)]
        exact Ev.congr (fun k => by rw [if_neg c1]) (Ev.now _)
    · rw [List.getElem?_eq_none (by rw [← ba_size]; exact hi)]
      simp
  refine Ev.step (fun k => ?_) h1
  simp only [forebayref06_Parse.j1]
  rw [if_neg (by decide), if_pos (by omega), if_pos (by omega), if_pos (by omega), Int.toNat_natCast, Int.toNat_natCast, hx, IntWalk.wrap64_in _ (by omega), mkB_of]
  rfl
theorem refp_l0 (s : ByteArray) (hs : s.size ≤ 1000000) : ∀ (d i f : Nat) (out : List S34), i + d = s.size → f ≤ i → (44 : UInt8) ∉ (s.data.toList.drop f).take (i - f) → out.length ≤ i →
    Ev (fun k => forebayref06_Parse.l0 k s out (f : Int) (i : Int)) (tP (pcsL (s.data.toList.drop f)) out f) := by
  have hsz := ba_size s
  intro d
  induction d with
  | zero =>
    intro i f out hi hf hc ho
    have hd : (s.data.toList.drop f).take (i - f) = s.data.toList.drop f := List.take_of_length_le (by simp; omega)
    rw [hd] at hc
    have e : pcsL (s.data.toList.drop f) = [mkB ((s.data.toList.drop f).take (i - f))] := by
      unfold pcsL
      rw [spl_none 44 _ hc, hd]
      rfl
    have h1 := refp_piece s hs out f i hf (by omega) ho (fun t => (out ++ [t], 0, 0)) _ rfl (fun t ht => by
      refine Ev.step (f := fun _ => some (out ++ [t], (0 : Int), (0 : Int))) (fun k => ?_) (Ev.now _)
      simp only [forebayref06_Parse.l0]
      rw [if_neg (by omega)])
    rw [e, tP]
    refine Ev.step (fun k => ?_) (show Ev _ _ from by
      simp only [tP]
      exact h1)
    simp only [forebayref06_Parse.l0]
    rw [if_pos (by omega), if_neg (by omega)]
  | succ d ih =>
    intro i f out hi hf hc ho
    have hlt : i < s.data.toList.length := by omega
    have hw := w1 i (by omega)
    have hdf : (s.data.toList.drop f)[i - f]? = s.data.toList[i]? := by rw [List.getElem?_drop]; congr 1; omega
    by_cases h44 : s.data.toList[i]? = some 44
    · have hbt : bt s (i : Int) = 44 := (bt_eq s i hlt 44).2 h44
      have hdd : s.data.toList.drop f = (s.data.toList.drop f).take (i - f) ++ 44 :: s.data.toList.drop (i + 1) := by
        have h1 := List.take_append_drop (i - f) (s.data.toList.drop f)
        rw [List.drop_drop, show f + (i - f) = i by omega, List.drop_eq_getElem_cons hlt] at h1
        rw [List.getElem?_eq_getElem hlt] at h44
        rw [Option.some.inj h44] at h1
        exact h1.symm
      have e : pcsL (s.data.toList.drop f) = mkB ((s.data.toList.drop f).take (i - f)) :: pcsL (s.data.toList.drop (i + 1)) := by
        unfold pcsL
        conv => lhs; rw [hdd, spl_cut 44 _ _ hc]
        rfl
      have hsz2 : f + (mkB ((s.data.toList.drop f).take (i - f))).size + 1 = i + 1 := by rw [mkB_size]; simp; omega
      have h1 := refp_piece s hs out f i hf (by omega) ho (fun t => tP (pcsL (s.data.toList.drop (i + 1))) (out ++ [t]) (i + 1)) _ rfl (fun t ht => ih (i + 1) (i + 1) (out ++ [t]) (by omega) (Nat.le_refl _) (by simp) (by simp; omega))
      rw [e, tP, hsz2]
      refine Ev.step (fun k => ?_) h1
      simp only [forebayref06_Parse.l0]
      rw [if_pos (by omega), if_pos (by omega), if_pos (by omega), hbt]
      rfl
    · have hbt : ¬ bt s (i : Int) = 44 := fun e => h44 ((bt_eq s i hlt 44).1 e)
      have h1 := ih (i + 1) f out (by omega) (by omega) (by
        rw [show i + 1 - f = (i - f) + 1 by omega, List.take_add_one, hdf]
        intro hm
        rcases List.mem_append.1 hm with hm | hm
        · exact hc hm
        · rw [List.getElem?_eq_getElem hlt] at hm h44
          rw [Option.toList_some, List.mem_singleton] at hm
          exact h44 (by rw [← hm])) (by omega)
      refine Ev.step (fun k => ?_) (Ev.step (f := fun k => forebayref06_Parse.l0 k s out (f : Int) ((i + 1 : Nat) : Int)) (g := fun k => forebayref06_Parse.j1 k s out (f : Int) (i : Int) true) (fun k => ?_) h1)
      · simp only [forebayref06_Parse.l0]
        rw [if_pos (by omega), if_pos (by omega), if_pos (by omega), bne_iff_ne.mpr hbt]
      · simp only [forebayref06_Parse.j1]
        rw [if_pos trivial, hw]
theorem refparse_ev (s : ByteArray) (hs : s.size ≤ 1000000) : Ev (fun k => forebayref06_Parse.f k s) (tP (pcsL s.data.toList) [] 0) :=
  refp_l0 s hs s.size 0 0 [] (by omega) (Nat.le_refl _) (by simp) (Nat.le_refl _)
end Go.Proofs.YthflkmgcifccjaaDoor.PE
