/- The pieces of a text between commas, and the tags that it has; plain; no condition. -/
import Derived.Test.YthflkmgcifccjaaDoorZSTagE
import Derived.Test.YthflkmgcifccjaaDoorZSInjP
import Derived.Lib.Split
import Derived.Lib.CountLaws
import Derived.Lib.SplitLaws
import Derived.Test.YthflkmgcifccjaaDoorZSPEx3
import Derived.Test.YthflkmgcifccjaaDoorZSPEx4
namespace Go.Proofs.YthflkmgcifccjaaDoor.PE
open Go.RowKit Go.Proofs.YthflkmgcifccjaaDoorW.PrintWords Go.Proofs.YthflkmgcifccjaaDoorW.PrintLast Go.Proofs.YthflkmgcifccjaaDoorW.PrintMore Go.Proofs.YthflkmgcifccjaaDoor
set_option linter.unusedVariables false
set_option linter.unusedSimpArgs false
def spl (c : UInt8) : List UInt8 → List (List UInt8)
  | [] => [[]]
  | b :: l => if b = c then [] :: spl c l else ((spl c l).headD [] |>.cons b) :: (spl c l).tail
theorem spl_ne (c : UInt8) : ∀ l, spl c l ≠ []
  | [] => by simp [spl]
  | b :: l => by unfold spl; split <;> simp
theorem spl_none (c : UInt8) : ∀ l, c ∉ l → spl c l = [l]
  | [], _ => rfl
  | b :: l, h => by
    have h1 : b ≠ c := fun e => h (by simp [e])
    have h2 := spl_none c l (fun e => h (List.mem_cons_of_mem _ e))
    unfold spl
    rw [if_neg h1, h2]
    rfl
theorem spl_app (c : UInt8) : ∀ a b, spl c (a ++ c :: b) = spl c a ++ spl c b
  | [], b => by
    show spl c (c :: b) = [[]] ++ spl c b
    rw [spl, if_pos rfl]
    rfl
  | x :: a, b => by
    have ih := spl_app c a b
    show spl c (x :: (a ++ c :: b)) = _
    rw [spl, spl, ih]
    obtain ⟨p, ps, hp⟩ := List.exists_cons_of_ne_nil (spl_ne c a)
    rw [hp]
    split <;> simp
theorem spl_cut (c : UInt8) (a b : List UInt8) (h : c ∉ a) : spl c (a ++ c :: b) = a :: spl c b := by rw [spl_app, spl_none c a h]; rfl
theorem idx_app (c : UInt8) : ∀ a b, c ∉ a → Lib.index (a ++ c :: b) [c] = (a.length : Int)
  | [], b, _ => by simp [Lib.index, List.isPrefixOf]
  | x :: a, b, h => by
    have ih := idx_app c a b (fun e => h (List.mem_cons_of_mem _ e))
    have h1 : c ≠ x := fun e => h (by simp [e])
    show Lib.index (x :: (a ++ c :: b)) [c] = _
    rw [Lib.index, ih]
    have h2 : ¬ ((a.length : Int) == -1) = true := fun e => by have := beq_iff_eq.1 e; omega
    simp only [List.isPrefixOf, h1, beq_eq_false_iff_ne.mpr h1, Bool.false_and, if_neg h2]
    simp
theorem splitK_spl (c : UInt8) : ∀ (k : Nat) (l : List UInt8), l.count c = k → Lib.splitK [c] 0 k l = spl c l
  | 0, l, h => by rw [spl_none c l (List.count_eq_zero.1 h)]; rfl
  | k + 1, l, h => by
    have hm : c ∈ l := List.count_pos_iff.1 (by omega)
    obtain ⟨a, b, rfl, ha⟩ := List.eq_append_cons_of_mem hm
    have hc : b.count c = k := by
      rw [List.count_append, List.count_cons_self, List.count_eq_zero.2 ha] at h
      omega
    have h0 : ¬ ((a.length : Int) == -1) = true := fun e => by have := beq_iff_eq.1 e; omega
    rw [Lib.splitK, idx_app c a b ha, if_neg h0, spl_cut c a b ha, ← splitK_spl c k b hc]
    simp
def mkB (l : List UInt8) : ByteArray := ⟨l.toArray⟩
theorem mkB_list' (l : List UInt8) : (mkB l).toList = l := by rw [ByteArray.toList_eq]; rfl
theorem mkB_size (l : List UInt8) : (mkB l).size = l.length := rfl
theorem mkB_of (s : ByteArray) : mkB s.data.toList = s := rfl
theorem ba_size (s : ByteArray) : s.size = s.data.toList.length := rfl
def pcsL (l : List UInt8) : List ByteArray := (spl 44 l).map mkB
theorem split_pcs (s : ByteArray) (h : s.size ≤ 1000000) : strings_Split.f s (⟨#[44]⟩ : ByteArray) = some (pcsL s.data.toList) := by
  have h1 : Lib.countB s (⟨#[44]⟩ : ByteArray) = s.data.toList.count 44 := Lib.count_one 44 s.data.toList
  have h2 := Lib.countB_le (⟨#[44]⟩ : ByteArray) (by decide) s.size s (Nat.le_refl _)
  unfold strings_Split.f
  rw [if_pos ⟨by omega, by decide, by omega⟩]
  have h3 := Lib.splitB_data (⟨#[44]⟩ : ByteArray) 0 (Lib.countB s (⟨#[44]⟩ : ByteArray)) s
  rw [show Lib.splitK (⟨#[44]⟩ : ByteArray).data.toList 0 (Lib.countB s (⟨#[44]⟩ : ByteArray)) s.data.toList = spl 44 s.data.toList from splitK_spl 44 _ _ h1.symm] at h3
  unfold pcsL
  rw [← h3, List.map_map]
  congr 1
  refine Eq.symm ((List.map_congr_left fun x _ => ?_).trans (List.map_id _))
  exact mkB_of x
def tStep (p : ByteArray) : Option S34 :=
  if tagBad (mkB (Lib.cut p.data.toList [58]).1) (mkB (Lib.cut p.data.toList [58]).2.1) = 0 ∧ ¬ ((Lib.cut p.data.toList [58]).2.2 = true ∧ (Lib.cut p.data.toList [58]).2.1 = []) then some ⟨mkB (Lib.cut p.data.toList [58]).1, mkB (Lib.cut p.data.toList [58]).2.1⟩ else none
def tP : List ByteArray → List S34 → Nat → List S34 × Int × Int
  | [], out, _ => (out, 0, 0)
  | p :: ps, out, o => match tStep p with
    | some t => tP ps (out ++ [t]) (o + p.size + 1)
    | none => ([], 19, (o : Int))
theorem cut_len (l : List UInt8) (c : UInt8) : (Lib.cut l [c]).1.length ≤ l.length ∧ (Lib.cut l [c]).2.1.length ≤ l.length := by
  unfold Lib.cut
  split <;> simp <;> omega
theorem cut_f (p : ByteArray) (h : p.size ≤ 1000000) : strings_Cut.f p (⟨#[58]⟩ : ByteArray) = some (mkB (Lib.cut p.data.toList [58]).1, mkB (Lib.cut p.data.toList [58]).2.1, (Lib.cut p.data.toList [58]).2.2) := by
  unfold strings_Cut.f
  rw [if_pos (by omega)]
  rfl
theorem check_f (a b : ByteArray) (ha : a.size ≤ 1000000) (hb : b.size ≤ 1000000) : tag_Check.f a b = some (tagBad a b) := by
  unfold tag_Check.f
  rw [if_pos ⟨by omega, by omega⟩]
theorem wadd (a b : Nat) (h : a + b < 9223372036854775807) : wrap64 ((a : Int) + (b : Int)) = ((a + b : Nat) : Int) := by
  rw [IntWalk.wrap64_in _ (by omega)]
  omega
theorem rd_str (l : List ByteArray) (i : Nat) (h : i < l.length) : rdOf ByteArray.empty l (i : Int) = l[i]'h := by
  unfold rdOf
  rw [Int.toNat_natCast, List.getD_eq_getElem?_getD, List.getElem?_eq_getElem h]
  rfl
theorem parse_l0 (xs : List ByteArray) (hs : ∀ x ∈ xs, x.size ≤ 1000000) (hn : xs.length ≤ 1000001) : ∀ (d i : Nat) (out : List S34) (o : Nat), i + d = xs.length → out.length ≤ i → o ≤ i * 1000001 →
    Ev (fun k => tag_Parse.l0 k out (o : Int) xs (xs.length : Int) (i : Int)) (tP (xs.drop i) out o) := by
  intro d
  induction d with
  | zero =>
    intro i out o hi ho hb
    rw [List.drop_eq_nil_of_le (by omega)]
    refine Ev.step (f := fun _ => some (out, (0 : Int), (0 : Int))) (fun k => ?_) (Ev.now _)
    simp only [tag_Parse.l0]
    rw [if_neg (by omega)]
  | succ d ih =>
    intro i out o hi ho hb
    have hlt : i < xs.length := by omega
    have hp := hs (xs[i]'hlt) (List.getElem_mem hlt)
    have hw := w1 i (by omega)
    have hcl := cut_len (xs[i]'hlt).data.toList 58
    rw [← ba_size] at hcl
    have hw2 : wrap64 ((o : Int) + wrap64 (((xs[i]'hlt).size : Int) + 1)) = ((o + (xs[i]'hlt).size + 1 : Nat) : Int) := by
      rw [w1 _ (by omega), wadd _ _ (by omega), Nat.add_assoc]
    have hck := check_f (mkB (Lib.cut (xs[i]'hlt).data.toList [58]).1) (mkB (Lib.cut (xs[i]'hlt).data.toList [58]).2.1) (by rw [mkB_size]; omega) (by rw [mkB_size]; omega)
    have hih := fun t => ih (i + 1) (out ++ [t]) (o + (xs[i]'hlt).size + 1) (by omega) (by simp; omega) (by omega)
    rw [List.drop_eq_getElem_cons hlt, tP]
    have e : ∀ k, tag_Parse.l0 (k + 1) out (o : Int) xs (xs.length : Int) (i : Int) = (if tagBad (mkB (Lib.cut (xs[i]'hlt).data.toList [58]).1) (mkB (Lib.cut (xs[i]'hlt).data.toList [58]).2.1) = 0 then (if (Lib.cut (xs[i]'hlt).data.toList [58]).2.2 = true then (if (mkB (Lib.cut (xs[i]'hlt).data.toList [58]).2.1).toList = ([] : List UInt8) then (some (([] : List S34), 19, (o : Int))) else tag_Parse.l0 k (out ++ [(⟨mkB (Lib.cut (xs[i]'hlt).data.toList [58]).1, mkB (Lib.cut (xs[i]'hlt).data.toList [58]).2.1⟩ : S34)]) ((o + (xs[i]'hlt).size + 1 : Nat) : Int) xs (xs.length : Int) ((i + 1 : Nat) : Int)) else tag_Parse.l0 k (out ++ [(⟨mkB (Lib.cut (xs[i]'hlt).data.toList [58]).1, mkB (Lib.cut (xs[i]'hlt).data.toList [58]).2.1⟩ : S34)]) ((o + (xs[i]'hlt).size + 1 : Nat) : Int) xs (xs.length : Int) ((i + 1 : Nat) : Int)) else (some (([] : List S34), 19, (o : Int)))) := fun k => by
      simp only [tag_Parse.l0]
      rw [if_pos (by omega), if_pos (by omega), if_pos (by omega), rd_str xs i hlt, cut_f _ hp]
      simp only [Option.bind_some]
      rw [hck]
      simp only [Option.bind_some]
      rw [if_pos (show out.length < 4398046511104 by omega), hw2, hw]
    refine Ev.step e ?_
    unfold tStep
    rw [mkB_list']
    by_cases c1 : tagBad (mkB (Lib.cut (xs[i]'hlt).data.toList [58]).1) (mkB (Lib.cut (xs[i]'hlt).data.toList [58]).2.1) = 0
    · by_cases c2 : (Lib.cut (xs[i]'hlt).data.toList [58]).2.2 = true
      · by_cases c3 : (Lib.cut (xs[i]'hlt).data.toList [58]).2.1 = []
        · rw [if_neg (fun h => h.2 ⟨c2, c3⟩)]
          exact Ev.congr (fun k => by rw [if_pos c1, if_pos c2, if_pos c3]) (Ev.now _)
        · rw [if_pos ⟨c1, fun h => c3 h.2⟩]
          exact Ev.congr (fun k => by rw [if_pos c1, if_pos c2, if_neg c3]) (hih _)
      · rw [if_pos ⟨c1, fun h => c2 h.1⟩]
        exact Ev.congr (fun k => by rw [if_pos c1, if_neg c2]) (hih _)
    · rw [if_neg (fun h => c1 h.1)]
      exact Ev.congr (fun k => by rw [if_neg c1]) (Ev.now _)
theorem spl_size : ∀ (c : UInt8) (l : List UInt8) (p : List UInt8), p ∈ spl c l → p.length ≤ l.length
  | c, [], p, h => by
    simp [spl] at h
    subst h
    simp
  | c, b :: l, p, h => by
    have ih := spl_size c l
    obtain ⟨q, qs, hq⟩ := List.exists_cons_of_ne_nil (spl_ne c l)
    rw [spl, hq] at h
    rw [hq] at ih
    split at h
    · rcases List.mem_cons.1 h with rfl | h
      · simp
      · have := ih p h
        simp
        omega
    · rcases List.mem_cons.1 h with rfl | h
      · have := ih q (by simp)
        simp
        omega
      · have := ih p (List.mem_cons_of_mem _ h)
        simp
        omega
theorem spl_len (c : UInt8) : ∀ l, (spl c l).length ≤ l.length + 1
  | [] => by simp [spl]
  | b :: l => by
    have ih := spl_len c l
    obtain ⟨q, qs, hq⟩ := List.exists_cons_of_ne_nil (spl_ne c l)
    rw [hq] at ih
    rw [spl, hq]
    split <;> simp at * <;> omega
theorem pcs_size (l : List UInt8) (h : l.length ≤ 1000000) : (∀ x ∈ pcsL l, x.size ≤ 1000000) ∧ (pcsL l).length ≤ 1000001 := by
  constructor
  · intro x hx
    obtain ⟨p, hp, rfl⟩ := List.mem_map.1 hx
    have := spl_size 44 l p hp
    rw [mkB_size]
    omega
  · have := spl_len 44 l
    unfold pcsL
    rw [List.length_map]
    omega
theorem parse_ev (s : ByteArray) (h : s.size ≤ 1000000) : Ev (fun k => tag_Parse.f k s) (tP (pcsL s.data.toList) [] 0) := by
  have hp := pcs_size s.data.toList h
  have h1 := parse_l0 (pcsL s.data.toList) hp.1 hp.2 (pcsL s.data.toList).length 0 [] 0 (by omega) (by simp) (by omega)
  unfold tag_Parse.f
  refine Ev.congr (fun k => ?_) h1
  rw [split_pcs s h]
  rfl
end Go.Proofs.YthflkmgcifccjaaDoor.PE
