/- TagBack: what is written is parsed, and what is parsed is written as it stood; plain; no condition. -/
import Derived.Test.YthflkmgcifccjaaDoorZRRTagL
import Derived.Test.YthflkmgcifccjaaDoorZRPEx7
namespace Go.Proofs.YthflkmgcifccjaaDoor.PE
open Go.RowKit Go.Proofs.YthflkmgcifccjaaDoorW.PrintWords Go.Proofs.YthflkmgcifccjaaDoorW.PrintLast Go.Proofs.YthflkmgcifccjaaDoorW.PrintMore Go.Proofs.YthflkmgcifccjaaDoor
set_option linter.unusedVariables false
set_option linter.unusedSimpArgs false
theorem badF_ok (f : Int → Bool) (s : ByteArray) : ∀ (k i : Nat), badF f s k i < 0 → ∀ j, i ≤ j → j < i + k → f (bt s (j : Int)) = true := by
  intro k
  induction k with
  | zero => intro i _ j h1 h2; omega
  | succ k ih =>
    intro i h j h1 h2
    unfold badF at h
    split at h
    · rename_i hf
      by_cases e : j = i
      · subst e; exact hf
      · exact ih (i + 1) h j (by omega) (by omega)
    · omega
theorem cls_not (c : Int) (s : ByteArray) (b : UInt8) (h : badI (clsB c) s < 0) (hb : clsB c (b.toNat : Int) = false) : b ∉ s.data.toList := fun hm => by
  obtain ⟨i, hi, he⟩ := List.mem_iff_getElem.1 hm
  have h1 := badF_ok (clsB c) s s.size 0 h i (Nat.zero_le _) (by rw [ba_size]; omega)
  rw [bt_get s i hi, he, hb] at h1
  cases h1
theorem tag_class {k v : ByteArray} (h : tagBad k v = 0) : (58 : UInt8) ∉ k.data.toList ∧ (44 : UInt8) ∉ k.data.toList ∧ (44 : UInt8) ∉ v.data.toList ∧ k.size ≤ 64 ∧ v.size ≤ 100 := by
  unfold tagBad at h
  split at h
  · rename_i h2
    have a := (txOk_iff 2 k 1 64 (by decide) (by omega)).1 h2.1
    have b := (txOk_iff 3 v 0 100 (by decide) (by omega)).1 h2.2
    exact ⟨cls_not 2 k 58 a.2.2 (by decide +kernel), cls_not 2 k 44 a.2.2 (by decide +kernel), cls_not 3 v 44 b.2.2 (by decide +kernel), by omega, by omega⟩
  · cases h
theorem cut_app (c : UInt8) (a b : List UInt8) (h : c ∉ a) : Lib.cut (a ++ c :: b) [c] = (a, b, true) := by
  unfold Lib.cut
  rw [idx_app c a b h, if_pos (by omega)]
  simp
theorem cut_none (c : UInt8) (l : List UInt8) (h : c ∉ l) : Lib.cut l [c] = (l, [], false) := by
  unfold Lib.cut
  rw [idx_none c l h, if_neg (by omega)]
def oneT (t : S34) : List UInt8 := oneL t.f0.data.toList t.f1.data.toList
theorem one_no {t : S34} (h : tagBad t.f0 t.f1 = 0) : (44 : UInt8) ∉ oneT t := by
  have hc := tag_class h
  unfold oneT oneL
  split
  · exact hc.2.1
  · intro hm
    rcases List.mem_append.1 hm with hm | hm
    · exact hc.2.1 hm
    · rcases List.mem_cons.1 hm with hm | hm
      · cases hm
      · exact hc.2.2.1 hm
theorem step_one {t : S34} (h : tagBad t.f0 t.f1 = 0) : tStep (mkB (oneT t)) = some t := by
  have hc := tag_class h
  unfold tStep
  rw [mkB_list]
  unfold oneT oneL
  by_cases hv : t.f1.data.toList = []
  · rw [if_pos hv]
    have e := cut_none 58 _ hc.1
    rw [e]
    have e1 : t.f1 = mkB [] := ba_ext2 (by rw [hv]; rfl)
    dsimp only
    rw [mkB_of, ← e1, if_pos ⟨h, fun h => by cases h.1⟩]
  · rw [if_neg hv]
    have e := cut_app 58 _ t.f1.data.toList hc.1
    rw [e]
    dsimp only
    rw [mkB_of, mkB_of, if_pos ⟨h, fun h => hv h.2⟩]
theorem step_of {p : ByteArray} {t : S34} (h : tStep p = some t) : tagBad t.f0 t.f1 = 0 ∧ oneT t = p.data.toList := by
  unfold tStep at h
  split at h
  · rename_i hq
    obtain rfl := (Option.some.inj h).symm
    refine ⟨hq.1, ?_⟩
    show oneL (Lib.cut p.data.toList [58]).1 (Lib.cut p.data.toList [58]).2.1 = p.data.toList
    by_cases hm : (58 : UInt8) ∈ p.data.toList
    · obtain ⟨a, b, e, ha⟩ := List.eq_append_cons_of_mem hm
      have ec : Lib.cut p.data.toList [58] = (a, b, true) := by rw [e]; exact cut_app 58 a b ha
      have hb : ¬ b = [] := fun hb => hq.2 ⟨by rw [ec], by rw [ec]; exact hb⟩
      rw [ec]
      exact (if_neg hb).trans e.symm
    · rw [cut_none 58 _ hm]
      exact if_pos rfl
  · cases h
def tX : List S34 → List (List UInt8) → Nat → ByteArray × Int × Int
  | [], out, _ => (mkB (Lib.join out [44]), 0, 0)
  | t :: l, out, i => if tagBad t.f0 t.f1 = 0 then tX l (out ++ [oneT t]) (i + 1) else (⟨#[]⟩, (i : Int), 19)
theorem bad19 {k v : ByteArray} (h : ¬ tagBad k v = 0) : tagBad k v = 19 := by
  unfold tagBad at h ⊢
  split at h
  · exact absurd rfl h
  · rename_i h2
    rw [if_neg h2]
theorem lens_le (B : Nat) : ∀ xs : List (List UInt8), (∀ x ∈ xs, x.length ≤ B) → Lib.lens xs ≤ xs.length * B
  | [], _ => by simp [Lib.lens]
  | x :: xs, h => by
    have ih := lens_le B xs (fun y hy => h y (List.mem_cons_of_mem _ hy))
    have h1 := h x (by simp)
    simp only [Lib.lens, List.map_cons, List.sum_cons, List.length_cons, Nat.add_mul, Nat.one_mul] at *
    omega
theorem join_le (B : Nat) (xs : List (List UInt8)) (h : ∀ x ∈ xs, x.length ≤ B) : (Lib.join xs [44]).length ≤ xs.length * (B + 1) := by
  cases xs with
  | nil => simp [Lib.join_nil]
  | cons x r =>
    have h1 := lens_le B (x :: r) h
    rw [Lib.join_length]
    simp only [List.length_cons, List.length_nil, Nat.add_mul, Nat.mul_add, Nat.one_mul, Nat.mul_one] at *
    omega
theorem one_len (t : S34) (B : Nat) (h : t.f0.size ≤ B ∧ t.f1.size ≤ B) : (oneT t).length ≤ 2 * B + 1 := by
  unfold oneT oneL
  rw [ba_size, ba_size] at h
  split
  · omega
  · simp only [List.length_append, List.length_cons]
    omega
theorem join_f (out : List (List UInt8)) (h : ∀ x ∈ out, x.length ≤ 2001) (hn : out.length ≤ 2000) : strings_Join.f (out.map mkB) (⟨#[44]⟩ : ByteArray) = some (mkB (Lib.join out [44])) := by
  have e : (out.map mkB).map (·.data.toList) = out := by
    rw [List.map_map]
    exact (List.map_congr_left fun x _ => rfl).trans (List.map_id _)
  have hj := join_le 2001 out h
  have hm : out.length * (2001 + 1) ≤ 2000 * (2001 + 1) := Nat.mul_le_mul_right _ hn
  unfold strings_Join.f
  rw [e, if_pos ⟨by rw [List.length_map]; omega, by show (Lib.join out [44]).length ≤ _; omega⟩]
  rfl
theorem text_l0 (l : List S34) (hl : l.length ≤ 2000) (hs : ∀ t ∈ l, t.f0.size ≤ 1000 ∧ t.f1.size ≤ 1000) : ∀ (d i : Nat) (out : List (List UInt8)), i + d = l.length → out.length ≤ i → (∀ x ∈ out, x.length ≤ 2001) →
    Ev (fun k => tag_Text.l0 k (out.map mkB) l (l.length : Int) (i : Int)) (tX (l.drop i) out i) := by
  intro d
  induction d with
  | zero =>
    intro i out hi ho hx
    rw [List.drop_eq_nil_of_le (by omega), tX]
    refine Ev.step (f := fun _ => some (mkB (Lib.join out [44]), (0 : Int), (0 : Int))) (fun k => ?_) (Ev.now _)
    simp only [tag_Text.l0]
    rw [if_neg (by omega), join_f out hx (by omega)]
    rfl
  | succ d ih =>
    intro i out hi ho hx
    have hlt : i < l.length := by omega
    have hw := w1 i (by omega)
    have hsz := hs (l[i]'hlt) (List.getElem_mem hlt)
    have hck := check_f (l[i]'hlt).f0 (l[i]'hlt).f1 (by omega) (by omega)
    rw [List.drop_eq_getElem_cons hlt, tX]
    by_cases c1 : tagBad (l[i]'hlt).f0 (l[i]'hlt).f1 = 0
    · rw [if_pos c1]
      have h1 := ih (i + 1) (out ++ [oneT (l[i]'hlt)]) (by omega) (by simp; omega) (fun x hx2 => by
        rcases List.mem_append.1 hx2 with h | h
        · exact hx x h
        · rw [List.mem_singleton.1 h]
          have := one_len (l[i]'hlt) 1000 hsz
          omega)
      refine Ev.step (fun k => ?_) h1
      simp only [tag_Text.l0]
      rw [if_pos (by omega), if_pos (by omega), if_pos (by omega), rd_tag l i hlt, hck, Option.bind_some, if_pos c1, hw, List.map_append, List.map_cons, List.map_nil]
      unfold oneT oneL
      by_cases hv : (l[i]'hlt).f1.data.toList = []
      · rw [if_pos hv, if_pos (by rw [ByteArray.toList_eq]; exact hv), if_pos (by rw [List.length_map]; omega), mkB_of]
      · have e : (l[i]'hlt).f0 ++ ((⟨#[58]⟩ : ByteArray) ++ (l[i]'hlt).f1) = mkB ((l[i]'hlt).f0.data.toList ++ 58 :: (l[i]'hlt).f1.data.toList) := ba_ext2 (by simp [mkB])
        rw [if_neg hv, if_neg (by rw [ByteArray.toList_eq]; exact hv), if_pos (by omega), if_pos (by rw [ByteArray.size_append]; have h1 : (⟨#[58]⟩ : ByteArray).size = 1 := rfl; omega), if_pos (by rw [List.length_map]; omega), e]
    · rw [if_neg c1]
      refine Ev.step (f := fun _ => some ((⟨#[]⟩ : ByteArray), (i : Int), (19 : Int))) (fun k => ?_) (Ev.now _)
      simp only [tag_Text.l0]
      rw [if_pos (by omega), if_pos (by omega), if_pos (by omega), rd_tag l i hlt, hck, Option.bind_some, if_neg c1, bad19 c1]
theorem text_ev (l : List S34) (hl : l.length ≤ 2000) (hs : ∀ t ∈ l, t.f0.size ≤ 1000 ∧ t.f1.size ≤ 1000) : Ev (fun k => tag_Text.f k l) (tX l [] 0) :=
  text_l0 l hl hs l.length 0 [] (by omega) (by simp) (by simp)
theorem tX_good : ∀ (l : List S34) (out : List (List UInt8)) (i : Nat), (∀ t ∈ l, tagBad t.f0 t.f1 = 0) → tX l out i = (mkB (Lib.join (out ++ l.map oneT) [44]), 0, 0)
  | [], out, i, _ => by simp [tX]
  | t :: l, out, i, h => by
    rw [tX, if_pos (h t (by simp)), tX_good l _ _ (fun x hx => h x (List.mem_cons_of_mem _ hx))]
    simp
theorem tP_good : ∀ (l out : List S34) (o : Nat), (∀ t ∈ l, tagBad t.f0 t.f1 = 0) → tP (l.map fun t => mkB (oneT t)) out o = (out ++ l, 0, 0)
  | [], out, o, _ => by simp [tP]
  | t :: l, out, o, h => by
    rw [List.map_cons, tP, step_one (h t (by simp))]
    simp only
    rw [tP_good l _ _ (fun x hx => h x (List.mem_cons_of_mem _ hx))]
    simp
theorem parse_text (l : List S34) (hne : l ≠ []) (h : ∀ t ∈ l, tagBad t.f0 t.f1 = 0) : tP (pcsL (Lib.join (l.map oneT) [44])) [] 0 = (l, 0, 0) := by
  unfold pcsL
  rw [spl_join 44 _ (by simpa using hne) (fun p hp => by
    obtain ⟨t, ht, rfl⟩ := List.mem_map.1 hp
    exact one_no (h t ht)), List.map_map]
  exact tP_good l [] 0 h
theorem tP_cases : ∀ (ps : List ByteArray) (out : List S34) (o : Nat),
    (∃ ts : List S34, tP ps out o = (out ++ ts, 0, 0) ∧ ts.length = ps.length ∧ (∀ t ∈ ts, tagBad t.f0 t.f1 = 0) ∧ ts.map oneT = ps.map (·.data.toList)) ∨
    (∃ a : Nat, tP ps out o = ([], 19, (a : Int)) ∧ o ≤ a ∧ a + 1 ≤ o + (ps.map fun p => p.size + 1).sum)
  | [], out, o => .inl ⟨[], by simp [tP], rfl, by simp, rfl⟩
  | p :: ps, out, o => by
    rw [tP]
    cases h : tStep p with
    | none => exact .inr ⟨o, rfl, Nat.le_refl _, by simp; omega⟩
    | some t =>
      simp only
      have hs := step_of h
      rcases tP_cases ps (out ++ [t]) (o + p.size + 1) with ⟨ts, h1, h2, h3, h4⟩ | ⟨a, h1, h2, h3⟩
      · refine .inl ⟨t :: ts, by rw [h1]; simp, by simp [h2], fun x hx => ?_, by simp [h4, hs.2]⟩
        rcases List.mem_cons.1 hx with rfl | hx
        · exact hs.1
        · exact h3 x hx
      · exact .inr ⟨a, h1, by omega, by simp; omega⟩
theorem spl_sum (c : UInt8) : ∀ l, ((spl c l).map fun p => p.length + 1).sum = l.length + 1
  | [] => by simp [spl]
  | b :: l => by
    have ih := spl_sum c l
    obtain ⟨q, qs, hq⟩ := List.exists_cons_of_ne_nil (spl_ne c l)
    rw [hq] at ih
    rw [spl, hq]
    split <;> simp at * <;> omega
theorem pcs_sum (l : List UInt8) : ((pcsL l).map fun p => p.size + 1).sum = l.length + 1 := by
  have h := spl_sum 44 l
  unfold pcsL
  rw [List.map_map]
  exact h
theorem pcs_data (l : List UInt8) : (pcsL l).map (·.data.toList) = spl 44 l := by
  unfold pcsL
  rw [List.map_map]
  exact (List.map_congr_left fun x _ => rfl).trans (List.map_id _)
theorem tagIn_of_small {l : List S34} (h : smallT l) : ∀ t ∈ l, t.f0.size ≤ 1000 ∧ t.f1.size ≤ 1000 := fun t ht => by
  have := h.2 t ht
  omega
def bad1 : List S34 → Nat → Int
  | [], _ => -1
  | t :: l, i => if tagBad t.f0 t.f1 = 0 then bad1 l (i + 1) else (i : Int)
theorem bad1_good : ∀ (l : List S34) (i : Nat), bad1 l i < 0 → ∀ t ∈ l, tagBad t.f0 t.f1 = 0
  | [], _, _, t, h => by cases h
  | x :: l, i, hb, t, h => by
    unfold bad1 at hb
    split at hb
    · rename_i hx
      rcases List.mem_cons.1 h with rfl | h
      · exact hx
      · exact bad1_good l _ hb t h
    · omega
theorem bad1_bad : ∀ (l : List S34) (out : List (List UInt8)) (i : Nat), 0 ≤ bad1 l i → tX l out i = (⟨#[]⟩, bad1 l i, 19)
  | [], _, _, h => by simp [bad1] at h
  | x :: l, out, i, h => by
    unfold bad1 at h ⊢
    rw [tX]
    split at h
    · rename_i hx
      rw [if_pos hx, if_pos hx]
      exact bad1_bad l _ _ h
    · rename_i hx
      rw [if_neg hx, if_neg hx]
theorem bad1_cases (l : List S34) (i : Nat) : bad1 l i = -1 ∨ 0 ≤ bad1 l i := by
  induction l generalizing i with
  | nil => exact .inl rfl
  | cons x l ih =>
    unfold bad1
    split
    · exact ih _
    · right; omega
theorem tb_ok {α : Type} (A B : Option α) : (if (!((0 : Int) == 0) || (!((0 : Int) == 0))) = true then A else B) = B := if_neg (by decide)
theorem tb_er {α : Type} (a : Int) (A B : Option α) : (if (!((19 : Int) == 0) || (!(a == 0))) = true then A else B) = A := if_pos (by simp)
theorem tb_j3 (s : ByteArray) (hs : s.size ≤ 500) : Ev (fun k => forebaylaw06_TagBack.j3 k s) true := by
  have haw : Ev (fun k => (forebaylaw06_awake.f k).bind fun t => some t) true := Ev.bind awake06_ev (Ev.now _)
  have hsum := pcs_sum s.data.toList
  rw [← ba_size] at hsum
  rcases tP_cases (pcsL s.data.toList) [] 0 with ⟨ts, h1, h2, h3, h4⟩ | ⟨a, h1, h2, h3⟩
  · rw [List.nil_append] at h1
    have hp := pcs_size s.data.toList (by rw [← ba_size]; omega)
    rw [pcs_data] at h4
    have hx := tX_good ts [] 0 h3
    rw [List.nil_append, h4, join_spl] at hx
    have hn : ts.length ≤ 2000 := by
      have h5 := spl_len 44 s.data.toList
      have h6 := congrArg List.length h4
      rw [List.length_map] at h6
      rw [← ba_size] at h5
      omega
    have h0 : 0 < ts.length := by
      have h6 := congrArg List.length h4
      rw [List.length_map] at h6
      have := List.length_pos_iff.2 (spl_ne 44 s.data.toList)
      omega
    have hsz : ∀ t ∈ ts, t.f0.size ≤ 1000 ∧ t.f1.size ≤ 1000 := fun t ht => by
      have := tag_class (h3 t ht)
      omega
    have ht := text_ev ts hn hsz
    rw [hx] at ht
    have hpe := parse_ev s (by omega)
    rw [h1] at hpe
    refine Ev.step (fun k => by unfold forebaylaw06_TagBack.j3; rfl) (Ev.bind hpe (Ev.congr (fun k => tb_ok _ _) (Ev.bind ht ?_)))
    exact Ev.congr (fun k => by rw [if_pos rfl, if_pos rfl, if_pos (congrArg ByteArray.toList (mkB_of s)), if_pos (show ((ts.length : Int) > 0) by omega)]) haw
  · have hpe := parse_ev s (by omega)
    rw [h1] at hpe
    refine Ev.step (fun k => by unfold forebaylaw06_TagBack.j3; rfl) (Ev.bind hpe (Ev.congr (fun k => tb_er _ _ _) ?_))
    exact Ev.congr (fun k => by rw [if_pos (by simp), if_pos rfl, if_pos (show ((a : Int) ≥ 0) by omega), if_pos (show ((a : Int) ≤ (s.size : Int)) by omega)]) haw
theorem tb_j2 (l : List S34) (hl : smallT l) (s : ByteArray) (hs : s.size ≤ 500) (i : Int) : Ev (fun k => forebaylaw06_TagBack.j2 k l s (bad1 l 0) i false) true := by
  have hj := tb_j3 s hs
  have hL := hl.1
  have ht := text_ev l (by omega) (tagIn_of_small hl)
  rcases bad1_cases l 0 with hb | hb
  · have hg := bad1_good l 0 (by omega)
    have hx := tX_good l [] 0 hg
    rw [List.nil_append] at hx
    rw [hx] at ht
    have hjl : (Lib.join (l.map oneT) [44]).length ≤ 1000000 := by
      have h1 := join_le 401 (l.map oneT) (fun x hx => by
        obtain ⟨t, htm, rfl⟩ := List.mem_map.1 hx
        have := one_len t 200 (hl.2 t htm)
        omega)
      have h2 : (l.map oneT).length * (401 + 1) ≤ 60 * (401 + 1) := Nat.mul_le_mul_right _ (by rw [List.length_map]; exact hL)
      omega
    have hpe := parse_ev (mkB (Lib.join (l.map oneT) [44])) hjl
    refine Ev.step (fun k => by simp only [forebaylaw06_TagBack.j2]; exact if_neg (by decide)) (Ev.bind ht ?_)
    rw [hb]
    refine Ev.congr (fun k => if_neg (by decide)) (Ev.bind hpe ?_)
    by_cases h0 : l = []
    · subst h0
      exact Ev.congr (fun k => by rw [if_pos rfl, if_pos rfl, if_pos (by simp), if_pos (by rw [mkB_list']; rfl), if_neg (by simp)]) hj
    · have hlen : 0 < l.length := List.length_pos_iff.2 h0
      rw [mkB_list, parse_text l h0 hg]
      refine Ev.congr (f := fun k => (forebaylaw06_same.f k l l).bind fun t319 => (if t319 = true then (forebaylaw06_TagBack.j3 k s) else (none))) (fun k => ?_) (Ev.bind (same_refl l (by omega)) (Ev.congr (fun k => if_pos rfl) hj))
      rw [if_pos rfl, if_pos rfl, if_neg (show ¬ (l.length : Int) = 0 by omega), if_pos (show (l.length : Int) > 0 by omega), if_neg (by simp)]
  · have hx := bad1_bad l [] 0 hb
    rw [hx] at ht
    refine Ev.step (fun k => by simp only [forebaylaw06_TagBack.j2]; exact if_neg (by decide)) (Ev.bind ht ?_)
    exact Ev.congr (fun k => by rw [if_pos (show bad1 l 0 ≥ 0 from hb), if_pos (show (⟨#[]⟩ : ByteArray).toList = ([] : List UInt8) from mkB_list' []), if_pos rfl, if_pos rfl]) hj
theorem tb_l0 (l : List S34) (hl : smallT l) (s : ByteArray) (hs : s.size ≤ 500) : ∀ (d i : Nat), i + d = l.length → bad1 (l.drop i) i = bad1 l 0 → Ev (fun k => forebaylaw06_TagBack.l0 k l s (-1) (i : Int)) true := by
  intro d
  induction d with
  | zero =>
    intro i hi hb
    rw [List.drop_eq_nil_of_le (by omega)] at hb
    have h1 := tb_j2 l hl s hs (i : Int)
    rw [← hb] at h1
    refine Ev.step (fun k => ?_) h1
    simp only [forebaylaw06_TagBack.l0]
    rw [if_neg (by omega)]
    rfl
  | succ d ih =>
    intro i hi hb
    have hlt : i < l.length := by omega
    have hw := w1 i (by have := hl.1; omega)
    have hsz := tagIn_of_small hl (l[i]'hlt) (List.getElem_mem hlt)
    have hck := check_f (l[i]'hlt).f0 (l[i]'hlt).f1 (by omega) (by omega)
    rw [List.drop_eq_getElem_cons hlt, bad1] at hb
    by_cases c1 : tagBad (l[i]'hlt).f0 (l[i]'hlt).f1 = 0
    · rw [if_pos c1] at hb
      refine Ev.step (fun k => ?_) (Ev.step (g := fun k => forebaylaw06_TagBack.j2 k l s (-1) (i : Int) true) (fun k => ?_) (ih (i + 1) (by omega) hb))
      · simp only [forebaylaw06_TagBack.l0]
        rw [if_pos (by omega)]
        rfl
      · simp only [forebaylaw06_TagBack.j2]
        rw [if_pos trivial, if_pos (by omega), if_pos (by omega), rd_tag l i hlt, hck, Option.bind_some, if_pos c1, hw]
    · rw [if_neg c1] at hb
      have h1 := tb_j2 l hl s hs ((i + 1 : Nat) : Int)
      rw [← hb] at h1
      refine Ev.step (fun k => ?_) (Ev.step (g := fun k => forebaylaw06_TagBack.j2 k l s (-1) (i : Int) true) (fun k => ?_) (Ev.step (g := fun k => forebaylaw06_TagBack.l0 k l s (i : Int) ((i + 1 : Nat) : Int)) (fun k => ?_) h1))
      · simp only [forebaylaw06_TagBack.l0]
        rw [if_pos (by omega)]
        rfl
      · simp only [forebaylaw06_TagBack.j2]
        rw [if_pos trivial, if_pos (by omega), if_pos (by omega), rd_tag l i hlt, hck, Option.bind_some, if_neg c1, hw]
      · simp only [forebaylaw06_TagBack.l0]
        by_cases h2 : ((i + 1 : Nat) : Int) < (l.length : Int)
        · rw [if_pos h2, decide_eq_false (by omega)]
        · rw [if_neg h2]
theorem tagBack_pure (l : List S34) (s : ByteArray) : ∃ k, forebaylaw06_TagBack.f k l s = some true := by
  refine Ev.rounds ?_
  have haw : Ev (fun k => (forebaylaw06_awake.f k).bind fun t => some t) true := Ev.bind awake06_ev (Ev.now _)
  have hjt : Ev (fun k => forebaylaw06_TagBack.j0 k l s true) true := Ev.step (fun k => by simp only [forebaylaw06_TagBack.j0]; exact if_pos trivial) haw
  unfold forebaylaw06_TagBack.f
  obtain ⟨p, hp, hq⟩ := few6_ev l
  refine Ev.bind hp ?_
  cases p with
  | false => exact Ev.congr (fun k => if_neg (by decide)) hjt
  | true =>
    refine Ev.congr (fun k => if_pos rfl) ?_
    by_cases h : (s.size : Int) > 500
    · rw [decide_eq_true h]
      exact hjt
    · rw [decide_eq_false h]
      exact Ev.step (fun k => by simp only [forebaylaw06_TagBack.j0]; exact if_neg (by decide)) (tb_l0 l (hq rfl) s (by omega) l.length 0 (by omega) rfl)
end Go.Proofs.YthflkmgcifccjaaDoor.PE
