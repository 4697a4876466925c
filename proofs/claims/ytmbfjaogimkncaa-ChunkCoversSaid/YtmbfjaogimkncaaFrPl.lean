/- Package chunk: what a framer does, byte by byte, in plain terms; no condition. -/
import Derived.Test.YtmbfjaogimkncaaHeadB
namespace Go.Proofs.Ytmbfjaogimkncaa
open Go.RowKit Go.Proofs.YtmbfjaogimkncaaW.PrintWords Go.Proofs.YtmbfjaogimkncaaW.PrintLast Go.Proofs.YtmbfjaogimkncaaW.PrintMore
set_option linter.unusedVariables false
set_option linter.unusedSimpArgs false
abbrev HNone : Int × Int × Int × Int := (0, 0, 0, 0)
theorem code_ne {r : Int × Int × Int × Int} (h : r.2.2.1 ≠ 0) : r ≠ HNone := fun e => h (by rw [e])
theorem rd_app {l ys : List Int} {i : Nat} (h : i < l.length) : rd (l ++ ys) i = rd l i := by
  unfold rd
  rw [List.getD_eq_getElem?_getD, List.getD_eq_getElem?_getD, List.getElem?_append_left (by omega)]
theorem rd_end {l : List Int} {x : Int} : rd (l ++ [x]) l.length = x := by
  unfold rd
  simp
/-- A head that is known stays so. -/
theorem hdx_app (l ys : List Int) (most : Int) : ∀ (k i : Nat) (n one : Int), hdx l most k i n one ≠ HNone → hdx (l ++ ys) most k i n one = hdx l most k i n one
  | 0, i, n, one, h => by unfold hdx; rfl
  | k + 1, i, n, one, h => by
    unfold hdx at h ⊢
    by_cases h1 : l.length ≤ i
    · rw [if_pos h1] at h
      exact absurd rfl h
    · rw [if_neg h1] at h
      have h2 : ¬ (l ++ ys).length ≤ i := by rw [List.length_append]; omega
      rw [if_neg h1, if_neg h2, rd_app (by omega)]
      split
      · rename_i h3
        rw [if_pos h3] at h
        exact hdx_app l ys most k _ _ _ h
      · rfl
theorem hdm_app (l ys : List Int) (most : Int) : ∀ (k i : Nat), hdm l most k i ≠ HNone → hdm (l ++ ys) most k i = hdm l most k i
  | 0, i, h => by
    unfold hdm at h ⊢
    exact hdx_app l ys most _ _ _ _ h
  | k + 1, i, h => by
    unfold hdm at h ⊢
    by_cases h1 : l.length ≤ i
    · rw [if_pos h1] at h
      exact absurd rfl h
    · rw [if_neg h1] at h
      have h2 : ¬ (l ++ ys).length ≤ i := by rw [List.length_append]; omega
      rw [if_neg h1, if_neg h2, rd_app (by omega)]
      split
      · rename_i h3
        rw [if_pos h3] at h
        exact hdm_app l ys most k _ h
      · rfl
theorem hd_app (l ys : List Int) (most : Int) (h : hd l most ≠ HNone) : hd (l ++ ys) most = hd l most := hdm_app l ys most 3 0 h
/-- What a head's end says: nothing yet; or wrong just at place j; or known just as place j has come. -/
def HEnd (r : Int × Int × Int × Int) (j : Nat) : Prop := r = HNone ∨ (r.1 = 0 ∧ r.2.1 = 0 ∧ 0 < r.2.2.1 ∧ r.2.2.2 = j) ∨ (r.1 = (j : Int) + 1 ∧ 0 ≤ r.2.1 ∧ r.2.2.1 = 0 ∧ r.2.2.2 = 0)
theorem hdx_end (l : List Int) (x most : Int) (hx : 0 ≤ x) : ∀ (k i : Nat) (n one : Int), i + k = 6 → i ≤ l.length → 0 ≤ n → 0 ≤ one → hdx l most k i n one = HNone → HEnd (hdx (l ++ [x]) most k i n one) l.length
  | 0, i, n, one, h6, hi, h0, h1, h => by
    unfold hdx at h
    exact absurd h (by decide)
  | k + 1, i, n, one, h6, hi, h0, h1, h => by
    have hq : 0 ≤ n + one * (rd (l ++ [x]) i % 128) := by
      have : 0 ≤ one * (rd (l ++ [x]) i % 128) := Int.mul_nonneg h1 (by omega)
      omega
    have h2 : ¬ (l ++ [x]).length ≤ i := by rw [List.length_append, List.length_singleton]; omega
    unfold hdx
    rw [if_neg h2]
    by_cases h3 : l.length ≤ i
    · obtain rfl : i = l.length := by omega
      split
      · cases k with
        | zero =>
          unfold hdx
          exact .inr (.inl ⟨rfl, rfl, by decide, by show (5 : Int) = _; omega⟩)
        | succ k =>
          unfold hdx
          rw [if_pos (by rw [List.length_append, List.length_singleton]; exact Nat.le_refl _)]
          exact .inl rfl
      · split
        · exact .inr (.inl ⟨rfl, rfl, by show (0 : Int) < 21; omega, rfl⟩)
        · split
          · exact .inr (.inl ⟨rfl, rfl, by show (0 : Int) < 12; omega, rfl⟩)
          · exact .inr (.inr ⟨rfl, hq, rfl, rfl⟩)
    · unfold hdx at h
      rw [if_neg h3] at h
      rw [rd_app (by omega)] at hq ⊢
      split
      · rename_i h4
        rw [if_pos h4] at h
        exact hdx_end l x most hx k (i + 1) _ _ (by omega) (by omega) hq (by omega) h
      · rename_i h4
        rw [if_neg h4] at h
        split at h
        · exact absurd h (code_ne (by show (21 : Int) ≠ 0; decide))
        · split at h
          · exact absurd h (code_ne (by show (12 : Int) ≠ 0; decide))
          · exact absurd h (by intro e; have := congrArg (fun r => r.1) e; simp only [] at this; omega)
theorem hdm_end (l : List Int) (x most : Int) (hx : 0 ≤ x) : ∀ (k i : Nat), i + k = 3 → i ≤ l.length → hdm l most k i = HNone → HEnd (hdm (l ++ [x]) most k i) l.length
  | 0, i, h6, hi, h => by
    unfold hdm at h ⊢
    exact hdx_end l x most hx 3 3 0 1 rfl (by omega) (by omega) (by omega) h
  | k + 1, i, h6, hi, h => by
    have h2 : ¬ (l ++ [x]).length ≤ i := by rw [List.length_append, List.length_singleton]; omega
    unfold hdm
    rw [if_neg h2]
    by_cases h3 : l.length ≤ i
    · obtain rfl : i = l.length := by omega
      split
      · cases k with
        | zero =>
          unfold hdm hdx
          rw [if_pos (by rw [List.length_append, List.length_singleton]; omega)]
          exact .inl rfl
        | succ k =>
          unfold hdm
          rw [if_pos (by rw [List.length_append, List.length_singleton]; exact Nat.le_refl _)]
          exact .inl rfl
      · refine .inr (.inl ⟨rfl, rfl, ?_, rfl⟩)
        show 0 < hdc _
        unfold hdc
        split <;> decide
    · unfold hdm at h
      rw [if_neg h3] at h
      rw [rd_app (by omega)]
      split
      · rename_i h4
        rw [if_pos h4] at h
        exact hdm_end l x most hx k (i + 1) (by omega) (by omega) h
      · rename_i h4
        rw [if_neg h4] at h
        refine absurd h (code_ne ?_)
        show hdc i ≠ 0
        unfold hdc
        split <;> decide
theorem hd_end (l : List Int) (x most : Int) (hx : 0 ≤ x) (h : hd l most = HNone) : HEnd (hd (l ++ [x]) most) l.length := hdm_end l x most hx 3 0 rfl (Nat.zero_le _) h
/-- A head with less that may be, of one with more. -/
def hdLess (most : Int) (r : Int × Int × Int × Int) : Int × Int × Int × Int := if 0 < r.1 ∧ most < r.2.1 then (0, 0, 12, r.1 - 1) else r
theorem hdx_less (l : List Int) (most : Int) (hm : most ≤ 1048576) : ∀ (k i : Nat) (n one : Int), hdx l most k i n one = hdLess most (hdx l 1048576 k i n one)
  | 0, i, n, one => by
    unfold hdx hdLess
    rw [if_neg (by omega)]
  | k + 1, i, n, one => by
    unfold hdx
    split
    · rfl
    · split
      · exact hdx_less l most hm k _ _ _
      · split
        · rfl
        · obtain ⟨q, hq⟩ : ∃ q, n + one * (rd l i % 128) = q := ⟨_, rfl⟩
          rw [hq]
          by_cases h1 : 1048576 < q
          · rw [if_pos h1, if_pos (by omega)]
            rfl
          · rw [if_neg h1]
            unfold hdLess
            by_cases h2 : most < q
            · rw [if_pos h2, if_pos ⟨by show (0 : Int) < (i : Int) + 1; omega, h2⟩]
              congr 3
              show (i : Int) = (i : Int) + 1 - 1
              omega
            · rw [if_neg h2, if_neg (fun h => h2 h.2)]
theorem hdm_less (l : List Int) (most : Int) (hm : most ≤ 1048576) : ∀ (k i : Nat), hdm l most k i = hdLess most (hdm l 1048576 k i)
  | 0, i => by unfold hdm; exact hdx_less l most hm _ _ _ _
  | k + 1, i => by
    unfold hdm
    split
    · rfl
    · split
      · exact hdm_less l most hm k _
      · rfl
theorem hd_less (l : List Int) (most : Int) (hm : most ≤ 1048576) : hd l most = hdLess most (hd l 1048576) := hdm_less l most hm 3 0
theorem hd_nil (most : Int) : hd [] most = HNone := by unfold hd hdm; rfl
theorem hdLess_none {most : Int} {r : Int × Int × Int × Int} : hdLess most r = HNone ↔ r = HNone := by
  unfold hdLess
  split
  · rename_i h
    constructor
    · intro e
      exact absurd (congrArg (fun r => r.2.2.1) e) (by show ¬ (12 : Int) = 0; decide)
    · intro e
      rw [e] at h
      exact absurd h.1 (by decide)
  · exact Iff.rfl
/-- What the framer makes of what is open as a byte of the head has come: a code; how many bytes the frame has, 0: not known. -/
def cls (most : Int) (op : List Int) : Int × Nat :=
  if ¬ ((hdH op).2.1 = 0 ∧ (hdH op).2.2 = 0) then ((hdH op).2.1, 0)
  else if 0 < (hdH op).1 ∧ most < (hdH op).1 - op.length - 4 then (12, 0)
  else (0, (hdH op).1.toNat)
/-- The same, of the head that may say up to most. -/
def clsOf (r : Int × Int × Int × Int) : Int × Nat := if 0 < r.2.2.1 then (r.2.2.1, 0) else if r.1 = 0 then (0, 0) else (0, (r.1 + r.2.1 + 4).toNat)
theorem cls_eq (most : Int) (h0 : 0 ≤ most) (hm : most ≤ 1048576) (l : List Int) (x : Int) (hx : 0 ≤ x) (h : hd l most = HNone) : cls most (l ++ [x]) = clsOf (hd (l ++ [x]) most) := by
  rw [hd_less _ _ hm] at h ⊢
  rw [hdLess_none] at h
  have he := hd_end l x 1048576 hx h
  unfold cls hdH
  obtain ⟨r, hr⟩ : ∃ r, hd (l ++ [x]) 1048576 = r := ⟨_, rfl⟩
  rw [hr] at he ⊢
  obtain ⟨a, n, c, t⟩ := r
  rcases he with he | ⟨h1, h2, h3, h4⟩ | ⟨h1, h2, h3, h4⟩
  · cases he
    rfl
  · change a = 0 at h1
    change n = 0 at h2
    change 0 < c at h3
    subst h1 h2
    unfold hdLess clsOf
    have e1 : ¬ (c = 0 ∧ t = 0) := by omega
    have e2 : ¬ ((0 : Int) < 0 ∧ most < 0) := by omega
    simp only []
    rw [if_pos e1, if_neg e2]
    simp only []
    rw [if_pos h3]
  · change a = _ at h1
    change 0 ≤ n at h2
    change c = 0 at h3
    change t = 0 at h4
    subst h3 h4
    have ha : ¬ a = 0 := by omega
    have ha2 : 0 < a := by omega
    have hl : ((l ++ [x]).length : Int) = a := by rw [List.length_append, List.length_singleton]; omega
    unfold hdLess clsOf
    simp only [if_neg ha, hl]
    by_cases hq : most < n
    · have e1 : 0 < a ∧ most < n := ⟨ha2, hq⟩
      have e2 : 0 < a + n + 4 ∧ most < a + n + 4 - a - 4 := by omega
      rw [if_pos e1, if_pos e2]
      simp
    · have e1 : ¬ (0 < a ∧ most < n) := by omega
      have e2 : ¬ (0 < a + n + 4 ∧ most < a + n + 4 - a - 4) := by omega
      rw [if_neg e1, if_neg e2]
      simp [ha]
/-- A framer's state, in plain terms. -/
structure FS where
  pos : Nat
  op : List Int
  need : Nat
  ended : Bool
/-- A frame. -/
structure FX where
  lo : Int
  hi : Int
  by' : List Int
  code : Int
  at' : Int
/-- A byte. -/
def fstep (most : Int) (s : FS) (x : Int) : FS × List FX :=
  if s.ended then (s, [])
  else if s.need = 0 then
    if (cls most (s.op ++ [x])).1 = 0 then (⟨s.pos + 1, s.op ++ [x], (cls most (s.op ++ [x])).2, false⟩, [])
    else (⟨s.pos + 1, [], 0, true⟩, [⟨(s.pos : Int) - s.op.length, (s.pos : Int) + 1, [], (cls most (s.op ++ [x])).1, s.pos⟩])
  else if s.op.length + 1 < s.need then (⟨s.pos + 1, s.op ++ [x], s.need, false⟩, [])
  else (⟨s.pos + 1, [], 0, false⟩, [⟨(s.pos : Int) - s.op.length, (s.pos : Int) + 1, s.op ++ [x], 0, 0⟩])
/-- Bytes. -/
def frun (most : Int) (s : FS) : List Int → FS × List FX
  | [] => (s, [])
  | x :: xs => ((frun most (fstep most s x).1 xs).1, (fstep most s x).2 ++ (frun most (fstep most s x).1 xs).2)
theorem frun_append (most : Int) : ∀ (xs ys : List Int) (s : FS), frun most s (xs ++ ys) = ((frun most (frun most s xs).1 ys).1, (frun most s xs).2 ++ (frun most (frun most s xs).1 ys).2)
  | [], ys, s => by simp [frun]
  | x :: xs, ys, s => by
    rw [List.cons_append]
    simp only [frun]
    rw [frun_append most xs ys]
    simp [List.append_assoc]
theorem frun_ended (most : Int) : ∀ (xs : List Int) (s : FS), s.ended = true → frun most s xs = (s, [])
  | [], s, h => rfl
  | x :: xs, s, h => by
    have e : fstep most s x = (s, []) := by unfold fstep; rw [if_pos h]
    simp only [frun, e]
    rw [frun_ended most xs s h]
    rfl
/-- Bytes behind the head, fewer than the frame has. -/
theorem frun_part (most : Int) : ∀ (xs : List Int) (s : FS), s.ended = false → 0 < s.need → s.op.length + xs.length < s.need → frun most s xs = (⟨s.pos + xs.length, s.op ++ xs, s.need, false⟩, [])
  | [], s, h, h0, h1 => by
    obtain ⟨p, o, n, e⟩ := s
    cases h
    simp [frun]
  | x :: xs, s, h, h0, h1 => by
    obtain ⟨p, o, n, e⟩ := s
    cases h
    rw [List.length_cons] at h1
    change o.length + (xs.length + 1) < n at h1
    change 0 < n at h0
    have e : fstep most ⟨p, o, n, false⟩ x = (⟨p + 1, o ++ [x], n, false⟩, []) := by
      unfold fstep
      simp only []
      rw [if_neg (by decide), if_neg (by omega), if_pos (by omega)]
    simp only [frun, e]
    rw [frun_part most xs ⟨p + 1, o ++ [x], n, false⟩ rfl h0 (by show (o ++ [x]).length + _ < n; rw [List.length_append, List.length_singleton]; omega)]
    simp only [List.length_cons, List.append_assoc, List.singleton_append, List.nil_append, Prod.mk.injEq, FS.mk.injEq, and_true]
    omega
/-- Bytes behind the head, just those that the frame lacks. -/
theorem frun_whole (most : Int) (xs : List Int) (s : FS) (h : s.ended = false) (h0 : 0 < s.need) (h1 : s.op.length + xs.length = s.need) (h2 : s.op.length < s.need) :
    frun most s xs = (⟨s.pos + xs.length, [], 0, false⟩, [⟨(s.pos : Int) - s.op.length, (s.pos : Int) + xs.length, s.op ++ xs, 0, 0⟩]) := by
  rcases List.eq_nil_or_concat xs with rfl | ⟨ys, x, rfl⟩
  · rw [List.length_nil] at h1
    omega
  · rw [List.concat_eq_append] at h1 ⊢
    rw [List.length_append, List.length_singleton] at h1
    rw [frun_append, frun_part most ys s h h0 (by omega)]
    have e : fstep most ⟨s.pos + ys.length, s.op ++ ys, s.need, false⟩ x = (⟨s.pos + ys.length + 1, [], 0, false⟩, [⟨((s.pos + ys.length : Nat) : Int) - (s.op ++ ys).length, ((s.pos + ys.length : Nat) : Int) + 1, s.op ++ ys ++ [x], 0, 0⟩]) := by
      unfold fstep
      simp only []
      rw [if_neg (by decide), if_neg (by omega), if_neg (by rw [List.length_append]; omega)]
    simp only [frun, e]
    simp only [List.length_append, List.length_singleton, List.append_assoc, List.nil_append, List.append_nil, Prod.mk.injEq, FS.mk.injEq, FX.mk.injEq, List.cons.injEq, and_true, true_and]
    refine ⟨by omega, by omega, by omega⟩
/-- A head that is not known: nor is that of fewer bytes. -/
theorem hd_pre {l ys : List Int} {most : Int} (h : hd (l ++ ys) most = HNone) : hd l most = HNone := by
  by_cases h1 : hd l most = HNone
  · exact h1
  · exact absurd ((hd_app l ys most h1).symm.trans h) h1
/-- Where a head is known first. -/
theorem hd_first (most : Int) : ∀ (n : Nat) (l : List Int), l.length = n → (∀ x ∈ l, 0 ≤ x) → hd l most ≠ HNone →
    ∃ l1 x l2, l = l1 ++ x :: l2 ∧ hd l1 most = HNone ∧ hd (l1 ++ [x]) most = hd l most
  | 0, l, hl, hx, h => by
    obtain rfl := List.length_eq_zero_iff.1 hl
    exact absurd (hd_nil most) h
  | n + 1, l, hl, hx, h => by
    rcases List.eq_nil_or_concat l with rfl | ⟨ys, x, rfl⟩
    · cases hl
    · rw [List.concat_eq_append] at *
      by_cases h1 : hd ys most = HNone
      · exact ⟨ys, x, [], rfl, h1, rfl⟩
      · obtain ⟨l1, y, l2, e1, e2, e3⟩ := hd_first most n ys (by simpa using hl) (fun z hz => hx z (List.mem_append_left _ hz)) h1
        exact ⟨l1, y, l2 ++ [x], by rw [e1]; simp, e2, by rw [e3, hd_app _ _ _ h1]⟩
theorem clsOf_none : clsOf HNone = (0, 0) := rfl
/-- A head that is not known yet. -/
theorem frun_open (most : Int) (h0 : 0 ≤ most) (hm : most ≤ 1048576) (pos : Nat) : ∀ (n : Nat) (l : List Int), l.length = n → (∀ x ∈ l, 0 ≤ x) → hd l most = HNone → frun most ⟨pos, [], 0, false⟩ l = (⟨pos + l.length, l, 0, false⟩, [])
  | 0, l, hl, hx, h => by
    obtain rfl := List.length_eq_zero_iff.1 hl
    rfl
  | n + 1, l, hl, hx, h => by
    rcases List.eq_nil_or_concat l with rfl | ⟨ys, x, rfl⟩
    · cases hl
    · rw [List.concat_eq_append] at *
      have hy := hd_pre h
      rw [frun_append, frun_open most h0 hm pos n ys (by simpa using hl) (fun z hz => hx z (List.mem_append_left _ hz)) hy]
      have e : fstep most ⟨pos + ys.length, ys, 0, false⟩ x = (⟨pos + ys.length + 1, ys ++ [x], 0, false⟩, []) := by
        unfold fstep
        simp only []
        rw [cls_eq most h0 hm ys x (hx x (by simp)) hy, h, clsOf_none]
        rfl
      simp only [frun, e]
      simp [List.length_append]
      omega
/-- A stream: its frames, where what is open begins, whether it has ended. -/
def frl (most : Int) : Nat → Nat → List Int → List FX × Nat × Bool
  | 0, pos, l => ([], pos, false)
  | k + 1, pos, l =>
    if l = [] then ([], pos, false)
    else if 0 < (hd l most).2.2.1 then ([⟨pos, (pos : Int) + (hd l most).2.2.2 + 1, [], (hd l most).2.2.1, (pos : Int) + (hd l most).2.2.2⟩], pos + (hd l most).2.2.2.toNat + 1, true)
    else if (hd l most).1 = 0 ∨ (l.length : Int) < (hd l most).1 + (hd l most).2.1 + 4 then ([], pos, false)
    else
      (⟨pos, (pos : Int) + ((hd l most).1 + (hd l most).2.1 + 4), l.take ((hd l most).1 + (hd l most).2.1 + 4).toNat, 0, 0⟩ ::
        (frl most k (pos + ((hd l most).1 + (hd l most).2.1 + 4).toNat) (l.drop ((hd l most).1 + (hd l most).2.1 + 4).toNat)).1,
       (frl most k (pos + ((hd l most).1 + (hd l most).2.1 + 4).toNat) (l.drop ((hd l most).1 + (hd l most).2.1 + 4).toNat)).2)
theorem frl_le (most : Int) : ∀ (k pos : Nat) (l : List Int), pos ≤ (frl most k pos l).2.1
  | 0, pos, l => Nat.le_refl _
  | k + 1, pos, l => by
    unfold frl
    split
    · exact Nat.le_refl _
    · split
      · exact Nat.le_add_right_of_le (Nat.le_add_right _ _)
      · split
        · exact Nat.le_refl _
        · exact Nat.le_trans (Nat.le_add_right _ _) (frl_le most k _ _)
/-- How many a frame needs that begins with these bytes; 0: not known. -/
def needOf (most : Int) (l : List Int) : Nat := (clsOf (hd l most)).2
/-- THE FRAMER OVER A STREAM. -/
theorem frun_frl (most : Int) (h0 : 0 ≤ most) (hm : most ≤ 1048576) : ∀ (k pos : Nat) (l : List Int), l.length ≤ k → (∀ x ∈ l, 0 ≤ x) →
    frun most ⟨pos, [], 0, false⟩ l = (if (frl most k pos l).2.2 = true then ⟨(frl most k pos l).2.1, [], 0, true⟩ else ⟨pos + l.length, l.drop ((frl most k pos l).2.1 - pos), needOf most (l.drop ((frl most k pos l).2.1 - pos)), false⟩, (frl most k pos l).1)
  | 0, pos, l, hl, hx => by
    obtain rfl := List.length_eq_zero_iff.1 (Nat.le_zero.1 hl)
    simp [frun, frl, needOf, hd_nil, clsOf_none]
  | k + 1, pos, l, hl, hx => by
    by_cases hn : hd l most = HNone
    · rw [frun_open most h0 hm pos _ l rfl hx hn]
      have e : frl most (k + 1) pos l = ([], pos, false) := by
        unfold frl
        rw [hn]
        split
        · rfl
        · rw [if_neg (by decide), if_pos (.inl rfl)]
      rw [e]
      simp [needOf, hn, clsOf_none]
    · obtain ⟨l1, x, l2, e1, e2, e3⟩ := hd_first most _ l rfl hx hn
      have hx1 : ∀ z ∈ l1, 0 ≤ z := fun z hz => hx z (by rw [e1]; simp [hz])
      have hxx : 0 ≤ x := hx x (by rw [e1]; simp)
      have hx2 : ∀ z ∈ l2, 0 ≤ z := fun z hz => hx z (by rw [e1]; simp [hz])
      have he := hd_end l1 x most hxx e2
      have hc := cls_eq most h0 hm l1 x hxx e2
      rw [e3] at he hc
      have hne : l ≠ [] := by rw [e1]; simp
      have hrun : frun most ⟨pos, [], 0, false⟩ l = ((frun most (fstep most ⟨pos + l1.length, l1, 0, false⟩ x).1 l2).1, (fstep most ⟨pos + l1.length, l1, 0, false⟩ x).2 ++ (frun most (fstep most ⟨pos + l1.length, l1, 0, false⟩ x).1 l2).2) := by
        rw [show frun most ⟨pos, [], 0, false⟩ l = frun most ⟨pos, [], 0, false⟩ (l1 ++ x :: l2) from by rw [← e1], frun_append, frun_open most h0 hm pos _ l1 rfl hx1 e2]
        simp [frun]
      rw [hrun]
      have hlen : l.length = l1.length + (l2.length + 1) := by rw [e1]; simp
      unfold frl
      rw [if_neg hne]
      obtain ⟨r, hr⟩ : ∃ r, hd l most = r := ⟨_, rfl⟩
      rw [hr] at he hc hn ⊢
      obtain ⟨a, n, c, t⟩ := r
      rcases he with he | ⟨h1, h2, h3, h4⟩ | ⟨h1, h2, h3, h4⟩
      · exact absurd he hn
      · change a = 0 at h1
        change n = 0 at h2
        change 0 < c at h3
        change t = _ at h4
        have hcc : clsOf (a, n, c, t) = (c, 0) := if_pos h3
        have e : fstep most ⟨pos + l1.length, l1, 0, false⟩ x = (⟨pos + l1.length + 1, [], 0, true⟩, [⟨((pos + l1.length : Nat) : Int) - l1.length, ((pos + l1.length : Nat) : Int) + 1, [], c, ((pos + l1.length : Nat) : Int)⟩]) := by
          have hc0 : ¬ c = 0 := by omega
          simp [fstep, hc, hcc, hc0]
        rw [e]
        simp only []
        rw [if_pos h3, frun_ended most l2 _ rfl]
        simp only [if_pos, List.append_nil, Prod.mk.injEq, FS.mk.injEq, List.cons.injEq, FX.mk.injEq, and_true, true_and]
        subst h4
        refine ⟨by omega, by omega, by omega, by omega⟩
      · change a = _ at h1
        change 0 ≤ n at h2
        change c = 0 at h3
        change t = 0 at h4
        subst h3 h4
        obtain ⟨N, hN⟩ : ∃ N : Nat, a + n + 4 = N := ⟨(a + n + 4).toNat, by omega⟩
        have hcc : clsOf (a, n, 0, 0) = (0, N) := by
          unfold clsOf
          simp only []
          rw [if_neg (by omega), if_neg (by omega), hN]
          rfl
        have hNp : l1.length + 5 ≤ N := by omega
        have e : fstep most ⟨pos + l1.length, l1, 0, false⟩ x = (⟨pos + l1.length + 1, l1 ++ [x], N, false⟩, []) := by
          simp [fstep, hc, hcc]
        rw [e]
        have ha0 : ¬ a = 0 := by omega
        have hz : ¬ (0 : Int) < 0 := by decide
        simp only [hN, ha0, false_or, Int.toNat_natCast, hz, if_false]
        by_cases hw : l.length < N
        · have hw2 : (l.length : Int) < (N : Int) := by omega
          rw [if_pos hw2]
          rw [frun_part most l2 _ rfl (by show 0 < N; omega) (by show (l1 ++ [x]).length + _ < N; rw [List.length_append, List.length_singleton]; omega)]
          simp only [List.append_assoc, List.singleton_append, List.nil_append, Nat.sub_self, List.drop_zero]
          rw [← e1]
          simp only [needOf, hr, hcc]
          simp
          omega
        · have hw2 : ¬ (l.length : Int) < (N : Int) := by omega
          rw [if_neg hw2]
          obtain ⟨m, hmm⟩ : ∃ m, l1.length + 1 + m = N := ⟨N - (l1.length + 1), by omega⟩
          have e4 : l2 = l2.take m ++ l2.drop m := (List.take_append_drop m l2).symm
          have hlt : (l2.take m).length = m := by rw [List.length_take]; omega
          have e5 : l.take N = l1 ++ [x] ++ l2.take m := by
            rw [e1, ← hmm, show l1 ++ x :: l2 = (l1 ++ [x]) ++ l2 by simp, show l1.length + 1 + m = (l1 ++ [x]).length + m by simp, List.take_length_add_append]
          have e6 : l.drop N = l2.drop m := by
            rw [e1, ← hmm, show l1 ++ x :: l2 = (l1 ++ [x]) ++ l2 by simp, show l1.length + 1 + m = (l1 ++ [x]).length + m by simp, List.drop_length_add_append]
          have hf := frun_whole most (l2.take m) ⟨pos + l1.length + 1, l1 ++ [x], N, false⟩ rfl (by show 0 < N; omega) (by show (l1 ++ [x]).length + _ = N; rw [List.length_append, List.length_singleton, hlt]; exact hmm) (by show (l1 ++ [x]).length < N; rw [List.length_append, List.length_singleton]; omega)
          have hf2 : frun most ⟨pos + l1.length + 1, l1 ++ [x], N, false⟩ (l2.take m) = (⟨pos + N, [], 0, false⟩, [⟨pos, (pos : Int) + (N : Int), l.take N, 0, 0⟩]) := by
            rw [hf, e5]
            simp only [List.length_append, List.length_singleton, hlt, Prod.mk.injEq, FS.mk.injEq, FX.mk.injEq, List.cons.injEq, and_true, true_and]
            refine ⟨by omega, by omega, by omega⟩
          have ih := frun_frl most h0 hm k (pos + N) (l.drop N) (by rw [List.length_drop]; omega) (fun z hz => hx z (List.mem_of_mem_drop hz))
          have hsplit : frun most ⟨pos + l1.length + 1, l1 ++ [x], N, false⟩ l2 = ((frun most ⟨pos + N, [], 0, false⟩ (l.drop N)).1, ⟨pos, (pos : Int) + (N : Int), l.take N, 0, 0⟩ :: (frun most ⟨pos + N, [], 0, false⟩ (l.drop N)).2) := by
            rw [show frun most ⟨pos + l1.length + 1, l1 ++ [x], N, false⟩ l2 = frun most ⟨pos + l1.length + 1, l1 ++ [x], N, false⟩ (l2.take m ++ l2.drop m) from by rw [← e4], frun_append, hf2, e6]
            rfl
          rw [hsplit, ih]
          have hle := frl_le most k (pos + N) (l.drop N)
          simp only [Int.toNat_natCast]
          obtain ⟨q, hq⟩ : ∃ q, frl most k (pos + N) (l.drop N) = q := ⟨_, rfl⟩
          rw [hq] at hle ⊢
          obtain ⟨qo, qf, qe⟩ := q
          simp only [List.nil_append]
          change pos + N ≤ qf at hle
          cases qe with
          | true => rfl
          | false =>
            simp only [Bool.false_eq_true, if_false]
            have e7 : (l.drop N).drop (qf - (pos + N)) = l.drop (qf - pos) := by
              rw [List.drop_drop]
              congr 1
              omega
            rw [e7]
            simp only [Prod.mk.injEq, FS.mk.injEq, and_true]
            rw [List.length_drop]
            omega
theorem hdx_short (l : List Int) (most : Int) : ∀ (k i : Nat) (n one : Int), i + k = 6 → hdx l most k i n one = HNone → l.length ≤ 5
  | 0, i, n, one, h6, h => by
    unfold hdx at h
    exact absurd h (by decide)
  | k + 1, i, n, one, h6, h => by
    unfold hdx at h
    split at h
    · omega
    · split at h
      · exact hdx_short l most k _ _ _ (by omega) h
      · split at h
        · exact absurd h (code_ne (by show (21 : Int) ≠ 0; decide))
        · split at h
          · exact absurd h (code_ne (by show (12 : Int) ≠ 0; decide))
          · exact absurd h (by intro e; have := congrArg (fun r => r.1) e; simp only [] at this; omega)
theorem hdm_short (l : List Int) (most : Int) : ∀ (k i : Nat), i + k = 3 → hdm l most k i = HNone → l.length ≤ 5
  | 0, i, h6, h => by
    unfold hdm at h
    exact hdx_short l most 3 3 0 1 rfl h
  | k + 1, i, h6, h => by
    unfold hdm at h
    split at h
    · omega
    · split at h
      · exact hdm_short l most k _ (by omega) h
      · refine absurd h (code_ne ?_)
        show hdc i ≠ 0
        unfold hdc
        split <;> decide
theorem hd_short {l : List Int} {most : Int} (h : hd l most = HNone) : l.length ≤ 5 := hdm_short l most 3 0 rfl h
/-- What holds of a framer's state between two bytes. -/
structure FSok (most : Int) (s : FS) : Prop where
  open' : s.need = 0 → hd s.op most = HNone
  part : 0 < s.need → s.op.length < s.need
  few : (s.need : Int) ≤ most + 10
  gone : s.ended = true → s.op = []
theorem FSok.new (most : Int) (h0 : 0 ≤ most) (pos : Nat) : FSok most ⟨pos, [], 0, false⟩ := ⟨fun _ => hd_nil most, fun h => absurd h (Nat.lt_irrefl 0), by show ((0 : Nat) : Int) ≤ _; omega, fun h => rfl⟩
theorem FSok.held {most : Int} {s : FS} (h0 : 0 ≤ most) (h : FSok most s) : (s.op.length : Int) ≤ most + 10 := by
  by_cases hn : s.need = 0
  · have := hd_short (h.open' hn)
    omega
  · have h1 := h.part (by omega)
    have h2 := h.few
    omega
theorem fstep_ok {most : Int} (h0 : 0 ≤ most) (hm : most ≤ 1048576) {s : FS} {x : Int} (hx : 0 ≤ x) (h : FSok most s) : FSok most (fstep most s x).1 := by
  unfold fstep
  split
  · exact h
  · rename_i he
    split
    · rename_i hn
      have ho := h.open' hn
      have hc := cls_eq most h0 hm s.op x hx ho
      have hE := hd_end s.op x most hx ho
      rw [hc]
      have hbd : 0 ≤ (hd (s.op ++ [x]) most).1 ∧ (hd (s.op ++ [x]) most).1 ≤ 6 ∧ 0 ≤ (hd (s.op ++ [x]) most).2.1 ∧ (hd (s.op ++ [x]) most).2.1 ≤ most := hdm_bound _ most h0 3 0
      obtain ⟨r, hr⟩ : ∃ r, hd (s.op ++ [x]) most = r := ⟨_, rfl⟩
      rw [hr] at hE hbd ⊢
      split
      · rename_i hcode
        refine ⟨fun hz => ?_, fun hp => ?_, ?_, fun h => (by cases h)⟩
        · change (clsOf r).2 = 0 at hz
          change hd (s.op ++ [x]) most = HNone
          rw [hr]
          rcases hE with hE | ⟨h1, h2, h3, h4⟩ | ⟨h1, h2, h3, h4⟩
          · exact hE
          · exact absurd hcode (by unfold clsOf; rw [if_pos h3]; show ¬ r.2.2.1 = 0; omega)
          · exact absurd hz (by unfold clsOf; rw [if_neg (by omega), if_neg (by omega)]; show ¬ (r.1 + r.2.1 + 4).toNat = 0; omega)
        · change 0 < (clsOf r).2 at hp
          show (s.op ++ [x]).length < (clsOf r).2
          rw [List.length_append, List.length_singleton]
          unfold clsOf at hp ⊢
          split
          · rename_i h3
            rw [if_pos h3] at hp
            exact absurd hp (by show ¬ 0 < 0; omega)
          · rename_i h3
            rw [if_neg h3] at hp
            split
            · rename_i h4
              rw [if_pos h4] at hp
              exact absurd hp (by show ¬ 0 < 0; omega)
            · show _ < (r.1 + r.2.1 + 4).toNat
              rcases hE with hE | ⟨h1, h2, h5, h6⟩ | ⟨h1, h2, h5, h6⟩
              · rename_i h4
                exact absurd (by rw [hE]) h4
              · exact absurd h5 h3
              · omega
        · show (((clsOf r).2 : Nat) : Int) ≤ most + 10
          unfold clsOf
          split
          · show ((0 : Nat) : Int) ≤ _
            omega
          · split
            · show ((0 : Nat) : Int) ≤ _
              omega
            · show (((r.1 + r.2.1 + 4).toNat : Nat) : Int) ≤ _
              omega
      · exact ⟨fun _ => hd_nil most, fun h => absurd h (Nat.lt_irrefl 0), by show ((0 : Nat) : Int) ≤ _; omega, fun _ => rfl⟩
    · rename_i hn
      split
      · rename_i hl
        exact ⟨fun hz => absurd hz hn, fun _ => by show (s.op ++ [x]).length < s.need; rw [List.length_append, List.length_singleton]; exact hl, h.few, fun h => (by cases h)⟩
      · exact FSok.new most h0 _
theorem frun_ok {most : Int} (h0 : 0 ≤ most) (hm : most ≤ 1048576) : ∀ (xs : List Int) (s : FS), (∀ x ∈ xs, 0 ≤ x) → FSok most s → FSok most (frun most s xs).1
  | [], s, hx, h => h
  | x :: xs, s, hx, h => frun_ok h0 hm xs _ (fun y hy => hx y (List.mem_cons_of_mem _ hy)) (fstep_ok h0 hm (hx x List.mem_cons_self) h)
theorem frun_few (most : Int) : ∀ (xs : List Int) (s : FS), (frun most s xs).2.length ≤ xs.length
  | [], s => Nat.le_refl _
  | x :: xs, s => by
    simp only [frun, List.length_append, List.length_cons]
    have h1 := frun_few most xs (fstep most s x).1
    have h2 : (fstep most s x).2.length ≤ 1 := by
      unfold fstep
      split
      · exact Nat.zero_le _
      · split
        · split
          · exact Nat.zero_le _
          · exact Nat.le_refl _
        · split
          · exact Nat.zero_le _
          · exact Nat.le_refl _
    omega
theorem frun_take_part {most : Int} {s : FS} {xs : List Int} {k : Nat} (he : s.ended = false) (hn : 0 < s.need) (hk : s.op.length + k < s.need) (hl : k = xs.length) :
    frun most s xs = frun most ⟨s.pos + k, s.op ++ xs.take k, s.need, false⟩ (xs.drop k) := by
  subst hl
  rw [frun_part most xs s he hn hk, List.take_length, List.drop_length]
  rfl
theorem frun_take_whole {most : Int} {s : FS} {xs : List Int} {k : Nat} (he : s.ended = false) (hn : 0 < s.need) (hp : s.op.length < s.need) (hk : s.op.length + k = s.need) (hl : k ≤ xs.length) :
    frun most s xs = ((frun most ⟨s.pos + k, [], 0, false⟩ (xs.drop k)).1, ⟨(s.pos : Int) - s.op.length, (s.pos : Int) + k, s.op ++ xs.take k, 0, 0⟩ :: (frun most ⟨s.pos + k, [], 0, false⟩ (xs.drop k)).2) := by
  have hlt : (xs.take k).length = k := by rw [List.length_take]; omega
  rw [show frun most s xs = frun most s (xs.take k ++ xs.drop k) by rw [List.take_append_drop], frun_append, frun_whole most (xs.take k) s he hn (by rw [hlt]; exact hk) hp, hlt]
  rfl
/-- A byte of the head that is wrong. -/
theorem frun_bad {most : Int} {s : FS} {x : Int} {ys : List Int} (he : s.ended = false) (hn : s.need = 0) (hc : (cls most (s.op ++ [x])).1 ≠ 0) :
    frun most s (x :: ys) = (⟨s.pos + 1, [], 0, true⟩, [⟨(s.pos : Int) - s.op.length, (s.pos : Int) + 1, [], (cls most (s.op ++ [x])).1, s.pos⟩]) := by
  have e : fstep most s x = (⟨s.pos + 1, [], 0, true⟩, [⟨(s.pos : Int) - s.op.length, (s.pos : Int) + 1, [], (cls most (s.op ++ [x])).1, s.pos⟩]) := by
    simp [fstep, he, hn, hc]
  simp only [frun, e]
  rw [frun_ended most ys _ rfl]
  rfl
/-- A byte of the head that is right. -/
theorem frun_head {most : Int} {s : FS} {x : Int} {ys : List Int} (he : s.ended = false) (hn : s.need = 0) (hc : (cls most (s.op ++ [x])).1 = 0) :
    frun most s (x :: ys) = frun most ⟨s.pos + 1, s.op ++ [x], (cls most (s.op ++ [x])).2, false⟩ ys := by
  have e : fstep most s x = (⟨s.pos + 1, s.op ++ [x], (cls most (s.op ++ [x])).2, false⟩, []) := by
    simp [fstep, he, hn, hc]
  simp only [frun, e]
  rfl
theorem fstep_head_ok {most : Int} (h0 : 0 ≤ most) (hm : most ≤ 1048576) {s : FS} {x : Int} (hx : 0 ≤ x) (h : FSok most s) (he : s.ended = false) (hn : s.need = 0) (hc : (cls most (s.op ++ [x])).1 = 0) : FSok most ⟨s.pos + 1, s.op ++ [x], (cls most (s.op ++ [x])).2, false⟩ := by
  have e : fstep most s x = (⟨s.pos + 1, s.op ++ [x], (cls most (s.op ++ [x])).2, false⟩, []) := by
    simp [fstep, he, hn, hc]
  have h1 := fstep_ok h0 hm hx h
  rw [e] at h1
  exact h1
end Go.Proofs.Ytmbfjaogimkncaa
