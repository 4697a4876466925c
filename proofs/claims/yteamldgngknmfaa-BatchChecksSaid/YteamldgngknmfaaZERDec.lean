/- The document's answer for numbers tells what package dec's Check tells; plain; no condition. -/
import Derived.Test.YteamldgngknmfaaZELawMetC
import Derived.Test.YteamldgngknmfaaZEPEx6
namespace Go.Proofs.Yteamldgngknmfaa.PE
open Go.RowKit Go.Proofs.YteamldgngknmfaaW.PrintWords Go.Proofs.YteamldgngknmfaaW.PrintLast Go.Proofs.YteamldgngknmfaaW.PrintMore Go.Proofs.Yteamldgngknmfaa
set_option linter.unusedVariables false
set_option linter.unusedSimpArgs false
def dgS (n : Nat) : ByteArray := ⟨(dg n).toArray⟩
theorem dgS_size (n : Nat) : (dgS n).size = (dg n).length := by simp [dgS, ByteArray.size]
theorem dgS_list (n : Nat) : (dgS n).toList = dg n := by rw [ByteArray.toList_eq]; simp [dgS]
theorem dg1_fin : ∀ d : Fin 10, (⟨#[48, 49, 50, 51, 52, 53, 54, 55, 56, 57]⟩ : ByteArray).extract d.val (d.val + 1) = ⟨#[UInt8.ofNat (48 + d.val)]⟩ := by decide +kernel
theorem dg1 (d : Nat) (h : d < 10) : (⟨#[48, 49, 50, 51, 52, 53, 54, 55, 56, 57]⟩ : ByteArray).extract d (d + 1) = ⟨#[UInt8.ofNat (48 + d)]⟩ := dg1_fin ⟨d, h⟩
theorem u64_id (x : Int) (h : 0 ≤ x ∧ x < 18446744073709551616) : IntKind.u64.wrap x = x := IntWalk.u64_in _ (by omega)
theorem digits_ev : ∀ (m n : Nat), n ≤ m → n < 18446744073709551616 → Ev (fun k => forebayref03_Digits.f k (n : Int)) (dgS n) := by
 intro m
 induction m with
 | zero =>
  intro n hn hb
  obtain rfl : n = 0 := by omega
  refine Ev.step (f := fun _ => some (dgS 0)) (fun k => ?_) (Ev.now _)
  simp only [forebayref03_Digits.f]
  rw [if_pos (by decide), if_pos (by decide), if_pos (by decide), if_pos (by decide)]
  decide +kernel
 | succ m ih =>
  intro n hn hb
  by_cases h : n < 10
  ·refine Ev.step (f := fun _ => some (dgS n)) (fun k => ?_) (Ev.now _)
   simp only [forebayref03_Digits.f]
   rw [u64_id ((n : Int) + 1) (by omega), if_pos (by omega), if_pos (by omega), if_pos (by omega), if_pos (by omega), show ((n : Int)).toNat = n by omega, show ((n : Int) + 1).toNat = n + 1 by omega, dg1 n h]
   unfold dgS
   rw [dg_small h]
  ·have h1 := ih (n / 10) (by omega) (by omega)
   have e1 : Int.tdiv (n : Int) 10 = ((n / 10 : Nat) : Int) := by rw [Int.tdiv_eq_ediv_of_nonneg (by omega)]; omega
   have e2 : Int.tmod (n : Int) 10 = ((n % 10 : Nat) : Int) := by rw [Int.tmod_eq_emod_of_nonneg (by omega)]; omega
   have hm : n % 10 < 10 := Nat.mod_lt _ (by omega)
   have hl := dg_len 19 (n / 10) (by omega)
   refine Ev.step (f := fun k => (forebayref03_Digits.f k ((n / 10 : Nat) : Int)).bind fun t => if t.size + (⟨#[UInt8.ofNat (48 + n % 10)]⟩ : ByteArray).size ≤ 9223372036854775807 then some (t ++ ⟨#[UInt8.ofNat (48 + n % 10)]⟩) else none) (fun k => ?_) ?_
   ·simp only [forebayref03_Digits.f]
    rw [if_neg (by omega), e1, e2, u64_id ((n / 10 : Nat) : Int) (by omega), u64_id (((n % 10 : Nat) : Int) + 1) (by omega)]
    simp only [if_pos (show (0 : Int) ≤ ((n % 10 : Nat) : Int) by omega), if_pos (show ((n % 10 : Nat) : Int) ≤ ((n % 10 : Nat) : Int) + 1 by omega), if_pos (show ((n % 10 : Nat) : Int) + 1 ≤ 10 by omega), show (((n % 10 : Nat) : Int)).toNat = n % 10 by omega, show (((n % 10 : Nat) : Int) + 1).toNat = n % 10 + 1 by omega, dg1 (n % 10) hm]
   ·refine Ev.bind h1 ?_
    have e : dgS (n / 10) ++ (⟨#[UInt8.ofNat (48 + n % 10)]⟩ : ByteArray) = dgS n := by
     unfold dgS
     rw [dg_big (show 10 ≤ n by omega)]
     apply ByteArray.ext
     simp
    simp only [if_pos (show (dgS (n / 10)).size + (⟨#[UInt8.ofNat (48 + n % 10)]⟩ : ByteArray).size ≤ 9223372036854775807 by rw [dgS_size]; show _ + 1 ≤ _; omega), e]
    exact Ev.now _
theorem dgS_last (n : Nat) : bt (dgS n) (((dgS n).size : Int) - 1) = 48 + ((n % 10 : Nat) : Int) := by
 obtain ⟨l, hl⟩ := dg_last n
 have hs : (dgS n).size = l.length + 1 := by rw [dgS_size, hl]; simp
 have hm : n % 10 < 10 := Nat.mod_lt _ (by omega)
 unfold bt
 rw [dif_pos (show (((dgS n).size : Int) - 1).toNat < (dgS n).size by omega)]
 have hlt : (((dgS n).size : Int) - 1).toNat < (dgS n).size := by omega
 have e : (dgS n)[(((dgS n).size : Int) - 1).toNat]'hlt = UInt8.ofNat (48 + n % 10) := by
  have h1 : (((dgS n).size : Int) - 1).toNat = l.length := by omega
  have hx : (dg n)[(((dgS n).size : Int) - 1).toNat]? = some ((dgS n)[(((dgS n).size : Int) - 1).toNat]'hlt) := by
   rw [List.getElem?_eq_getElem (by rw [← dgS_size]; exact hlt)]
   rfl
  have hy : (dg n)[l.length]? = some (UInt8.ofNat (48 + n % 10)) := by rw [hl]; simp
  rw [← h1] at hy
  exact Option.some.inj (hx.symm.trans hy)
 rw [e]
 simp only [UInt8.toNat_ofNat']
 omega
theorem dgS_first (n : Nat) (h : 1 ≤ n) : bt (dgS n) 0 ≠ 48 := by
 have hs : 0 < (dgS n).size := by rw [dgS_size]; exact dg_pos n
 unfold bt
 rw [dif_pos (show ((0 : Int)).toNat < (dgS n).size by simpa using hs)]
 intro hh
 have hx : (dg n)[0]? = some ((dgS n)[(0 : Int).toNat]'(by simpa using hs)) := by
  rw [List.getElem?_eq_getElem (by rw [← dgS_size]; exact hs)]
  rfl
 exact dg_head n n (Nat.le_refl _) h _ hx (by omega)
theorem dgS_cut (n : Nat) (h : 10 ≤ n) : (dgS n).extract 0 (((dgS n).size : Int) - 1).toNat = dgS (n / 10) := by
 have e := dg_big h
 have hs : (dgS n).size = (dg (n / 10)).length + 1 := by rw [dgS_size, e]; simp
 rw [show (((dgS n).size : Int) - 1).toNat = (dg (n / 10)).length by omega]
 apply ByteArray.ext
 unfold dgS
 rw [e]
 simp
theorem bt_dg (n i : Nat) (h : i < (dg n).length) : bt (dgS n) (i : Int) = (((dg n)[i]'h).toNat : Int) := by
 unfold bt
 rw [dif_pos (show ((i : Int)).toNat < (dgS n).size by rw [dgS_size]; simpa using h)]
 rfl
theorem dval_mono (xs : List UInt8) : ∀ ys : List UInt8, dval xs ≤ dval (xs ++ ys) := by
 intro ys
 induction ys generalizing xs with
 | nil => rw [List.append_nil]; exact Nat.le_refl _
 | cons y ys ih =>
  have h1 := ih (xs ++ [y])
  rw [List.append_assoc] at h1
  have h2 := dval_app xs y
  exact Nat.le_trans (by omega) h1
theorem dval_take (n i : Nat) : dval ((dg n).take i) ≤ n := by
 have h := dval_mono ((dg n).take i) ((dg n).drop i)
 rw [List.take_append_drop, dval_dg n n (Nat.le_refl _)] at h
 exact h
theorem value_l0 (n : Nat) (hn : n < 18446744073709551616) : ∀ (d i : Nat), i + d = (dg n).length → Ev (fun k => forebayref03_Value.l0 k (dgS n) ((dval ((dg n).take i) : Nat) : Int) (i : Int)) (n : Int) := by
 have hl := dg_len 19 n (by omega)
 intro d
 induction d with
 | zero =>
  intro i hi
  have e : dval ((dg n).take i) = n := by rw [List.take_of_length_le (by omega)]; exact dval_dg n n (Nat.le_refl _)
  rw [e]
  refine Ev.step (f := fun _ => some (n : Int)) (fun k => ?_) (Ev.now _)
  simp only [forebayref03_Value.l0]
  rw [if_neg (by rw [dgS_size]; omega)]
 | succ d ih =>
  intro i hi
  have hlt : i < (dg n).length := by omega
  have h1 := ih (i + 1) (by omega)
  have ht : (dg n).take (i + 1) = (dg n).take i ++ [(dg n)[i]'hlt] := by rw [List.take_succ_eq_append_getElem hlt]
  have hd := dg_digit n n (Nat.le_refl _) ((dg n)[i]'hlt) (List.getElem_mem _)
  have hv := dval_app ((dg n).take i) ((dg n)[i]'hlt)
  rw [← ht] at hv
  have hb := dval_take n (i + 1)
  refine Ev.step (f := fun k => forebayref03_Value.l0 k (dgS n) ((dval ((dg n).take (i + 1)) : Nat) : Int) ((i + 1 : Nat) : Int)) (fun k => ?_) h1
  simp only [forebayref03_Value.l0]
  rw [if_pos (by rw [dgS_size]; omega), if_pos (by omega), bt_dg n i hlt, u64_id (10 * ((dval ((dg n).take i) : Nat) : Int)) (by omega), show ((((dg n)[i]'hlt).toNat : Int) - 48) % 256 = (((dg n)[i]'hlt).toNat : Int) - 48 by omega, u64_id _ (by omega)]
  congr 1
  ·omega
  ·have := IntWalk.wrap64_in ((i : Int) + 1) (by omega)
   rw [this]
   omega
theorem value_ev (n : Nat) (hn : n < 18446744073709551616) : Ev (fun k => forebayref03_Value.f k (dgS n)) (n : Int) := by
 have h := value_l0 n hn (dg n).length 0 (by omega)
 exact h
theorem dgmax : dg 18446744073709551615 = [49, 56, 52, 52, 54, 55, 52, 52, 48, 55, 51, 55, 48, 57, 53, 53, 49, 54, 49, 53] := by
 rw [dg_big (by decide), dg_big (by decide), dg_big (by decide), dg_big (by decide), dg_big (by decide), dg_big (by decide), dg_big (by decide), dg_big (by decide), dg_big (by decide), dg_big (by decide), dg_big (by decide), dg_big (by decide), dg_big (by decide), dg_big (by decide), dg_big (by decide), dg_big (by decide), dg_big (by decide), dg_big (by decide), dg_big (by decide), dg_small (by decide)]
 decide +kernel
theorem fits_ok (n : Nat) (hn : n < 18446744073709551616) : forebayref03_Fits.f (dgS n) = some true := by
 have hs := dgS_size n
 unfold forebayref03_Fits.f
 rcases dg_fits n hn with h | ⟨h1, h2⟩
 ·rw [if_pos (by omega)]
 ·rw [if_neg (by omega), if_pos (by omega), dgS_list, ← dgmax, ← bytes_leq, h2]
theorem l2_ev (g : Bool) (n : Nat) (e : Int) (hn : n < 18446744073709551616) (he : -18 ≤ e ∧ e ≤ 18) : Ev (fun k => forebayref03_Make.l2 k g (dgS n) e) (g, (n : Int), e, true) := by
 refine Ev.step (f := fun k => (forebayref03_Value.f k (dgS n)).bind fun t => some (g, t, e, true)) (fun k => ?_) (Ev.bind (value_ev n hn) (Ev.now _))
 simp only [forebayref03_Make.l2]
 rw [if_neg (by omega), if_neg (by omega), fits_ok n hn]
 rfl
theorem l1_ev (g : Bool) : ∀ (d : Nat) (n : Nat) (e : Int), 1 ≤ n → n < 18446744073709551616 → -18 ≤ e → e ≤ 18 → (18 - e).toNat = d →
  ∃ (n' : Nat) (e' : Int), Ev (fun k => forebayref03_Make.l1 k g (dgS n) e) (g, (n' : Int), e', true) ∧ e ≤ e' ∧ ((n % 10 = 0 ∧ e < 18) → e < e') ∧ (¬ (n % 10 = 0 ∧ e < 18) → n' = n ∧ e' = e) := by
 intro d
 induction d with
 | zero =>
  intro n e h1 hn he1 he2 hd
  refine ⟨n, e, ?_, Int.le_refl _, fun h => by omega, fun _ => ⟨rfl, rfl⟩⟩
  refine Ev.step (f := fun k => forebayref03_Make.j4 k g (dgS n) e) (fun k => ?_) (Ev.step (f := fun k => forebayref03_Make.l2 k g (dgS n) e) (fun k => by simp only [forebayref03_Make.j4]) (l2_ev g n e hn ⟨he1, he2⟩))
  simp only [forebayref03_Make.l1]
  rw [if_neg (by omega)]
 | succ d ih =>
  intro n e h1 hn he1 he2 hd
  have hp := dg_pos n
  have hl := dg_len 19 n (by omega)
  have hs := dgS_size n
  have hw : wrap64 (((dgS n).size : Int) - 1) = ((dgS n).size : Int) - 1 := IntWalk.wrap64_in _ (by omega)
  have hlast := dgS_last n
  by_cases hz : n % 10 = 0
  ·obtain ⟨n', e', hev, h2, h3, h4⟩ := ih (n / 10) (e + 1) (by omega) (by omega) (by omega) (by omega) (by omega)
   refine ⟨n', e', ?_, by omega, fun _ => by omega, fun h => absurd ⟨hz, by omega⟩ h⟩
   refine Ev.step (f := fun k => forebayref03_Make.l1 k g (dgS (n / 10)) (e + 1)) (fun k => ?_) hev
   simp only [forebayref03_Make.l1]
   rw [hw, if_pos (show e < 18 by omega), if_pos (by omega), if_pos (by omega), hlast, hz, if_pos (by decide), if_pos (by omega), dgS_cut n (by omega), IntWalk.wrap64_in (e + 1) (by omega)]
  ·refine ⟨n, e, ?_, Int.le_refl _, fun h => absurd h.1 hz, fun _ => ⟨rfl, rfl⟩⟩
   refine Ev.step (f := fun k => forebayref03_Make.j4 k g (dgS n) e) (fun k => ?_) (Ev.step (f := fun k => forebayref03_Make.l2 k g (dgS n) e) (fun k => by simp only [forebayref03_Make.j4]) (l2_ev g n e hn ⟨he1, he2⟩))
   simp only [forebayref03_Make.l1]
   rw [hw, if_pos (show e < 18 by omega), if_pos (by omega), if_pos (by omega), hlast, if_neg (by omega)]
theorem make_ev (g : Bool) (n : Nat) (e : Int) (h1 : 1 ≤ n) (hn : n < 18446744073709551616) (he1 : -18 ≤ e) (he2 : e ≤ 18) :
  ∃ (n' : Nat) (e' : Int), Ev (fun k => forebayref03_Make.f k g (dgS n) e) (g, (n' : Int), e', true) ∧ ((n % 10 = 0 ∧ e < 18) → e < e') ∧ (¬ (n % 10 = 0 ∧ e < 18) → n' = n ∧ e' = e) := by
 obtain ⟨n', e', hev, h2, h3, h4⟩ := l1_ev g (18 - e).toNat n e h1 hn he1 he2 rfl
 refine ⟨n', e', ?_, h3, h4⟩
 have hp := dg_pos n
 have hs := dgS_size n
 show Ev (fun k => forebayref03_Make.l0 k g (dgS n) e) _
 refine Ev.step (f := fun k => forebayref03_Make.j1 k g (dgS n) e) (fun k => ?_) (Ev.step (f := fun k => forebayref03_Make.j2 k g (dgS n) e false) (fun k => ?_) (Ev.step (f := fun k => forebayref03_Make.l1 k g (dgS n) e) (fun k => ?_) hev))
 ·simp only [forebayref03_Make.l0]
  rw [if_pos (by omega), if_pos (by omega), if_neg (dgS_first n h1)]
 ·simp only [forebayref03_Make.j1]
  rw [if_neg (show ¬ (dgS n).toList = [] by rw [dgS_list]; intro h; rw [h] at hp; simp at hp), if_neg (by omega), decide_eq_false (by omega)]
 ·simp only [forebayref03_Make.j2]
  rw [if_neg (by decide)]
theorem make0_ev (g : Bool) (e : Int) : Ev (fun k => forebayref03_Make.f k g (dgS 0) e) (false, 0, 0, true) := by
 have e0 : dgS 0 = ⟨#[48]⟩ := by unfold dgS; rw [dg_small (by decide)]; rfl
 rw [e0]
 show Ev (fun k => forebayref03_Make.l0 k g ⟨#[48]⟩ e) _
 refine Ev.step (f := fun k => forebayref03_Make.l0 k g ⟨#[]⟩ e) (fun k => ?_) (Ev.step (f := fun k => forebayref03_Make.j1 k g ⟨#[]⟩ e) (fun k => ?_) (Ev.step (f := fun k => some (false, 0, 0, true)) (fun k => ?_) (Ev.now _)))
 ·simp only [forebayref03_Make.l0]
  rw [if_pos (by decide), if_pos (by decide), if_pos (by decide), if_pos (by decide)]
  rfl
 ·simp only [forebayref03_Make.l0]
  rw [if_neg (by decide)]
 ·simp only [forebayref03_Make.j1]
  rw [if_pos (by rw [ByteArray.toList_eq])]
theorem refdec_ev (g : Bool) (c e : Int) (hc : 0 ≤ c ∧ c < 18446744073709551616) : Ev (fun k => forebayref03_Check.f k g c e) (decBad g c e) := by
 obtain ⟨n, rfl⟩ : ∃ n : Nat, c = (n : Int) := ⟨c.toNat, by omega⟩
 have hn : n < 18446744073709551616 := by omega
 have hdig := digits_ev n n (Nat.le_refl _) hn
 by_cases h0 : n = 0
 ·subst h0
  refine Ev.congr (f := fun k => forebayref03_Check.j0 k false g ((0 : Nat) : Int) e) (fun k => by unfold forebayref03_Check.f; rw [if_pos (show ((0 : Nat) : Int) = 0 from rfl)]) ?_
  refine Ev.step (f := fun k => (forebayref03_Digits.f k ((0 : Nat) : Int)).bind fun t106 => ((forebayref03_Make.f k g t106 e).bind fun bt107 => (if bt107.2.2.2 = true then (if (!(bt107.1 == g) || (!(bt107.2.1 == ((0 : Nat) : Int)) || (!(bt107.2.2.1 == e)))) = true then (some 21) else (some 0)) else (some 21)))) (fun k => ?_) ?_
  ·simp only [forebayref03_Check.j0]
   rw [if_neg (by decide)]
  ·refine Ev.bind hdig (Ev.bind (make0_ev g e) ?_)
   have : (if (true : Bool) = true then (if (!(false == g) || (!((0 : Int) == ((0 : Nat) : Int)) || (!((0 : Int) == e)))) = true then (some (21 : Int)) else (some 0)) else (some 21)) = some (decBad g ((0 : Nat) : Int) e) := by
    have hb0 : decBad g ((0 : Nat) : Int) e = if g = false ∧ e = 0 then 0 else 21 := by
     show decBad g 0 e = _
     unfold decBad
     rw [if_neg (fun h => h.1 rfl), if_pos rfl]
    rw [hb0, if_pos rfl]
    cases g with
    | true => rw [if_pos (by simp), if_neg (fun h => by cases h.1)]
    | false =>
     by_cases he : e = 0
     ·subst he
      rw [if_neg (by decide), if_pos ⟨rfl, rfl⟩]
     ·rw [if_pos (by simp; omega), if_neg (fun h => he h.2)]
   show Ev (fun _ => if (true : Bool) = true then (if (!(false == g) || (!((0 : Int) == ((0 : Nat) : Int)) || (!((0 : Int) == e)))) = true then (some (21 : Int)) else (some 0)) else (some 21)) _
   rw [this]
   exact Ev.now _
 ·have hb : decBad g (n : Int) e = if e < -18 ∨ 18 < e then 10 else if (n : Int) % 10 = 0 ∧ e < 18 then 21 else 0 := by
   unfold decBad
   by_cases h : e < -18 ∨ 18 < e
   ·rw [if_pos ⟨by omega, h⟩, if_pos h]
   ·rw [if_neg (fun hh => h hh.2), if_neg (by omega), if_neg h]
  have hf : ∀ k, forebayref03_Check.f k g (n : Int) e = forebayref03_Check.j0 k (decide (e < -18 ∨ 18 < e)) g (n : Int) e := by
   intro k
   unfold forebayref03_Check.f
   rw [if_neg (by omega)]
   by_cases h1 : e < -18
   ·rw [if_pos h1, decide_eq_true (.inl h1)]
   ·rw [if_neg h1]
    by_cases h2 : 18 < e
    ·rw [decide_eq_true (show e > 18 from h2), decide_eq_true (.inr h2)]
    ·rw [decide_eq_false (show ¬ e > 18 from h2), decide_eq_false (by omega)]
  refine Ev.congr hf ?_
  rw [hb]
  by_cases h : e < -18 ∨ 18 < e
  ·rw [if_pos h, decide_eq_true h]
   refine Ev.step (f := fun _ => some 10) (fun k => ?_) (Ev.now _)
   simp only [forebayref03_Check.j0]
   exact if_pos trivial
  ·rw [if_neg h, decide_eq_false h]
   obtain ⟨n', e', hev, h3, h4⟩ := make_ev g n e (by omega) hn (by omega) (by omega)
   refine Ev.step (f := fun k => (forebayref03_Digits.f k (n : Int)).bind fun t106 => ((forebayref03_Make.f k g t106 e).bind fun bt107 => (if bt107.2.2.2 = true then (if (!(bt107.1 == g) || (!(bt107.2.1 == (n : Int)) || (!(bt107.2.2.1 == e)))) = true then (some 21) else (some 0)) else (some 21)))) (fun k => ?_) ?_
   ·simp only [forebayref03_Check.j0]
    rw [if_neg (by decide)]
   ·refine Ev.bind hdig (Ev.bind hev ?_)
    have : (if (true : Bool) = true then (if (!(g == g) || (!((n' : Int) == (n : Int)) || (!(e' == e)))) = true then (some (21 : Int)) else (some 0)) else (some 21)) = some (if (n : Int) % 10 = 0 ∧ e < 18 then 21 else 0) := by
     rw [if_pos rfl]
     by_cases hz : n % 10 = 0 ∧ e < 18
     ·have := h3 hz
      rw [if_pos (show (!(g == g) || (!((n' : Int) == (n : Int)) || (!(e' == e)))) = true by rw [show (e' == e) = false from beq_eq_false_iff_ne.mpr (by omega)]; simp), if_pos (by omega)]
     ·obtain ⟨rfl, rfl⟩ := h4 hz
      rw [if_neg (by simp), if_neg (by omega)]
    show Ev (fun _ => if (true : Bool) = true then (if (!(g == g) || (!((n' : Int) == (n : Int)) || (!(e' == e)))) = true then (some (21 : Int)) else (some 0)) else (some 21)) _
    rw [this]
    exact Ev.now _
end Go.Proofs.Yteamldgngknmfaa.PE
