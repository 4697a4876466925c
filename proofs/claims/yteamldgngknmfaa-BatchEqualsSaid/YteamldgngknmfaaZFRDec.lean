/- The document's answer for numbers tells what package dec's Check tells; plain; no condition. -/
import Derived.Test.YteamldgngknmfaaZFLawMetC
import Derived.Test.YteamldgngknmfaaZFPEx6
namespace Go.Proofs.Yteamldgngknmfaa.PE
open Go.RowKit Go.Proofs.YteamldgngknmfaaW.PrintWords Go.Proofs.YteamldgngknmfaaW.PrintLast Go.Proofs.YteamldgngknmfaaW.PrintMore Go.Proofs.Yteamldgngknmfaa
set_option linter.unusedVariables false
set_option linter.unusedSimpArgs false
def dgS (n : Nat) : ByteArray := ⟨(dg n).toArray⟩
theorem dgS_size (n : Nat) : (dgS n).size = (dg n).length := by simp [dgS, ByteArray.size]
theorem dgS_list (n : Nat) : (dgS n).toList = dg n := by rw [ByteArray.toList_eq]; simp [dgS]
theorem dg1_fin : ∀ d : Fin 10, (⟨#[48, 49, 50, 51, 52, 53, 54, 55, 56, 57]⟩ : ByteArray).extract d.val (d.val + 1) = ⟨#[UInt8.ofNat (48 + d.val)]⟩ := by decide +kernel
theorem dg1 (d : Nat) (h : d < 10) : (⟨#[48, 49, 50, 51, 52, 53, 54, 55, 56, 57]⟩ : ByteArray).extract d (d + 1) = ⟨#[UInt8.ofNat (48 + d)]⟩ := dg1_fin ⟨d, h⟩
theorem u64_id (x : Int) (h : 0 ≤ x ∧ x < 18446744073709551616) : IntKind.u64.wrap x = x := IntWalk.u64_in _ (by omega)
theorem digits_ev : ∀ (m n : Nat), n ≤ m → n < 18446744073709551616 → Ev (fun k => forebayref03_Digits.f k (n : Int)) (dgS n) := by
 intro m
 induction m with
 | zero =>
  intro n hn hb
  obtain rfl : n = 0 := by omega
  refine Ev.step (f := fun _ => some (dgS 0)) (fun k => ?_) (Ev.now _)
  simp only [forebayref03_Digits.f]
  rw [if_pos (by decide), if_pos (by decide), if_pos (by decide), if_pos (by decide)]
  decide +kernel
 | succ m ih =>
  intro n hn hb
  by_cases h : n < 10
  ·refine Ev.step (f := fun _ => some (dgS n)) (fun k => ?_) (Ev.now _)
   simp only [forebayref03_Digits.f]
   rw [u64_id ((n : Int) + 1) (by omega), if_pos (by omega), if_pos (by omega), if_pos (by omega), if_pos (by omega), show ((n : Int)).toNat = n by omega, show ((n : Int) + 1).toNat = n + 1 by omega, dg1 n h]
   unfold dgS
   rw [dg_small h]
  ·have h1 := ih (n / 10) (by omega) (by omega)
   have e1 : Int.tdiv (n : Int) 10 = ((n / 10 : Nat) : Int) := by rw [Int.tdiv_eq_ediv_of_nonneg (by omega)]; omega
   have e2 : Int.tmod (n : Int) 10 = ((n % 10 : Nat) : Int) := by rw [Int.tmod_eq_emod_of_nonneg (by omega)]; omega
   have hm : n % 10 < 10 := Nat.mod_lt _ (by omega)
   have hl := dg_len 19 (n / 10) (by omega)
   refine Ev.step (f := fun k => (forebayref03_Digits.f k ((n / 10 : Nat) : Int)).bind fun t => if t.size + (⟨#[UInt8.ofNat (48 + n % 10)]⟩ : ByteArray).size ≤ 9223372036854775807 then some (t ++ ⟨#[UInt8.ofNat (48 + n % 10)]⟩) else none) (fun k => ?_) ?_
   ·simp only [forebayref03_Digits.f]
    rw [if_neg (by omega), e1, e2, u64_id ((n / 10 : Nat) : Int) (by omega), u64_id (((n % 10 : Nat) : Int) + 1) (by omega)]
    simp only [if_pos (show (0 : Int) ≤ ((n % 10 : Nat) : Int) by omega), if_pos (show ((n % 10 : Nat) : Int) ≤ ((n % 10 : Nat) : Int) + 1 by omega), if_pos (show ((n % 10 : Nat) : Int) + 1 ≤ 10 by omega), show (((n % 10 : Nat) : Int)).toNat = n % 10 by omega, show (((n % 10 : Nat) : Int) + 1).toNat = n % 10 + 1 by omega, dg1 (n % 10) hm]
   ·refine Ev.bind h1 ?_
    have e : dgS (n / 10) ++ (⟨#[UInt8.ofNat (48 + n % 10)]⟩ : ByteArray) = dgS n := by
     unfold dgS
     rw [dg_big (show 10 ≤ n by omega)]
     apply ByteArray.ext
     simp
    simp only [if_pos (show (dgS (n / 10)).size + (⟨#[UInt8.ofNat (48 + n % 10)]⟩ : ByteArray).size ≤ 9223372036854775807 by rw [dgS_size]; show _ + 1 ≤ _; omega), e]
    exact Ev.now _
theorem dgS_last (n : Nat) : bt (dgS n) (((dgS n).size : Int) - 1) = 48 + ((n % 10 : Nat) : Int) := by
 obtain ⟨l, hl⟩ := dg_last n
 have hs : (dgS n).size = l.length + 1 := by rw [dgS_size, hl]; simp
 have hm : n % 10 < 10 := Nat.mod_lt _ (by omega)
 unfold bt
 rw [dif_pos (show (((dgS n).size : Int) - 1).toNat < (dgS n).size by omega)]
 have hlt : (((dgS n).size : Int) - 1).toNat < (dgS n).size := by omega
 have e : (dgS n)[(((dgS n).size : Int) - 1).toNat]'hlt = UInt8.ofNat (48 + n % 10) := by
  have h1 : (((dgS n).size : Int) - 1).toNat = l.length := by omega
  have hx : (dg n)[(((dgS n).size : Int) - 1).toNat]? = some ((dgS n)[(((dgS n).size : Int) - 1).toNat]'hlt) := by
   rw [List.getElem?_eq_getElem (by rw [← dgS_size]; exact hlt)]
   rfl
  have hy : (dg n)[l.length]? = some (UInt8.ofNat (48 + n % 10)) := by rw [hl]; simp
  rw [← h1] at hy
  exact Option.some.inj (hx.symm.trans hy)
 rw [e]
 simp only [UInt8.toNat_ofNat']
 omega
theorem dgS_first (n : Nat) (h : 1 ≤ n) : bt (dgS n) 0 ≠ 48 := by
 have hs : 0 < (dgS n).size := by rw [dgS_size]; exact dg_pos n
 unfold bt
 rw [dif_pos (show ((0 : Int)).toNat < (dgS n).size by simpa using hs)]
 intro hh
 have hx : (dg n)[0]? = some ((dgS n)[(0 : Int).toNat]'(by simpa using hs)) := by
  rw [List.getElem?_eq_getElem (by rw [← dgS_size]; exact hs)]
  rfl
 exact dg_head n n (Nat.le_refl _) h _ hx (by omega)
theorem dgS_cut (n : Nat) (h : 10 ≤ n) : (dgS n).extract 0 (((dgS n).size : Int) - 1).toNat = dgS (n / 10) := by
 have e := dg_big h
 have hs : (dgS n).size = (dg (n / 10)).length + 1 := by rw [dgS_size, e]; simp
 rw [show (((dgS n).size : Int) - 1).toNat = (dg (n / 10)).length by omega]
 apply ByteArray.ext
 unfold dgS
 rw [e]
 simp
theorem bt_dg (n i : Nat) (h : i < (dg n).length) : bt (dgS n) (i : Int) = (((dg n)[i]'h).toNat : Int) := by
 unfold bt
 rw [dif_pos (show ((i : Int)).toNat < (dgS n).size by rw [dgS_size]; simpa using h)]
 rfl
theorem dval_mono (xs : List UInt8) : ∀ ys : List UInt8, dval xs ≤ dval (xs ++ ys) := by
 intro ys
 induction ys generalizing xs with
 | nil => rw [List.append_nil]; exact Nat.le_refl _
 | cons y ys ih =>
  have h1 := ih (xs ++ [y])
  rw [List.append_assoc] at h1
  have h2 := dval_app xs y
  exact Nat.le_trans (by omega) h1
theorem dval_take (n i : Nat) : dval ((dg n).take i) ≤ n := by
 have h := dval_mono ((dg n).take i) ((dg n).drop i)
 rw [List.take_append_drop, dval_dg n n (Nat.le_refl _)] at h
 exact h
theorem value_l0 (n : Nat) (hn : n < 18446744073709551616) : ∀ (d i : Nat), i + d = (dg n).length → Ev (fun k => forebayref03_Value.l0 k (dgS n) ((dval ((dg n).take i) : Nat) : Int) (i : Int)) (n : Int) := by
 have hl := dg_len 19 n (by omega)
 intro d
 induction d with
 | zero =>
  intro i hi
  have e : dval ((dg n).take i) = n := by rw [List.take_of_length_le (by omega)]; exact dval_dg n n (Nat.le_refl _)
  rw [e]
  refine Ev.step (f := fun _ => some (n : Int)) (fun k => ?_) (Ev.now _)
  simp only [forebayref03_Value.l0]
  rw [if_neg (by rw [dgS_size]; omega)]
 | succ d ih =>
  intro i hi
  have hlt : i < (dg n).length := by omega
  have h1 := ih (i + 1) (by omega)
  have ht : (dg n).take (i + 1) = (dg n).take i ++ [(dg n)[i]'hlt] := by rw [List.take_succ_eq_append_getElem hlt]
  have hd := dg_digit n n (Nat.le_refl _) ((dg n)[i]'hlt) (List.getElem_mem _)
  have hv := dval_app ((dg n).take i) ((dg n)[i]'hlt)
  rw [← ht] at hv
  have hb := dval_take n (i + 1)
  refine Ev.step (f := fun k => forebayref03_Value.l0 k (dgS n) ((dval ((dg n).take (i + 1)) : Nat) : Int) ((i + 1 : Nat) : Int)) (fun k => ?_) h1
  simp only [forebayref03_Value.l0]
  rw [if_pos (by rw [dgS_size]; omega), if_pos (by omega), bt_dg n i hlt, u64_id (10 * ((dval ((dg n).take i) : Nat) : Int)) (by omega), show ((((dg n)[i]'hlt).toNat : Int) - 48) % 256 = (((dg n)[i]'hlt).toNat : Int) - 48 by omega, u64_id _ (by omega)]
  congr 1
  ·omega
  ·have := IntWalk.wrap64_in ((i : Int) + 1) (by omega)
   rw [this]
   omega
theorem value_ev (n : Nat) (hn : n < 18446744073709551616) : Ev (fun k => forebayref03_Value.f k (dgS n)) (n : Int) := by
 have h := value_l0 n hn (dg n).length 0 (by omega)
 exact h
theorem dgmax : dg 18446744073709551615 = [49, 56, 52, 52, 54, 55, 52, 52, 48, 55, 51, 55, 48, 57, 53, 53, 49, 54, 49, 53] := by
 rw [dg_big (by decide), dg_big (by decide), dg_big (by decide), dg_big (by decide), dg_big (by decide), dg_big (by decide), dg_big (by decide), dg_big (by decide), dg_big (by decide), dg_big (by decide), dg_big (by decide), dg_big (by decide), dg_big (by decide), dg_big (by decide), dg_big (by decide), dg_big (by decide), dg_big (by decide), dg_big (by decide), dg_big (by decide), dg_small (by decide)]
 decide +kernel
theorem fits_ok (n : Nat) (hn : n < 18446744073709551616) : forebayref03_Fits.f (dgS n) = some true := by
 have hs := dgS_size n
 unfold forebayref03_Fits.f
 rcases dg_fits n hn with h | ⟨h1, h2⟩
 ·rw [if_pos (by omega)]
 ·rw [if_neg (by omega), if_pos (by omega), dgS_list, ← dgmax, ← bytes_leq, h2]
theorem l2_ev (g : Bool) (n : Nat) (e : Int) (hn : n < 18446744073709551616) (he : -18 ≤ e ∧ e ≤ 18) : Ev (fun k => forebayref03_Make.l2 k g (dgS n) e) (g, (n : Int), e, true) := by
 refine Ev.step (f := fun k => (forebayref03_Value.f k (dgS n)).bind fun t => some (g, t, e, true)) (fun k => ?_) (Ev.bind (value_ev n hn) (Ev.now _))
 simp only [forebayref03_Make.l2]
 rw [if_neg (by omega), if_neg (by omega), fits_ok n hn]
 rfl
theorem make0_ev (g : Bool) (e : Int) : Ev (fun k => forebayref03_Make.f k g (dgS 0) e) (false, 0, 0, true) := by
 have e0 : dgS 0 = ⟨#[48]⟩ := by unfold dgS; rw [dg_small (by decide)]; rfl
 rw [e0]
 show Ev (fun k => forebayref03_Make.l0 k g ⟨#[48]⟩ e) _
 refine Ev.step (f := fun k => forebayref03_Make.l0 k g ⟨#[]⟩ e) (fun k => ?_) (Ev.step (f := fun k => forebayref03_Make.j1 k g ⟨#[]⟩ e) (fun k => ?_) (Ev.step (f := fun k => some (false, 0, 0, true)) (fun k => ?_) (Ev.now _)))
 ·simp only [forebayref03_Make.l0]
  rw [if_pos (by decide), if_pos (by decide), if_pos (by decide), if_pos (by decide)]
  rfl
 ·simp only [forebayref03_Make.l0]
  rw [if_neg (by decide)]
 ·simp only [forebayref03_Make.j1]
  rw [if_pos (by rw [ByteArray.toList_eq])]
end Go.Proofs.Yteamldgngknmfaa.PE
