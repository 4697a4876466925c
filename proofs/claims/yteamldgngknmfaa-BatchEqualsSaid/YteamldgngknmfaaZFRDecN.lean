/- The document's one form of a number is package dec's; plain; no condition. -/
import Derived.Test.YteamldgngknmfaaZFRDec
import Derived.Test.YteamldgngknmfaaZFDecEv
import Derived.Test.YteamldgngknmfaaZFPEx9
namespace Go.Proofs.Yteamldgngknmfaa.PE
open Go.RowKit Go.Proofs.YteamldgngknmfaaW.PrintWords Go.Proofs.YteamldgngknmfaaW.PrintLast Go.Proofs.YteamldgngknmfaaW.PrintMore Go.Proofs.Yteamldgngknmfaa
set_option linter.unusedVariables false
set_option linter.unusedSimpArgs false
theorem fits_no (n : Nat) (hn : 18446744073709551616 ≤ n) : forebayref03_Fits.f (dgS n) = some false := by
 have hs := dgS_size n
 have hm := dg_mono 18446744073709551615 18446744073709551615 n (Nat.le_refl _) (by omega)
 have hl : (dg 18446744073709551615).length = 20 := by rw [dgmax]; rfl
 unfold forebayref03_Fits.f
 by_cases h : (dg n).length = 20
 ·have h2 := dg_lt 18446744073709551615 18446744073709551615 n (Nat.le_refl _) (by omega) (by omega)
  rw [if_neg (by omega), if_pos (by omega), dgS_list, ← dgmax, h2]
  rfl
 ·rw [if_neg (by omega), if_neg (by omega)]
def badM : Bool × Int × Int × Bool := (false, 0, 0, false)
theorem l2_up (g : Bool) : ∀ (d n : Nat), 1 ≤ n → (dg n).length + d ≤ 2000 → Ev (fun k => forebayref03_Make.l2 k g (dgS n) (18 + (d : Int))) (if n * 10 ^ d < 18446744073709551616 then (g, ((n * 10 ^ d : Nat) : Int), 18, true) else badM) := by
 intro d
 induction d with
 | zero =>
  intro n h1 h2
  rw [Nat.pow_zero, Nat.mul_one]
  by_cases h : n < 18446744073709551616
  ·rw [if_pos h]
   exact l2_ev g n 18 h (by omega)
  ·rw [if_neg h]
   refine Ev.step (f := fun _ => some badM) (fun k => ?_) (Ev.now _)
   simp only [forebayref03_Make.l2]
   rw [if_neg (by omega), if_neg (by omega), fits_no n (by omega)]
   rfl
 | succ d ih =>
  intro n h1 h2
  have hs := dgS_size n
  have hb := dg_big (n := n * 10) (by omega)
  rw [Nat.mul_div_cancel n (by decide), show n * 10 % 10 = 0 by omega] at hb
  have hl : (dg (n * 10)).length = (dg n).length + 1 := by rw [hb]; simp
  have e : dgS n ++ (⟨#[48]⟩ : ByteArray) = dgS (n * 10) := by
   unfold dgS
   rw [hb]
   apply ByteArray.ext
   simp
  have h := ih (n * 10) (by omega) (by omega)
  rw [show n * 10 * 10 ^ d = n * 10 ^ (d + 1) by rw [Nat.pow_succ, Nat.mul_assoc, Nat.mul_comm 10]] at h
  refine Ev.step (fun k => ?_) h
  simp only [forebayref03_Make.l2]
  rw [if_pos (by omega), if_pos (by omega), e, show wrap64 (18 + ((d + 1 : Nat) : Int) - 1) = 18 + (d : Int) by rw [IntWalk.wrap64_in _ (by omega)]; omega]
def resM (g : Bool) (c : Nat) (e : Int) : Bool × Int × Int × Bool := match lift c e with
 | none => badM
 | some (c2, e2) => if e2 < -18 then badM else (g, (c2 : Int), e2, true)
theorem l2_all (g : Bool) (n : Nat) (e : Int) (h1 : 1 ≤ n) (hn : n < 18446744073709551616) (he : e ≤ 1000) : Ev (fun k => forebayref03_Make.l2 k g (dgS n) e) (resM g n e) := by
 have hl := dg_len 19 n (by omega)
 unfold resM lift
 by_cases c1 : e ≤ 18
 ·rw [if_pos c1]
  show Ev _ (if e < -18 then badM else (g, (n : Int), e, true))
  by_cases c2 : e < -18
  ·rw [if_pos c2]
   refine Ev.step (f := fun _ => some badM) (fun k => ?_) (Ev.now _)
   simp only [forebayref03_Make.l2]
   rw [if_neg (by omega), if_pos (by omega)]
   rfl
  ·rw [if_neg c2]
   exact l2_ev g n e hn (by omega)
 ·rw [if_neg c1]
  have h := l2_up g (e - 18).toNat n h1 (by omega)
  rw [show 18 + (((e - 18).toNat : Nat) : Int) = e by omega] at h
  by_cases c2 : n * 10 ^ (e - 18).toNat < 18446744073709551616
  ·rw [if_pos c2] at h ⊢
   exact h
  ·rw [if_neg c2] at h ⊢
   exact h
theorem l1_all (g : Bool) : ∀ (k n : Nat) (e : Int), 1 ≤ n → n < 10 ^ k → n < 18446744073709551616 → -9223372036854775808 ≤ e → e ≤ 1000 → Ev (fun j => forebayref03_Make.l1 j g (dgS n) e) (resM g (strip k n e).1 (strip k n e).2) := by
 intro k
 induction k with
 | zero => intro n e h1 h2; rw [Nat.pow_zero] at h2; omega
 | succ k ih =>
  intro n e h1 h2 hn hi he
  have hp := dg_pos n
  have hl := dg_len 19 n (by omega)
  have hs := dgS_size n
  have hw : wrap64 (((dgS n).size : Int) - 1) = ((dgS n).size : Int) - 1 := IntWalk.wrap64_in _ (by omega)
  have hlast := dgS_last n
  unfold strip
  by_cases h : n % 10 = 0 ∧ e < 18
  ·rw [if_pos h]
   refine Ev.step (f := fun k => forebayref03_Make.l1 k g (dgS (n / 10)) (e + 1)) (fun k => ?_) (ih (n / 10) (e + 1) (by omega) (by rw [Nat.pow_succ] at h2; omega) (by omega) (by omega) (by omega))
   simp only [forebayref03_Make.l1]
   rw [hw, if_pos h.2, if_pos (by omega), if_pos (by omega), hlast, h.1, if_pos (by decide), if_pos (by omega), dgS_cut n (by omega), IntWalk.wrap64_in (e + 1) (by omega)]
  ·rw [if_neg h]
   refine Ev.step (f := fun k => forebayref03_Make.j4 k g (dgS n) e) (fun k => ?_) (Ev.step (f := fun k => forebayref03_Make.l2 k g (dgS n) e) (fun k => by simp only [forebayref03_Make.j4]) (l2_all g n e h1 hn he))
   simp only [forebayref03_Make.l1]
   by_cases h3 : e < 18
   ·rw [hw, if_pos h3, if_pos (by omega), if_pos (by omega), hlast, if_neg (by omega)]
   ·rw [if_neg h3]
def decM (g : Bool) (c : Nat) (e : Int) : Bool × Int × Int × Bool := match decNorm g c e with
 | none => badM
 | some (g2, c2, e2) => (g2, (c2 : Int), e2, true)
theorem decM_eq (g : Bool) (n : Nat) (e : Int) (h : n ≠ 0) : decM g n e = resM g (strip 20 n e).1 (strip 20 n e).2 := by
 unfold decM decNorm resM
 rw [if_neg h]
 cases lift (strip 20 n e).1 (strip 20 n e).2 with
 | none => rfl
 | some p =>
  obtain ⟨c2, e2⟩ := p
  show (match (if e2 < -18 then none else some (g, c2, e2)) with | none => badM | some (g2, c2, e2) => (g2, (c2 : Int), e2, true)) = if e2 < -18 then badM else (g, (c2 : Int), e2, true)
  by_cases h2 : e2 < -18
  ·rw [if_pos h2, if_pos h2]
  ·rw [if_neg h2, if_neg h2]
theorem make_all (g : Bool) (n : Nat) (e : Int) (h1 : 1 ≤ n) (hn : n < 18446744073709551616) (hi : -9223372036854775808 ≤ e) : Ev (fun k => forebayref03_Make.f k g (dgS n) e) (decM g n e) := by
 have hp := dg_pos n
 have hs := dgS_size n
 have h20 : n < 10 ^ 20 := by omega
 show Ev (fun k => forebayref03_Make.l0 k g (dgS n) e) _
 have key : ∀ (b : Bool), (e > 1000 → b = true) → (¬ e > 1000 → b = decide (e < -1000000)) → Ev (fun k => forebayref03_Make.j2 k g (dgS n) e b) (decM g n e) → Ev (fun k => forebayref03_Make.l0 k g (dgS n) e) (decM g n e) := by
  intro b hb1 hb2 hev
  refine Ev.step (f := fun k => forebayref03_Make.j1 k g (dgS n) e) (fun k => ?_) (Ev.step (fun k => ?_) hev)
  ·simp only [forebayref03_Make.l0]
   rw [if_pos (by omega), if_pos (by omega), if_neg (dgS_first n h1)]
  ·simp only [forebayref03_Make.j1]
   rw [if_neg (show ¬ (dgS n).toList = [] by rw [dgS_list]; intro h; rw [h] at hp; simp at hp)]
   by_cases h : e > 1000
   ·rw [if_pos h, hb1 h]
   ·rw [if_neg h, hb2 h]
 rw [decM_eq g n e (by omega)] at key ⊢
 have hsp := strip_spec 20 n e h1 h20
 by_cases c1 : e > 1000
 ·refine key true (fun _ => rfl) (fun h => absurd c1 h) (Ev.step (f := fun _ => some badM) (fun k => by simp only [forebayref03_Make.j2]; exact if_pos trivial) ?_)
  rw [strip_no 20 n e (by omega)]
  show Ev _ (resM g n e)
  unfold resM lift
  have hpow : 10 ^ 20 ≤ 10 ^ (e - 18).toNat := Nat.pow_le_pow_right (by decide) (by omega)
  have hbig : 10 ^ (e - 18).toNat ≤ n * 10 ^ (e - 18).toNat := Nat.le_mul_of_pos_left _ h1
  rw [if_neg (by omega), if_neg (by omega)]
  exact Ev.now _
 ·by_cases c2 : e < -1000000
  ·refine key true (fun _ => rfl) (fun _ => (decide_eq_true c2).symm) (Ev.step (f := fun _ => some badM) (fun k => by simp only [forebayref03_Make.j2]; exact if_pos trivial) ?_)
   unfold resM lift
   rw [if_pos (by omega)]
   show Ev _ (if (strip 20 n e).2 < -18 then badM else _)
   rw [if_pos (by omega)]
   exact Ev.now _
  ·refine key false (fun h => absurd h c1) (fun _ => (decide_eq_false c2).symm) (Ev.step (f := fun k => forebayref03_Make.l1 k g (dgS n) e) (fun k => by simp only [forebayref03_Make.j2]; rw [if_neg (by decide)]) ?_)
   exact l1_all g 20 n e h1 h20 hn hi (by omega)
theorem refnorm_ev (g : Bool) (c e : Int) (hc : 0 ≤ c ∧ c < 18446744073709551616) (hi : -9223372036854775808 ≤ e) : Ev (fun k => forebayref03_Normal.f k g c e) (decR g c.toNat e) := by
 obtain ⟨n, rfl⟩ : ∃ n : Nat, c = (n : Int) := ⟨c.toNat, by omega⟩
 rw [Int.toNat_natCast]
 have hn : n < 18446744073709551616 := by omega
 have hm : Ev (fun k => forebayref03_Make.f k g (dgS n) e) (decM g n e) := by
  by_cases h0 : n = 0
  ·subst h0
   exact make0_ev g e
  ·exact make_all g n e (by omega) hn hi
 unfold forebayref03_Normal.f
 refine Ev.bind (digits_ev n n (Nat.le_refl _) hn) (Ev.bind hm ?_)
 unfold decM decR
 cases decNorm g n e with
 | none => exact Ev.congr (fun k => if_neg (by decide)) (Ev.now _)
 | some p => exact Ev.congr (fun k => if_pos rfl) (Ev.now _)
end Go.Proofs.Yteamldgngknmfaa.PE
