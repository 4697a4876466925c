/- The document's answer for metrics tells what package metric's Check tells; plain; no condition. -/
import Derived.Test.YteamldgngknmfaaZFRDec
import Derived.Test.YteamldgngknmfaaZFLawMetC
import Derived.Test.YteamldgngknmfaaZFPEx8
namespace Go.Proofs.Yteamldgngknmfaa.PE
open Go.RowKit Go.Proofs.YteamldgngknmfaaW.PrintWords Go.Proofs.YteamldgngknmfaaW.PrintLast Go.Proofs.YteamldgngknmfaaW.PrintMore Go.Proofs.Yteamldgngknmfaa
set_option linter.unusedVariables false
set_option linter.unusedSimpArgs false
theorem txOk_iff (c : Int) (s : ByteArray) (lo hi : Int) (hc : betB c 1 4 = true) (hl : 0 ≤ lo ∧ lo ≤ hi) : txOk c s lo hi = true ↔ lo ≤ (s.size : Int) ∧ (s.size : Int) ≤ hi ∧ badI (clsB c) s < 0 := by
 unfold txOk textW
 rw [if_neg (by rw [hc]; simp; omega)]
 by_cases h1 : (s.size : Int) < lo
 ·rw [if_pos h1]
  simp
  omega
 ·rw [if_neg h1]
  by_cases h2 : hi < (s.size : Int)
  ·rw [if_pos h2]
   simp
   omega
  ·rw [if_neg h2]
   by_cases h3 : 0 ≤ badI (clsB c) s
   ·rw [if_pos h3]
    simp
    omega
   ·rw [if_neg h3]
    simp
    omega
theorem reftag (k v : ByteArray) (hk : k.size ≤ 9223372036854775807) (hv : v.size ≤ 9223372036854775807) : forebayref06_Check.f k v = some (tagBad k v) := by
 have h1 : forebayref04_Text.f 2 k 1 64 = some (textW 2 k 1 64) := by unfold forebayref04_Text.f; rw [if_pos ⟨by decide, by omega, hk⟩]
 have h2 : forebayref04_Text.f 3 v 0 100 = some (textW 3 v 0 100) := by unfold forebayref04_Text.f; rw [if_pos ⟨by decide, by omega, hv⟩]
 unfold forebayref06_Check.f forebayref06_Right.f
 rw [h1, h2]
 simp only [Option.bind_some]
 unfold tagBad
 have e1 : ((textW 2 k 1 64).1 == 0 && ((textW 2 k 1 64).2 == 0)) = txOk 2 k 1 64 := rfl
 have e2 : ((textW 3 v 0 100).1 == 0 && ((textW 3 v 0 100).2 == 0)) = txOk 3 v 0 100 := rfl
 rw [e1, e2]
 generalize txOk 2 k 1 64 = x
 generalize txOk 3 v 0 100 = y
 cases x <;> cases y <;> rfl
theorem cls1 (b : Int) : clsB 1 b = nameB b := by unfold clsB; simp
theorem nameB_iff (b : Int) : nameB b = true ↔ (65 ≤ b ∧ b ≤ 90) ∨ (97 ≤ b ∧ b ≤ 122) ∨ b = 95 ∨ b = 46 ∨ b = 45 ∨ (48 ≤ b ∧ b ≤ 57) := by
 unfold nameB betB
 simp [or_assoc]
theorem name_ev (s : ByteArray) (hs : s.size ≤ 9223372036854775807) : ∀ (d i : Nat), i + d = s.size → Ev (fun k => forebayref07_Name.l0 k s (i : Int)) (decide (badF (clsB 1) s (s.size - i) i < 0) && (decide (1 ≤ s.size) && decide (s.size ≤ 200))) := by
 intro d
 induction d with
 | zero =>
  intro i hi
  have hz : s.size - i = 0 := by omega
  rw [hz, show badF (clsB 1) s 0 i = -1 from rfl]
  refine Ev.step (f := fun _ => some (decide (1 ≤ s.size) && decide (s.size ≤ 200))) (fun k => ?_) (by simpa using Ev.now _)
  simp only [forebayref07_Name.l0]
  rw [if_neg (by omega)]
  by_cases h1 : 1 ≤ s.size
  ·rw [if_pos (by omega), decide_eq_true h1]
   by_cases h2 : s.size ≤ 200
   ·rw [decide_eq_true h2, decide_eq_true (by omega)]
    rfl
   ·rw [decide_eq_false h2, decide_eq_false (by omega)]
    rfl
  ·rw [if_neg (by omega), decide_eq_false h1]
   rfl
 | succ d ih =>
  intro i hi
  have h1 := ih (i + 1) (by omega)
  rw [badF_succ (clsB 1) s i (by omega), cls1]
  by_cases hb : nameB (bt s (i : Nat)) = true
  ·rw [if_pos hb]
   refine Ev.step (f := fun k => forebayref07_Name.l0 k s ((i + 1 : Nat) : Int)) (fun k => ?_) h1
   simp only [forebayref07_Name.l0]
   rw [if_pos (by omega), if_pos (by omega), IntWalk.wrap64_in ((i : Int) + 1) (by omega), show (i : Int) + 1 = ((i + 1 : Nat) : Int) by omega]
   have hp := (nameB_iff _).1 hb
   generalize bt s (i : Int) = b at hp
   generalize forebayref07_Name.l0 k s ((i + 1 : Nat) : Int) = R
   repeat' split
   all_goals first | rfl | (exfalso; omega)
  ·rw [if_neg hb]
   refine Ev.step (f := fun k => some false) (fun k => ?_) (by rw [show decide (((i : Nat) : Int) < 0) = false from decide_eq_false (by omega)]; exact Ev.now _)
   simp only [forebayref07_Name.l0]
   rw [if_pos (by omega), if_pos (by omega)]
   have hp : ¬ _ := fun h => hb ((nameB_iff _).2 h)
   generalize bt s (i : Int) = b at hp
   generalize forebayref07_Name.l0 k s (wrap64 ((i : Int) + 1)) = R
   repeat' split
   all_goals first | rfl | (exfalso; omega)
theorem name_eq (m : S25) (hs : m.f0.size ≤ 9223372036854775807) : Ev (fun k => forebayref07_Name.f k m.f0) (metPart m 0) := by
 have h := name_ev m.f0 hs m.f0.size 0 (by omega)
 have e : metPart m 0 = (decide (badF (clsB 1) m.f0 (m.f0.size - 0) 0 < 0) && (decide (1 ≤ m.f0.size) && decide (m.f0.size ≤ 200))) := by
  show txOk 1 m.f0 1 200 = _
  rw [Bool.eq_iff_iff, txOk_iff 1 m.f0 1 200 (by decide) (by omega)]
  simp only [Bool.and_eq_true, decide_eq_true_eq]
  unfold badI
  rw [Nat.sub_zero]
  omega
 rw [e]
 exact h
def restTail (m : S25) : Int := if metPart m 5 = true then 0 else 20
theorem tags_ev (m : S25) (hm : metIn m = true) (hl : m.f4.length ≤ 1000) : ∀ (d i : Nat), i + d = m.f4.length →
  Ev (fun k => forebayref07_Rest.l0 k (i : Int) m.f0 m.f1 m.f2 m.f3 m.f4 m.f5) (if (m.f4.drop i).any tagW = true then 19 else restTail m) := by
 intro d
 induction d with
 | zero =>
  intro i hi
  rw [List.drop_of_length_le (by omega)]
  refine Ev.step (f := fun _ => some (restTail m)) (fun k => ?_) (Ev.now _)
  simp only [forebayref07_Rest.l0]
  rw [if_neg (by omega)]
  unfold restTail
  show _ = some (if betB m.f5 0 1099511627776 = true then 0 else 20)
  unfold betB
  by_cases h1 : m.f5 < 0
  ·rw [if_pos h1, if_neg (by simp; omega)]
  ·rw [if_neg h1]
   by_cases h2 : m.f5 > 1099511627776
   ·rw [if_pos h2, if_neg (by simp; omega)]
   ·rw [if_neg h2, if_pos (by simp; omega)]
 | succ d ih =>
  intro i hi
  have hlt : i < m.f4.length := by omega
  have h1 := ih (i + 1) (by omega)
  have hx : rd_T37 m.f4 (i : Int) = m.f4[i]'hlt := by
   unfold rd_T37
   rw [Int.toNat_natCast, List.getD_eq_getElem?_getD, List.getElem?_eq_getElem hlt]
   rfl
  have hin : tagIn (m.f4[i]'hlt) = true := by
   unfold metIn at hm
   simp only [Bool.and_eq_true, List.all_eq_true] at hm
   exact hm.2.2 _ (List.getElem_mem _)
  unfold tagIn at hin
  simp only [Bool.and_eq_true, decide_eq_true_eq] at hin
  rw [List.drop_eq_getElem_cons hlt, List.any_cons]
  have hr := reftag (m.f4[i]'hlt).f0 (m.f4[i]'hlt).f1 hin.1 hin.2
  by_cases ht : tagBad (m.f4[i]'hlt).f0 (m.f4[i]'hlt).f1 = 0
  ·rw [show tagW (m.f4[i]'hlt) = false from by unfold tagW; rw [ht]; rfl, Bool.false_or]
   refine Ev.step (f := fun k => forebayref07_Rest.l0 k ((i + 1 : Nat) : Int) m.f0 m.f1 m.f2 m.f3 m.f4 m.f5) (fun k => ?_) h1
   simp only [forebayref07_Rest.l0]
   rw [if_pos (by omega), if_pos (by omega), hx, hr, Option.bind_some, if_pos ht, IntWalk.wrap64_in ((i : Int) + 1) (by omega), show (i : Int) + 1 = ((i + 1 : Nat) : Int) by omega]
  ·rw [show tagW (m.f4[i]'hlt) = true from by unfold tagW; exact bne_iff_ne.mpr ht, Bool.true_or, if_pos rfl]
   refine Ev.step (f := fun _ => some 19) (fun k => ?_) (Ev.now _)
   simp only [forebayref07_Rest.l0]
   rw [if_pos (by omega), if_pos (by omega), hx, hr, Option.bind_some, if_neg ht]
def restBad (m : S25) (b : Bool) : Int :=
 if metPart m 0 = false then 15 else if metPart m 1 = false then 16 else if (b && betB m.f2.length 1 64) = false then 17 else if metPart m 3 = false then 18 else if metPart m 4 = false then 19 else restTail m
theorem rest_ev (m : S25) (b : Bool) (hm : metIn m = true) : Ev (fun k => forebayref07_Rest.f k m.f0 m.f1 m.f2 m.f3 m.f4 m.f5 b) (restBad m b) := by
 have hs : m.f0.size ≤ 9223372036854775807 := by
  unfold metIn at hm
  simp only [Bool.and_eq_true, decide_eq_true_eq] at hm
  exact hm.1
 unfold forebayref07_Rest.f restBad
 refine Ev.bind (name_eq m hs) ?_
 cases h0 : metPart m 0 with
 | false => exact Ev.now _
 | true =>
  rw [if_neg (by decide)]
  -- the tail behind the rate
  have hj2 : ∀ x : Bool, Ev (fun k => forebayref07_Rest.j2 k x m.f0 m.f1 m.f2 m.f3 m.f4 m.f5) (if x = true then 18 else if metPart m 4 = false then 19 else restTail m) := by
   intro x
   cases x with
   | true => exact Ev.step (f := fun _ => some 18) (fun k => by simp only [forebayref07_Rest.j2]; rfl) (Ev.now _)
   | false =>
    rw [if_neg (by decide)]
    have e4 : metPart m 4 = (decide ((m.f4.length : Int) ≤ 32) && !(m.f4.any tagW)) := rfl
    by_cases hl : (m.f4.length : Int) ≤ 32
    ·have h4 := tags_ev m hm (by omega) m.f4.length 0 (by omega)
     rw [List.drop_zero] at h4
     have e5 : (if metPart m 4 = false then 19 else restTail m) = (if m.f4.any tagW = true then 19 else restTail m) := by
      rw [e4, decide_eq_true hl]
      cases m.f4.any tagW <;> rfl
     rw [e5]
     refine Ev.step (fun k => ?_) h4
     simp only [forebayref07_Rest.j2]
     rw [if_neg (by decide), if_neg (by omega)]
     rfl
    ·rw [e4, decide_eq_false hl, Bool.false_and, if_pos rfl]
     refine Ev.step (f := fun _ => some 19) (fun k => ?_) (Ev.now _)
     simp only [forebayref07_Rest.j2]
     rw [if_neg (by decide), if_pos (by omega)]
  have hrate : Ev (fun k => forebayref07_Rest.j1 k false m.f0 m.f1 m.f2 m.f3 m.f4 m.f5) (if metPart m 3 = false then 18 else if metPart m 4 = false then 19 else restTail m) := by
   have e3 : metPart m 3 = (betB m.f3 1 1000000 && (m.f1 != 2 || m.f3 == 1000000)) := rfl
   by_cases h1 : m.f3 < 1
   ·have e := hj2 true
    rw [if_pos rfl] at e
    rw [e3, show betB m.f3 1 1000000 = false from by unfold betB; rw [decide_eq_false (by omega)]; rfl, Bool.false_and, if_pos rfl]
    exact Ev.step (fun k => by simp only [forebayref07_Rest.j1]; rw [if_neg (by decide), if_pos h1]) e
   ·by_cases h2 : m.f3 > 1000000
    ·have e := hj2 true
     rw [if_pos rfl] at e
     rw [e3, show betB m.f3 1 1000000 = false from by unfold betB; rw [decide_eq_false (show ¬ m.f3 ≤ 1000000 by omega), Bool.and_false], Bool.false_and, if_pos rfl]
     exact Ev.step (fun k => by simp only [forebayref07_Rest.j1]; rw [if_neg (by decide), if_neg h1, if_pos h2]) e
    ·have eb : betB m.f3 1 1000000 = true := by unfold betB; rw [decide_eq_true (show 1 ≤ m.f3 by omega), decide_eq_true (show m.f3 ≤ 1000000 by omega)]; rfl
     by_cases h3 : m.f1 = 2
     ·have e := hj2 (m.f3 != 1000000)
      have e6 : (if (m.f3 != 1000000) = true then 18 else if metPart m 4 = false then 19 else restTail m) = (if metPart m 3 = false then 18 else if metPart m 4 = false then 19 else restTail m) := by
       rw [e3, eb, h3]
       cases hq : (m.f3 == 1000000) with
       | true => rw [show (m.f3 != 1000000) = false from by simp [bne, hq]]; rfl
       | false => rw [show (m.f3 != 1000000) = true from by simp [bne, hq]]; rfl
      rw [← e6]
      exact Ev.step (fun k => by simp only [forebayref07_Rest.j1]; rw [if_neg (by decide), if_neg h1, if_neg h2, if_pos h3]) e
     ·have e := hj2 false
      rw [if_neg (by decide)] at e
      rw [e3, eb, show (m.f1 != 2) = true from bne_iff_ne.mpr h3, Bool.true_or, Bool.true_and, if_neg (by decide)]
      exact Ev.step (fun k => by simp only [forebayref07_Rest.j1]; rw [if_neg (by decide), if_neg h1, if_neg h2, if_neg h3]) e
  have hj1 : ∀ x : Bool, Ev (fun k => forebayref07_Rest.j1 k x m.f0 m.f1 m.f2 m.f3 m.f4 m.f5) (if x = true then 17 else if metPart m 3 = false then 18 else if metPart m 4 = false then 19 else restTail m) := by
   intro x
   cases x with
   | true => exact Ev.step (f := fun _ => some 17) (fun k => by simp only [forebayref07_Rest.j1]; rfl) (Ev.now _)
   | false =>
    rw [if_neg (by decide)]
    exact hrate
  have hvals : Ev (fun k => forebayref07_Rest.j0 k b false m.f0 m.f1 m.f2 m.f3 m.f4 m.f5) (if (b && betB m.f2.length 1 64) = false then 17 else if metPart m 3 = false then 18 else if metPart m 4 = false then 19 else restTail m) := by
   cases b with
   | false =>
    have e := hj1 true
    rw [if_pos rfl] at e
    exact Ev.step (fun k => by simp only [forebayref07_Rest.j0]; rw [if_neg (by decide), if_neg (by decide)]) e
   | true =>
    rw [Bool.true_and]
    by_cases h1 : (m.f2.length : Int) < 1
    ·have e := hj1 true
     rw [if_pos rfl] at e
     rw [show betB m.f2.length 1 64 = false from by unfold betB; rw [decide_eq_false (by omega)]; rfl, if_pos rfl]
     exact Ev.step (fun k => by simp only [forebayref07_Rest.j0]; rw [if_neg (by decide), if_pos trivial, if_pos h1]) e
    ·have e := hj1 (decide ((m.f2.length : Int) > 64))
     have e7 : (if decide ((m.f2.length : Int) > 64) = true then 17 else if metPart m 3 = false then 18 else if metPart m 4 = false then 19 else restTail m) = (if betB m.f2.length 1 64 = false then 17 else if metPart m 3 = false then 18 else if metPart m 4 = false then 19 else restTail m) := by
      by_cases h2 : (m.f2.length : Int) > 64
      ·rw [if_pos (decide_eq_true h2), if_pos (by unfold betB; rw [decide_eq_false (show ¬ (m.f2.length : Int) ≤ 64 by omega), Bool.and_false])]
      ·have hb64 : betB m.f2.length 1 64 = true := by unfold betB; rw [decide_eq_true (show 1 ≤ (m.f2.length : Int) by omega), decide_eq_true (show (m.f2.length : Int) ≤ 64 by omega)]; rfl
       rw [hb64, decide_eq_false h2]
       rfl
     rw [← e7]
     exact Ev.step (fun k => by simp only [forebayref07_Rest.j0]; rw [if_neg (by decide), if_pos trivial, if_neg h1]) e
  have hj0 : ∀ x : Bool, Ev (fun k => forebayref07_Rest.j0 k b x m.f0 m.f1 m.f2 m.f3 m.f4 m.f5) (if x = true then 16 else if (b && betB m.f2.length 1 64) = false then 17 else if metPart m 3 = false then 18 else if metPart m 4 = false then 19 else restTail m) := by
   intro x
   cases x with
   | true => exact Ev.step (f := fun _ => some 16) (fun k => by simp only [forebayref07_Rest.j0]; rfl) (Ev.now _)
   | false =>
    rw [if_neg (by decide)]
    exact hvals
  have e1 : metPart m 1 = betB m.f1 1 5 := rfl
  by_cases h1 : m.f1 < 1
  ·have e := hj0 true
   rw [if_pos rfl] at e
   rw [e1, show betB m.f1 1 5 = false from by unfold betB; rw [decide_eq_false (by omega)]; rfl, if_pos rfl]
   exact Ev.congr (fun k => by rw [if_pos rfl, if_pos h1]) e
  ·have e := hj0 (decide (m.f1 > 5))
   have e8 : (if decide (m.f1 > 5) = true then 16 else if (b && betB m.f2.length 1 64) = false then 17 else if metPart m 3 = false then 18 else if metPart m 4 = false then 19 else restTail m) = (if metPart m 1 = false then 16 else if (b && betB m.f2.length 1 64) = false then 17 else if metPart m 3 = false then 18 else if metPart m 4 = false then 19 else restTail m) := by
    rw [e1]
    by_cases h2 : m.f1 > 5
    ·rw [if_pos (decide_eq_true h2), if_pos (by unfold betB; rw [decide_eq_false (show ¬ m.f1 ≤ 5 by omega), Bool.and_false])]
    ·have hb5 : betB m.f1 1 5 = true := by unfold betB; rw [decide_eq_true (show 1 ≤ m.f1 by omega), decide_eq_true (show m.f1 ≤ 5 by omega)]; rfl
     rw [hb5, decide_eq_false h2]
     rfl
   rw [← e8]
   exact Ev.congr (fun k => by rw [if_pos rfl, if_neg h1]) e
theorem restBad_met (m : S25) : restBad m (!(m.f2.any decW)) = metBad m := by
 unfold restBad metBad restTail
 have e2 : metPart m 2 = (betB m.f2.length 1 64 && !(m.f2.any decW)) := rfl
 rw [e2, Bool.and_comm]
 cases metPart m 5 <;> rfl
end Go.Proofs.Yteamldgngknmfaa.PE
