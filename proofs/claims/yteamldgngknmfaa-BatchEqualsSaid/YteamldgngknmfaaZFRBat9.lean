/- The document's answers for batches are package batch's; plain; no condition. -/
import Derived.Test.YteamldgngknmfaaZFInjN
import Derived.Test.YteamldgngknmfaaZFRMet
import Derived.Test.YteamldgngknmfaaZFRFew
import Derived.Test.YteamldgngknmfaaZFPEx14
namespace Go.Proofs.Yteamldgngknmfaa.PE
open Go.RowKit Go.Proofs.YteamldgngknmfaaW.PrintWords Go.Proofs.YteamldgngknmfaaW.PrintLast Go.Proofs.YteamldgngknmfaaW.PrintMore Go.Proofs.Yteamldgngknmfaa
set_option linter.unusedVariables false
set_option linter.unusedSimpArgs false
theorem few8_l (l : List S25) : ∀ (d i : Nat), i + d = l.length → ∃ b, Ev (fun k => forebaylaw08_Few.l0 k l (i : Int)) b ∧ (b = true → l.length ≤ 12 ∧ ∀ m ∈ l.drop i, m.f2.length ≤ 80 ∧ m.f4.length ≤ 40) := by
 intro d
 induction d with
 | zero =>
  intro i hd
  refine ⟨decide ((l.length : Int) ≤ 12), Ev.step (f := fun k => forebaylaw08_Few.j1 k l (i : Int) false) (fun k => ?_) (Ev.step (f := fun _ => some (decide ((l.length : Int) ≤ 12))) (fun k => ?_) (Ev.now _)), fun h => ⟨?_, ?_⟩⟩
  ·simp only [forebaylaw08_Few.l0]
   rw [if_neg (by omega)]
  ·simp only [forebaylaw08_Few.j1]
   rw [if_neg (by decide)]
  ·have := of_decide_eq_true h
   omega
  ·rw [List.drop_of_length_le (by omega)]
   simp
 | succ d ih =>
  intro i hd
  have hlt : i < l.length := by omega
  by_cases h13 : (i : Int) < 13
  ·obtain ⟨b, hb, hl⟩ := few_ev (l[i]'hlt)
   obtain ⟨b2, hb2, hl2⟩ := ih (i + 1) (by omega)
   have hw := w1 i (by omega)
   refine ⟨if b = true then b2 else false, Ev.step (f := fun k => forebaylaw08_Few.j1 k l (i : Int) true) (fun k => ?_) (Ev.step (f := fun k => (forebaylaw07_Few.f k (l[i]'hlt).f0 (l[i]'hlt).f1 (l[i]'hlt).f2 (l[i]'hlt).f3 (l[i]'hlt).f4 (l[i]'hlt).f5).bind fun t => (if t = true then forebaylaw08_Few.l0 k l ((i + 1 : Nat) : Int) else some false)) (fun k => ?_) (Ev.bind hb ?_)), fun h => ?_⟩
   ·simp only [forebaylaw08_Few.l0]
    rw [if_pos (by omega), decide_eq_true h13]
   ·simp only [forebaylaw08_Few.j1]
    rw [if_pos trivial, if_pos (by omega), if_pos (by omega), rd_met l i hlt, hw]
   ·cases b with
    | false => exact Ev.congr (fun k => if_neg (by decide)) (Ev.now _)
    | true => exact Ev.congr (fun k => if_pos rfl) hb2
   ·cases b with
    | false => cases h
    | true =>
     have h2 := hl2 h
     refine ⟨h2.1, ?_⟩
     rw [List.drop_eq_getElem_cons hlt]
     intro m hm
     rcases List.mem_cons.mp hm with rfl | hm
     ·exact hl rfl
     ·exact h2.2 m hm
  ·refine ⟨decide ((l.length : Int) ≤ 12), Ev.step (f := fun k => forebaylaw08_Few.j1 k l (i : Int) false) (fun k => ?_) (Ev.step (f := fun _ => some (decide ((l.length : Int) ≤ 12))) (fun k => ?_) (Ev.now _)), fun h => ?_⟩
   ·simp only [forebaylaw08_Few.l0]
    rw [if_pos (by omega), decide_eq_false h13]
   ·simp only [forebaylaw08_Few.j1]
    rw [if_neg (by decide)]
   ·have := of_decide_eq_true h
    omega
theorem few8_ev (l : List S25) : ∃ b, Ev (fun k => forebaylaw08_Few.f k l) b ∧ (b = true → l.length ≤ 12 ∧ ∀ m ∈ l, m.f2.length ≤ 80 ∧ m.f4.length ≤ 40) := by
 obtain ⟨b, h1, h2⟩ := few8_l l l.length 0 (by omega)
 exact ⟨b, h1, h2⟩
theorem batGo_drop (of : S25 → Int) (l : List S25) (i : Nat) (h : i < l.length) (x : Int) : batGo of (l.drop i) x = if of (l[i]'h) = 0 then batGo of (l.drop (i + 1)) (x + 1) else (x, of (l[i]'h)) := by
 rw [List.drop_eq_getElem_cons h]
 rfl
theorem small_of {l : List S25} (hs : ∀ m ∈ l, m.f2.length ≤ 80 ∧ m.f4.length ≤ 40) (hi : ∀ m ∈ l, metIn m = true) : batIn l = true := by
 unfold batIn
 simp only [List.all_eq_true, Bool.and_eq_true, decide_eq_true_eq]
 exact fun m hm => ⟨hi m hm, by have := hs m hm; omega⟩
theorem refbatn_l (l : List S25) (hi : ∀ m ∈ l, metIn m = true) (hs : ∀ m ∈ l, m.f2.length ≤ 80 ∧ m.f4.length ≤ 40) (hl : l.length ≤ 1000) : ∀ (d i : Nat) (out : List S25), i + d = l.length → out.length = i →
  Ev (fun k => forebayref08_Normal.l0 k l out (i : Int)) (if (batGo ngo (l.drop i) (i : Int)).2 = 0 then (out ++ (l.drop i).map fun m => (metNorm m).1, 0, 0) else ([], batGo ngo (l.drop i) (i : Int))) := by
 intro d
 induction d with
 | zero =>
  intro i out hd ho
  rw [List.drop_of_length_le (by omega)]
  refine Ev.step (f := fun _ => some (out, 0, 0)) (fun k => ?_) ?_
  ·simp only [forebayref08_Normal.l0]
   rw [if_neg (by omega)]
  ·rw [if_pos (by rfl)]
   simpa using Ev.now (out, (0 : Int), (0 : Int))
 | succ d ih =>
  intro i out hd ho
  have hlt : i < l.length := by omega
  have hw := w1 i (by omega)
  have hm := List.getElem_mem hlt
  have hsm := hs _ hm
  rw [batGo_drop ngo l i hlt]
  refine Ev.step (f := fun k => (forebayref07_Normal.f k (l[i]'hlt).f0 (l[i]'hlt).f1 (l[i]'hlt).f2 (l[i]'hlt).f3 (l[i]'hlt).f4 (l[i]'hlt).f5).bind fun bt => (if bt.2.2.2.2.2.2 = 0 then forebayref08_Normal.l0 k l (out ++ [⟨bt.1, bt.2.1, bt.2.2.1, bt.2.2.2.1, bt.2.2.2.2.1, bt.2.2.2.2.2.1⟩]) ((i + 1 : Nat) : Int) else some ([], (i : Int), bt.2.2.2.2.2.2))) (fun k => ?_) (Ev.bind (refnm_ev _ (hi _ hm) (by omega) (by omega)) ?_)
  ·simp only [forebayref08_Normal.l0]
   rw [if_pos (by omega), if_pos (by omega), rd_met l i hlt, hw]
   simp only [show out.length < 1599289640401 by omega, if_true]
  ·by_cases hz : ngo (l[i]'hlt) = 0
   ·rw [if_pos hz]
    refine Ev.congr (fun k => if_pos hz) ?_
    have h1 := ih (i + 1) (out ++ [(metNorm (l[i]'hlt)).1]) (by omega) (by simp [ho])
    rw [List.append_assoc] at h1
    rw [List.drop_eq_getElem_cons hlt, List.map_cons]
    exact h1
   ·rw [if_neg hz, if_neg hz]
    exact Ev.congr (fun k => if_neg hz) (Ev.now _)
theorem refbatn_ev (l : List S25) (hi : ∀ m ∈ l, metIn m = true) (hs : ∀ m ∈ l, m.f2.length ≤ 80 ∧ m.f4.length ≤ 40) : Ev (fun k => forebayref08_Normal.f k l) (batNorm l) := by
 unfold forebayref08_Normal.f batNorm
 by_cases hl : 1000 < (l.length : Int)
 ·rw [if_pos hl]
  exact Ev.congr (fun k => if_pos hl) (Ev.now _)
 ·rw [if_neg hl]
  refine Ev.congr (fun k => if_neg hl) ?_
  have h := refbatn_l l hi hs (by omega) l.length 0 [] (by omega) rfl
  simpa using h
theorem refeqb_l (a b : List S25) (hs : ∀ m ∈ a, m.f2.length ≤ 140737488355328 ∧ m.f4.length ≤ 140737488355328) (hn : a.length ≤ 1000000) (hl : b.length = a.length) : ∀ (d i : Nat), i + d = a.length → Ev (fun k => forebayref08_Equal.l0 k a b (i : Int)) (metsEq (a.drop i) (b.drop i)) := by
 intro d
 induction d with
 | zero =>
  intro i hd
  rw [List.drop_of_length_le (by omega), List.drop_of_length_le (by omega)]
  refine Ev.step (f := fun _ => some true) (fun k => ?_) (Ev.now _)
  simp only [forebayref08_Equal.l0]
  rw [if_neg (by omega)]
 | succ d ih =>
  intro i hd
  have hlt : i < a.length := by omega
  have hlb : i < b.length := by omega
  have hw := w1 i (by omega)
  have hm := List.getElem_mem hlt
  obtain ⟨t, ht, hti⟩ := eqm_ev (a[i]'hlt) (b[i]'hlb) (hs _ hm).1 (hs _ hm).2
  have hte : t = metEq (a[i]'hlt) (b[i]'hlb) := by rw [Bool.eq_iff_iff, hti, metEq_iff]
  rw [metsEq_drop a b i _ _ (List.getElem?_eq_getElem hlt) (List.getElem?_eq_getElem hlb), ← hte]
  refine Ev.step (f := fun k => (forebayref07_Equal.f k (a[i]'hlt).f0 (a[i]'hlt).f1 (a[i]'hlt).f2 (a[i]'hlt).f3 (a[i]'hlt).f4 (a[i]'hlt).f5 (b[i]'hlb).f0 (b[i]'hlb).f1 (b[i]'hlb).f2 (b[i]'hlb).f3 (b[i]'hlb).f4 (b[i]'hlb).f5).bind fun t => (if t = true then forebayref08_Equal.l0 k a b ((i + 1 : Nat) : Int) else some false)) (fun k => ?_) (Ev.bind ht ?_)
  ·simp only [forebayref08_Equal.l0]
   rw [if_pos (by omega), if_pos (by omega), if_pos (by omega), rd_met a i hlt, rd_met b i hlb, hw]
  ·cases t with
   | true => exact Ev.congr (fun k => if_pos rfl) (ih (i + 1) (by omega))
   | false => exact Ev.congr (fun k => if_neg (by decide)) (Ev.now _)
theorem metsEq_len {a b : List S25} (h : a.length ≠ b.length) : metsEq a b = false := by
 cases hq : metsEq a b with
 | false => rfl
 | true => exact absurd (congrArg List.length ((metsEq_iff a b).1 hq)) h
theorem refeqb_ev (a b : List S25) (hs : ∀ m ∈ a, m.f2.length ≤ 140737488355328 ∧ m.f4.length ≤ 140737488355328) (hn : a.length ≤ 1000000) : Ev (fun k => forebayref08_Equal.f k a b) (metsEq a b) := by
 unfold forebayref08_Equal.f
 by_cases hl : (a.length : Int) = (b.length : Int)
 ·exact Ev.congr (fun k => if_pos hl) (refeqb_l a b hs hn (by omega) a.length 0 (by omega))
 ·rw [metsEq_len (by omega)]
  exact Ev.congr (fun k => if_neg hl) (Ev.now _)
theorem rd_str (l : List ByteArray) (i : Nat) (h : i < l.length) : rdOf ByteArray.empty l (i : Int) = l[i]'h := by
 unfold rdOf
 rw [Int.toNat_natCast, List.getD_eq_getElem?_getD, List.getElem?_eq_getElem h]
 rfl
theorem texts8_l (a b : List ByteArray) (hn : a.length ≤ 1000000) (hl : b.length = a.length) : ∀ (d i : Nat), i + d = a.length → Ev (fun k => forebaylaw08_texts.l0 k a b (i : Int)) (decide (a.drop i = b.drop i)) := by
 intro d
 induction d with
 | zero =>
  intro i hd
  rw [List.drop_of_length_le (by omega), List.drop_of_length_le (by omega)]
  refine Ev.step (f := fun _ => some true) (fun k => ?_) (by simpa using Ev.now true)
  simp only [forebaylaw08_texts.l0]
  rw [if_neg (by omega)]
 | succ d ih =>
  intro i hd
  have hlt : i < a.length := by omega
  have hlb : i < b.length := by omega
  have hw := w1 i (by omega)
  rw [List.drop_eq_getElem_cons hlt, List.drop_eq_getElem_cons hlb]
  by_cases he : a[i]'hlt = b[i]'hlb
  ·have h1 := ih (i + 1) (by omega)
   have h2 : decide (a[i]'hlt :: a.drop (i + 1) = b[i]'hlb :: b.drop (i + 1)) = decide (a.drop (i + 1) = b.drop (i + 1)) := by
    rw [he]
    exact decide_eq_decide.2 (by rw [List.cons.injEq]; simp)
   rw [h2]
   refine Ev.step (fun k => ?_) h1
   simp only [forebaylaw08_texts.l0]
   rw [if_pos (by omega), if_pos (by omega), if_pos (by omega), rd_str a i hlt, rd_str b i hlb, hw, if_pos (by rw [he])]
  ·rw [decide_eq_false (fun h => he (by rw [List.cons.injEq] at h; exact h.1))]
   refine Ev.step (f := fun _ => some false) (fun k => ?_) (Ev.now _)
   simp only [forebaylaw08_texts.l0]
   rw [if_pos (by omega), if_pos (by omega), if_pos (by omega), rd_str a i hlt, rd_str b i hlb, if_neg (fun h => he (ba_inj h))]
theorem texts8_ev (a b : List ByteArray) (hn : a.length ≤ 1000000) : Ev (fun k => forebaylaw08_texts.f k a b) (decide (a = b)) := by
 unfold forebaylaw08_texts.f
 by_cases hl : (a.length : Int) = (b.length : Int)
 ·exact Ev.congr (fun k => if_pos hl) (texts8_l a b hn (by omega) a.length 0 (by omega))
 ·rw [decide_eq_false (fun h => hl (by rw [h]))]
  exact Ev.congr (fun k => if_neg hl) (Ev.now _)
theorem refnam_l0 (l : List S25) (hl : l.length < 1000000) : ∀ (d i : Nat) (out : List ByteArray), i + d = l.length → out.length ≤ i → (∀ x, x ∈ out ↔ x ∈ (l.take i).map fun m => m.f0) → Ev (fun k => forebayref08_Names.l0 k l out (i : Int)) (nmGo (l.drop i) out) := by
 intro d
 induction d with
 | zero =>
  intro i out hd ho hx
  rw [List.drop_of_length_le (by omega)]
  refine Ev.step (f := fun _ => some out) (fun k => ?_) (Ev.now _)
  simp only [forebayref08_Names.l0]
  rw [if_neg (by omega)]
 | succ d ih =>
  intro i out hd ho hx
  have hlt : i < l.length := by omega
  have hw := w1 i (by omega)
  have htk : (l.take (i + 1)).map (fun m => m.f0) = (l.take i).map (fun m => m.f0) ++ [(l[i]'hlt).f0] := by
   rw [List.take_succ_eq_append_getElem hlt, List.map_append]
   rfl
  have hin : ∀ (e j : Nat) (b : Bool), j + e = i → (b = true ↔ (l[i]'hlt).f0 ∈ (l.take j).map fun m => m.f0) → Ev (fun k => forebayref08_Names.l1 k l out (i : Int) b (j : Int)) (nmGo (l.drop i) out) := by
   intro e
   induction e with
   | zero =>
    intro j b hj hb
    obtain rfl : j = i := by omega
    rw [nmGo_drop l out j _ (List.getElem?_eq_getElem hlt)]
    by_cases hm : nmHas out (l[j]'hlt).f0 = true
    ·rw [if_pos hm]
     obtain rfl : b = true := hb.2 ((hx _).1 (nmHas_iff.1 hm))
     refine Ev.step (fun k => ?_) (ih (j + 1) out (by omega) (by omega) (fun x => ?_))
     ·simp only [forebayref08_Names.l1]
      rw [if_neg (by omega), if_pos trivial, hw]
     ·rw [htk, List.mem_append, ← hx]
      constructor
      ·exact .inl
      ·rintro (h | h)
       ·exact h
       ·rw [List.mem_singleton.1 h]; exact nmHas_iff.1 hm
    ·rw [if_neg hm]
     obtain rfl : b = false := by
      cases b with
      | false => rfl
      | true => exact absurd (nmHas_iff.2 ((hx _).2 (hb.1 rfl))) hm
     refine Ev.step (fun k => ?_) (ih (j + 1) (out ++ [(l[j]'hlt).f0]) (by omega) (by simp; omega) (fun x => ?_))
     ·simp only [forebayref08_Names.l1]
      rw [if_neg (by omega), if_neg (by decide), if_pos (by omega), if_pos (by omega), if_pos (by omega), rd_met l j hlt, hw]
     ·rw [htk, List.mem_append, List.mem_append, hx]
   | succ e ihe =>
    intro j b hj hb
    have hjl : j < l.length := by omega
    have hwj := w1 j (by omega)
    have htj : (l.take (j + 1)).map (fun m => m.f0) = (l.take j).map (fun m => m.f0) ++ [(l[j]'hjl).f0] := by
     rw [List.take_succ_eq_append_getElem hjl, List.map_append]
     rfl
    cases b with
    | true =>
     refine Ev.step (fun k => ?_) (ihe (j + 1) true (by omega) ?_)
     ·simp only [forebayref08_Names.l1]
      rw [if_pos (by omega), if_pos trivial, hwj]
     ·rw [htj, List.mem_append]
      exact ⟨fun _ => .inl (hb.1 rfl), fun _ => rfl⟩
    | false =>
     refine Ev.step (fun k => ?_) (ihe (j + 1) ((l[j]'hjl).f0.toList == (l[i]'hlt).f0.toList) (by omega) ?_)
     ·simp only [forebayref08_Names.l1]
      rw [if_pos (by omega), if_neg (by decide), if_pos (by omega), if_pos (by omega), if_pos (by omega), if_pos (by omega), rd_met l j hjl, rd_met l i hlt, hwj]
     ·rw [htj, List.mem_append, beq_iff_eq, List.mem_singleton]
      constructor
      ·exact fun h => .inr (ba_inj h).symm
      ·rintro (h | h)
       ·exact absurd (hb.2 h) (by decide)
       ·rw [h]
  refine Ev.step (fun k => ?_) (hin i 0 false (by omega) (by simp))
  simp only [forebayref08_Names.l0]
  rw [if_pos (by omega)]
  rfl
theorem refnam_ev (l : List S25) (hl : l.length < 1000000) : Ev (fun k => forebayref08_Names.f k l) (namesOf l) := refnam_l0 l hl l.length 0 [] (by omega) (Nat.le_refl _) (by simp)
theorem nmGo_len : ∀ (l : List S25) (out : List ByteArray), (nmGo l out).length ≤ out.length + l.length
 | [], out => by simp [nmGo]
 | m :: l, out => by
  unfold nmGo
  split
  ·have := nmGo_len l out
   simp only [List.length_cons]
   omega
  ·have := nmGo_len l (out ++ [m.f0])
   simp only [List.length_append, List.length_cons, List.length_nil] at this ⊢
   omega
def awk8a : List S25 := [⟨⟨#[97]⟩, 1, [⟨false, 0, 0⟩], 1000000, [], 0⟩, ⟨⟨#[97]⟩, 1, [], 1000000, [], 0⟩]
def awk8b : List S25 := [⟨⟨#[98]⟩, 0, [], 0, [], 0⟩, ⟨⟨#[97]⟩, 0, [], 0, [], 0⟩, ⟨⟨#[98]⟩, 0, [], 0, [], 0⟩]
theorem awk8a_f : batch_Check.f awk8a = some (1, 17) := by
 have h : awk8a.all metIn = true := by decide +kernel
 have h2 : batBad awk8a = (1, 17) := by decide +kernel
 unfold batch_Check.f
 rw [if_pos h, h2]
theorem awk8b_f : batch_Names.f awk8b = some [⟨#[98]⟩, ⟨#[97]⟩] := by
 have h : namIn awk8b = true := by decide +kernel
 have h2 : namesOf awk8b = [⟨#[98]⟩, ⟨#[97]⟩] := by decide +kernel
 unfold batch_Names.f
 rw [if_pos h, h2]
theorem awake08_ev : Ev (fun k => forebaylaw08_awake.f k) true := by
 refine Ev.congr (f := fun k => (forebaylaw08_texts.f k ([⟨#[98]⟩, ⟨#[97]⟩] : List ByteArray) ([⟨#[98]⟩, ⟨#[97]⟩] : List ByteArray)).bind fun t => if t = true then some true else none) (fun k => ?_) (Ev.bind (texts8_ev _ _ (by decide)) ?_)
 ·unfold forebaylaw08_awake.f
  have h1 := awk8a_f
  have h2 := awk8b_f
  unfold awk8a at h1
  unfold awk8b at h2
  rw [h1, Option.bind_some, h2, Option.bind_some]
  rfl
 ·rw [decide_eq_true rfl]
  exact Ev.congr (fun k => if_pos rfl) (Ev.now _)
end Go.Proofs.Yteamldgngknmfaa.PE
/- What package batch tells, as the laws ask it; plain; no condition. -/
namespace Go.Proofs.Yteamldgngknmfaa
open Go.RowKit Go.Proofs.YteamldgngknmfaaW.PrintWords Go.Proofs.YteamldgngknmfaaW.PrintLast Go.Proofs.YteamldgngknmfaaW.PrintMore Go.Proofs.Yteamldgngknmfaa.PE
set_option linter.unusedVariables false
set_option linter.unusedSimpArgs false
theorem batnorm_f (l : List S25) (h : batIn l = true) : batch_Normal.f l = some (batNorm l) := if_pos h
theorem batNorm_small (l : List S25) (hs : ∀ m ∈ l, m.f2.length ≤ 80 ∧ m.f4.length ≤ 40) : ∀ m ∈ (batNorm l).1, m.f2.length ≤ 100000 ∧ m.f4.length ≤ 100000 := by
 unfold batNorm
 split
 ·simp
 ·split
  ·intro m hm
   obtain ⟨x, hx, rfl⟩ := List.mem_map.1 hm
   have := hs x hx
   exact metNorm_len x (by omega) (by omega)
  ·simp
theorem batNorm_len (l : List S25) : (batNorm l).1.length ≤ l.length := by
 unfold batNorm
 split
 ·simp
 ·split
  ·simp
  ·simp
theorem batGo_zero (of : S25 → Int) : ∀ (l : List S25) (i : Int), (batGo of l i).2 = 0 → ∀ m ∈ l, of m = 0
 | [], _, _, m, hm => by cases hm
 | x :: l, i, h, m, hm => by
  unfold batGo at h
  by_cases hx : of x = 0
  ·rw [if_pos hx] at h
   rcases List.mem_cons.1 hm with rfl | hm
   ·exact hx
   ·exact batGo_zero of l _ h m hm
  ·rw [if_neg hx] at h
   exact absurd h hx
theorem batNorm_ok (l : List S25) (h : (batNorm l).2.2 = 0) : l.length ≤ 1000 ∧ (∀ m ∈ l, (metNorm m).2 = 0) ∧ batNorm l = (l.map fun m => (metNorm m).1, 0, 0) := by
 unfold batNorm at h ⊢
 split at h
 ·cases h
 ·rename_i hl
  split at h
  ·rename_i hz
   rw [if_neg hl, if_pos hz]
   exact ⟨by omega, batGo_zero ngo l 0 hz, rfl⟩
  ·rename_i hz
   exact absurd h hz
theorem batNorm_in (l : List S25) (hi : ∀ m ∈ l, metIn m = true) (hs : ∀ m ∈ l, m.f2.length ≤ 80 ∧ m.f4.length ≤ 40) : batIn (batNorm l).1 = true := by
 have h2 := batNorm_small l hs
 have h3 : ∀ m ∈ (batNorm l).1, metIn m = true := by
  intro m hm
  by_cases hz : (batNorm l).2.2 = 0
  ·obtain ⟨_, h1, h4⟩ := batNorm_ok l hz
   rw [h4] at hm
   obtain ⟨x, hx, rfl⟩ := List.mem_map.1 hm
   exact (metNorm_good x (hi x hx) (h1 x hx)).1
  ·exfalso
   unfold batNorm at hm hz
   split at hm
   ·cases hm
   ·rename_i hl
    rw [if_neg hl] at hz
    split at hm
    ·rename_i h0
     rw [if_pos h0] at hz
     exact hz rfl
    ·cases hm
 unfold batIn
 simp only [List.all_eq_true, Bool.and_eq_true, decide_eq_true_eq]
 exact fun m hm => ⟨h3 m hm, by have := h2 m hm; omega⟩
def batSame (a b : List S25) : Bool := (decide ((batNorm a).2.2 = 0) && decide ((batNorm b).2.2 = 0)) && metsEq (batNorm a).1 (batNorm b).1
theorem batsame_f (a b : List S25) (ha : batIn a = true) (hb : batIn b = true) (na : batIn (batNorm a).1 = true) (nb : batIn (batNorm b).1 = true) : batch_Same.f a b = some (batSame a b) := by
 unfold batch_Same.f batSame
 rw [batnorm_f a ha, Option.bind_some, batnorm_f b hb, Option.bind_some]
 by_cases h1 : (batNorm a).2.2 = 0
 ·by_cases h2 : (batNorm b).2.2 = 0
  ·rw [if_pos h1, if_pos h2, decide_eq_true h1, decide_eq_true h2]
   unfold batch_Equal.f
   rw [if_pos ⟨na, nb⟩]
   rfl
  ·rw [if_pos h1, if_neg h2, decide_eq_true h1, decide_eq_false h2]
   rfl
 ·rw [if_neg h1, decide_eq_false h1]
  rfl
theorem batequal_f (a b : List S25) (ha : batIn a = true) (hb : batIn b = true) : batch_Equal.f a b = some (metsEq a b) := if_pos ⟨ha, hb⟩
theorem batnames_f (l : List S25) (hi : ∀ m ∈ l, metIn m = true) (hl : l.length < 1000000) : batch_Names.f l = some (namesOf l) := by
 refine if_pos ?_
 unfold namIn
 simp only [Bool.and_eq_true, List.all_eq_true, decide_eq_true_eq]
 exact ⟨hi, hl⟩
end Go.Proofs.Yteamldgngknmfaa
