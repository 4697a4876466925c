/- The document's answers for batches are package batch's; plain; no condition. -/
import Derived.Test.YteamldgngknmfaaZKRNormM
import Derived.Test.YteamldgngknmfaaZKRDec
import Derived.Test.YteamldgngknmfaaZKLawMetB
import Derived.Test.YteamldgngknmfaaZKPEx8
import Derived.Test.YteamldgngknmfaaZKInjN
import Derived.Test.YteamldgngknmfaaZKRFew
import Derived.Test.YteamldgngknmfaaZKPEx14
import Derived.Test.YteamldgngknmfaaZKPEx16
namespace Go.Proofs.Yteamldgngknmfaa.PE
open Go.RowKit Go.Proofs.YteamldgngknmfaaW.PrintWords Go.Proofs.YteamldgngknmfaaW.PrintLast Go.Proofs.YteamldgngknmfaaW.PrintMore Go.Proofs.Yteamldgngknmfaa
set_option linter.unusedVariables false
set_option linter.unusedSimpArgs false
theorem rd_str (l : List ByteArray) (i : Nat) (h : i < l.length) : rdOf ByteArray.empty l (i : Int) = l[i]'h := by
  unfold rdOf
  rw [Int.toNat_natCast, List.getD_eq_getElem?_getD, List.getElem?_eq_getElem h]
  rfl
theorem texts8_l (a b : List ByteArray) (hn : a.length ≤ 1000000) (hl : b.length = a.length) : ∀ (d i : Nat), i + d = a.length → Ev (fun k => forebaylaw08_texts.l0 k a b (i : Int)) (decide (a.drop i = b.drop i)) := by
  intro d
  induction d with
  | zero =>
    intro i hd
    rw [List.drop_of_length_le (by omega), List.drop_of_length_le (by omega)]
    refine Ev.step (f := fun _ => some true) (fun k => ?_) (by simpa using Ev.now true)
    simp only [forebaylaw08_texts.l0]
    rw [if_neg (by omega)]
  | succ d ih =>
    intro i hd
    have hlt : i < a.length := by omega
    have hlb : i < b.length := by omega
    have hw := w1 i (by omega)
    rw [List.drop_eq_getElem_cons hlt, List.drop_eq_getElem_cons hlb]
    by_cases he : a[i]'hlt = b[i]'hlb
    · have h1 := ih (i + 1) (by omega)
      have h2 : decide (a[i]'hlt :: a.drop (i + 1) = b[i]'hlb :: b.drop (i + 1)) = decide (a.drop (i + 1) = b.drop (i + 1)) := by
        rw [he]
        exact decide_eq_decide.2 (by rw [List.cons.injEq]; simp)
      rw [h2]
      refine Ev.step (fun k => ?_) h1
      simp only [forebaylaw08_texts.l0]
      rw [if_pos (by omega), if_pos (by omega), if_pos (by omega), rd_str a i hlt, rd_str b i hlb, hw, if_pos (by rw [he])]
    · rw [decide_eq_false (fun h => he (by rw [List.cons.injEq] at h; exact h.1))]
      refine Ev.step (f := fun _ => some false) (fun k => ?_) (Ev.now _)
      simp only [forebaylaw08_texts.l0]
      rw [if_pos (by omega), if_pos (by omega), if_pos (by omega), rd_str a i hlt, rd_str b i hlb, if_neg (fun h => he (ba_inj h))]
theorem texts8_ev (a b : List ByteArray) (hn : a.length ≤ 1000000) : Ev (fun k => forebaylaw08_texts.f k a b) (decide (a = b)) := by
  unfold forebaylaw08_texts.f
  by_cases hl : (a.length : Int) = (b.length : Int)
  · exact Ev.congr (fun k => if_pos hl) (texts8_l a b hn (by omega) a.length 0 (by omega))
  · rw [decide_eq_false (fun h => hl (by rw [h]))]
    exact Ev.congr (fun k => if_neg hl) (Ev.now _)
def awk8a : List S25 := [⟨⟨#[97]⟩, 1, [⟨false, 0, 0⟩], 1000000, [], 0⟩, ⟨⟨#[97]⟩, 1, [], 1000000, [], 0⟩]
def awk8b : List S25 := [⟨⟨#[98]⟩, 0, [], 0, [], 0⟩, ⟨⟨#[97]⟩, 0, [], 0, [], 0⟩, ⟨⟨#[98]⟩, 0, [], 0, [], 0⟩]
theorem awk8a_f : batch_Check.f awk8a = some (1, 17) := by
  have h : awk8a.all metIn = true := by decide +kernel
  have h2 : batBad awk8a = (1, 17) := by decide +kernel
  unfold batch_Check.f
  rw [if_pos h, h2]
theorem awk8b_f : batch_Names.f awk8b = some [⟨#[98]⟩, ⟨#[97]⟩] := by
  have h : namIn awk8b = true := by decide +kernel
  have h2 : namesOf awk8b = [⟨#[98]⟩, ⟨#[97]⟩] := by decide +kernel
  unfold batch_Names.f
  rw [if_pos h, h2]
theorem awake08_ev : Ev (fun k => forebaylaw08_awake.f k) true := by
  refine Ev.congr (f := fun k => (forebaylaw08_texts.f k ([⟨#[98]⟩, ⟨#[97]⟩] : List ByteArray) ([⟨#[98]⟩, ⟨#[97]⟩] : List ByteArray)).bind fun t => if t = true then some true else none) (fun k => ?_) (Ev.bind (texts8_ev _ _ (by decide)) ?_)
  · unfold forebaylaw08_awake.f
    have h1 := awk8a_f
    have h2 := awk8b_f
    unfold awk8a at h1
    unfold awk8b at h2
    rw [h1, Option.bind_some, h2, Option.bind_some]
    rfl
  · rw [decide_eq_true rfl]
    exact Ev.congr (fun k => if_pos rfl) (Ev.now _)
end Go.Proofs.Yteamldgngknmfaa.PE
/- What package batch tells, as the laws ask it; plain; no condition. -/
namespace Go.Proofs.Yteamldgngknmfaa
open Go.RowKit Go.Proofs.YteamldgngknmfaaW.PrintWords Go.Proofs.YteamldgngknmfaaW.PrintLast Go.Proofs.YteamldgngknmfaaW.PrintMore Go.Proofs.Yteamldgngknmfaa.PE
set_option linter.unusedVariables false
set_option linter.unusedSimpArgs false
theorem batcheck_f (l : List S25) (hi : ∀ m ∈ l, metIn m = true) : batch_Check.f l = some (batBad l) := if_pos (List.all_eq_true.2 hi)
theorem batnorm_f (l : List S25) (h : batIn l = true) : batch_Normal.f l = some (batNorm l) := if_pos h
theorem batequal_f (a b : List S25) (ha : batIn a = true) (hb : batIn b = true) : batch_Equal.f a b = some (metsEq a b) := if_pos ⟨ha, hb⟩
end Go.Proofs.Yteamldgngknmfaa
/- BatchBehind: a batch behind another one; plain; no condition. -/
namespace Go.Proofs.Yteamldgngknmfaa.PE
open Go.RowKit Go.Proofs.YteamldgngknmfaaW.PrintWords Go.Proofs.YteamldgngknmfaaW.PrintLast Go.Proofs.YteamldgngknmfaaW.PrintMore Go.Proofs.Yteamldgngknmfaa
set_option linter.unusedVariables false
set_option linter.unusedSimpArgs false
theorem heapT : Kd.Heap k37 := Kd.heap_iso _ (Kd.heap_pair Kd.heap_string Kd.heap_string)
theorem heapD : Kd.Heap k40 := Kd.heap_iso _ (Kd.heap_pair Kd.heap_bool (Kd.heap_pair (Kd.heap_int _) (Kd.heap_int _)))
theorem batIn_of (l : List S25) (hi : ∀ m ∈ l, metIn m = true) (hs : ∀ m ∈ l, m.f2.length ≤ 80 ∧ m.f4.length ≤ 40) : batIn l = true := by
  unfold batIn
  simp only [List.all_eq_true, Bool.and_eq_true, decide_eq_true_eq]
  exact fun m hm => ⟨hi m hm, by have := hs m hm; omega, by have := hs m hm; omega⟩
end Go.Proofs.Yteamldgngknmfaa.PE
/- BatchLong: what a batch of n times one metric tells; plain; no condition. -/
namespace Go.Proofs.Yteamldgngknmfaa.PE
open Go.RowKit Go.Proofs.YteamldgngknmfaaW.PrintWords Go.Proofs.YteamldgngknmfaaW.PrintLast Go.Proofs.YteamldgngknmfaaW.PrintMore Go.Proofs.Yteamldgngknmfaa
set_option linter.unusedVariables false
set_option linter.unusedSimpArgs false
theorem batGo_rep (of : S25 → Int) (m : S25) : ∀ (n : Nat) (x : Int), batGo of (List.replicate (n + 1) m) x = if of m = 0 then (0, 0) else (x, of m)
  | 0, x => by
    show (if of m = 0 then batGo of [] (x + 1) else (x, of m)) = _
    rfl
  | n + 1, x => by
    rw [List.replicate_succ]
    show (if of m = 0 then batGo of (List.replicate (n + 1) m) (x + 1) else (x, of m)) = _
    by_cases h : of m = 0
    · rw [if_pos h, if_pos h, batGo_rep of m n (x + 1), if_pos h]
    · rw [if_neg h, if_neg h]
theorem batBad_rep (m : S25) (n : Nat) : batBad (List.replicate n m) = if 1000 < n then (1000, 12) else if n = 0 then (0, 0) else (0, metBad m) := by
  unfold batBad
  rw [List.length_replicate]
  by_cases h : 1000 < n
  · rw [if_pos (by omega), if_pos h]
  · rw [if_neg (by omega), if_neg h]
    cases n with
    | zero => rfl
    | succ n =>
      rw [batGo_rep, if_neg (show ¬ n + 1 = 0 by omega)]
      by_cases h2 : metBad m = 0
      · rw [if_pos h2, h2]
      · rw [if_neg h2]
theorem batNorm_rep (m : S25) (n : Nat) : (batNorm (List.replicate n m)).2 = if 1000 < n then (1000, 12) else if n = 0 then (0, 0) else (0, (metNorm m).2) := by
  unfold batNorm
  rw [List.length_replicate]
  by_cases h : 1000 < n
  · rw [if_pos (by omega), if_pos h]
  · rw [if_neg (by omega), if_neg h]
    cases n with
    | zero => rfl
    | succ n =>
      rw [batGo_rep, if_neg (show ¬ n + 1 = 0 by omega)]
      by_cases h2 : ngo m = 0
      · rw [if_pos h2, if_pos rfl]
        exact Prod.ext rfl h2.symm
      · rw [if_neg h2, if_neg (show ¬ ((0, ngo m) : Int × Int).2 = 0 from h2)]
        rfl
theorem rep_in {m : S25} (n : Nat) (hi : metIn m = true) : ∀ x ∈ List.replicate n m, metIn x = true := fun x hx => by rw [(List.mem_replicate.1 hx).2]; exact hi
theorem rep_small {m : S25} (n : Nat) (h : m.f2.length ≤ 80 ∧ m.f4.length ≤ 40) : ∀ x ∈ List.replicate n m, x.f2.length ≤ 80 ∧ x.f4.length ≤ 40 := fun x hx => by rw [(List.mem_replicate.1 hx).2]; exact h
end Go.Proofs.Yteamldgngknmfaa.PE
