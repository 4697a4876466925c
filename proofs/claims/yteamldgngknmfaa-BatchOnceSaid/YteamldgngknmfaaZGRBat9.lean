/- The document's answers for batches are package batch's; plain; no condition. -/
import Derived.Test.YteamldgngknmfaaZGRNormM
import Derived.Test.YteamldgngknmfaaZGRDec
import Derived.Test.YteamldgngknmfaaZGLawMetC
import Derived.Test.YteamldgngknmfaaZGPEx8
import Derived.Test.YteamldgngknmfaaZGInjN
import Derived.Test.YteamldgngknmfaaZGRFew
import Derived.Test.YteamldgngknmfaaZGPEx14
namespace Go.Proofs.Yteamldgngknmfaa.PE
open Go.RowKit Go.Proofs.YteamldgngknmfaaW.PrintWords Go.Proofs.YteamldgngknmfaaW.PrintLast Go.Proofs.YteamldgngknmfaaW.PrintMore Go.Proofs.Yteamldgngknmfaa
set_option linter.unusedVariables false
set_option linter.unusedSimpArgs false
theorem few8_l (l : List S25) : ∀ (d i : Nat), i + d = l.length → ∃ b, Ev (fun k => forebaylaw08_Few.l0 k l (i : Int)) b ∧ (b = true → l.length ≤ 12 ∧ ∀ m ∈ l.drop i, m.f2.length ≤ 80 ∧ m.f4.length ≤ 40) := by
  intro d
  induction d with
  | zero =>
    intro i hd
    refine ⟨decide ((l.length : Int) ≤ 12), Ev.step (f := fun k => forebaylaw08_Few.j1 k l (i : Int) false) (fun k => ?_) (Ev.step (f := fun _ => some (decide ((l.length : Int) ≤ 12))) (fun k => ?_) (Ev.now _)), fun h => ⟨?_, ?_⟩⟩
    · simp only [forebaylaw08_Few.l0]
      rw [if_neg (by omega)]
    · simp only [forebaylaw08_Few.j1]
      rw [if_neg (by decide)]
    · have := of_decide_eq_true h
      omega
    · rw [List.drop_of_length_le (by omega)]
      simp
  | succ d ih =>
    intro i hd
    have hlt : i < l.length := by omega
    by_cases h13 : (i : Int) < 13
    · obtain ⟨b, hb, hl⟩ := few_ev (l[i]'hlt)
      obtain ⟨b2, hb2, hl2⟩ := ih (i + 1) (by omega)
      have hw := w1 i (by omega)
      refine ⟨if b = true then b2 else false, Ev.step (f := fun k => forebaylaw08_Few.j1 k l (i : Int) true) (fun k => ?_) (Ev.step (f := fun k => (forebaylaw07_Few.f k (l[i]'hlt).f0 (l[i]'hlt).f1 (l[i]'hlt).f2 (l[i]'hlt).f3 (l[i]'hlt).f4 (l[i]'hlt).f5).bind fun t => (if t = true then forebaylaw08_Few.l0 k l ((i + 1 : Nat) : Int) else some false)) (fun k => ?_) (Ev.bind hb ?_)), fun h => ?_⟩
      · simp only [forebaylaw08_Few.l0]
        rw [if_pos (by omega), decide_eq_true h13]
      · simp only [forebaylaw08_Few.j1]
        rw [if_pos trivial, if_pos (by omega), if_pos (by omega), rd_met l i hlt, hw]
      · cases b with
        | false => exact Ev.congr (fun k => if_neg (by decide)) (Ev.now _)
        | true => exact Ev.congr (fun k => if_pos rfl) hb2
      · cases b with
        | false => cases h
        | true =>
          have h2 := hl2 h
          refine ⟨h2.1, ?_⟩
          rw [List.drop_eq_getElem_cons hlt]
          intro m hm
          rcases List.mem_cons.mp hm with rfl | hm
          · exact hl rfl
          · exact h2.2 m hm
    · refine ⟨decide ((l.length : Int) ≤ 12), Ev.step (f := fun k => forebaylaw08_Few.j1 k l (i : Int) false) (fun k => ?_) (Ev.step (f := fun _ => some (decide ((l.length : Int) ≤ 12))) (fun k => ?_) (Ev.now _)), fun h => ?_⟩
      · simp only [forebaylaw08_Few.l0]
        rw [if_pos (by omega), decide_eq_false h13]
      · simp only [forebaylaw08_Few.j1]
        rw [if_neg (by decide)]
      · have := of_decide_eq_true h
        omega
theorem few8_ev (l : List S25) : ∃ b, Ev (fun k => forebaylaw08_Few.f k l) b ∧ (b = true → l.length ≤ 12 ∧ ∀ m ∈ l, m.f2.length ≤ 80 ∧ m.f4.length ≤ 40) := by
  obtain ⟨b, h1, h2⟩ := few8_l l l.length 0 (by omega)
  exact ⟨b, h1, h2⟩
theorem small_of {l : List S25} (hs : ∀ m ∈ l, m.f2.length ≤ 80 ∧ m.f4.length ≤ 40) (hi : ∀ m ∈ l, metIn m = true) : batIn l = true := by
  unfold batIn
  simp only [List.all_eq_true, Bool.and_eq_true, decide_eq_true_eq]
  exact fun m hm => ⟨hi m hm, by have := hs m hm; omega⟩
theorem rd_str (l : List ByteArray) (i : Nat) (h : i < l.length) : rdOf ByteArray.empty l (i : Int) = l[i]'h := by
  unfold rdOf
  rw [Int.toNat_natCast, List.getD_eq_getElem?_getD, List.getElem?_eq_getElem h]
  rfl
theorem texts8_l (a b : List ByteArray) (hn : a.length ≤ 1000000) (hl : b.length = a.length) : ∀ (d i : Nat), i + d = a.length → Ev (fun k => forebaylaw08_texts.l0 k a b (i : Int)) (decide (a.drop i = b.drop i)) := by
  intro d
  induction d with
  | zero =>
    intro i hd
    rw [List.drop_of_length_le (by omega), List.drop_of_length_le (by omega)]
    refine Ev.step (f := fun _ => some true) (fun k => ?_) (by simpa using Ev.now true)
    simp only [forebaylaw08_texts.l0]
    rw [if_neg (by omega)]
  | succ d ih =>
    intro i hd
    have hlt : i < a.length := by omega
    have hlb : i < b.length := by omega
    have hw := w1 i (by omega)
    rw [List.drop_eq_getElem_cons hlt, List.drop_eq_getElem_cons hlb]
    by_cases he : a[i]'hlt = b[i]'hlb
    · have h1 := ih (i + 1) (by omega)
      have h2 : decide (a[i]'hlt :: a.drop (i + 1) = b[i]'hlb :: b.drop (i + 1)) = decide (a.drop (i + 1) = b.drop (i + 1)) := by
        rw [he]
        exact decide_eq_decide.2 (by rw [List.cons.injEq]; simp)
      rw [h2]
      refine Ev.step (fun k => ?_) h1
      simp only [forebaylaw08_texts.l0]
      rw [if_pos (by omega), if_pos (by omega), if_pos (by omega), rd_str a i hlt, rd_str b i hlb, hw, if_pos (by rw [he])]
    · rw [decide_eq_false (fun h => he (by rw [List.cons.injEq] at h; exact h.1))]
      refine Ev.step (f := fun _ => some false) (fun k => ?_) (Ev.now _)
      simp only [forebaylaw08_texts.l0]
      rw [if_pos (by omega), if_pos (by omega), if_pos (by omega), rd_str a i hlt, rd_str b i hlb, if_neg (fun h => he (ba_inj h))]
theorem texts8_ev (a b : List ByteArray) (hn : a.length ≤ 1000000) : Ev (fun k => forebaylaw08_texts.f k a b) (decide (a = b)) := by
  unfold forebaylaw08_texts.f
  by_cases hl : (a.length : Int) = (b.length : Int)
  · exact Ev.congr (fun k => if_pos hl) (texts8_l a b hn (by omega) a.length 0 (by omega))
  · rw [decide_eq_false (fun h => hl (by rw [h]))]
    exact Ev.congr (fun k => if_neg hl) (Ev.now _)
def awk8a : List S25 := [⟨⟨#[97]⟩, 1, [⟨false, 0, 0⟩], 1000000, [], 0⟩, ⟨⟨#[97]⟩, 1, [], 1000000, [], 0⟩]
def awk8b : List S25 := [⟨⟨#[98]⟩, 0, [], 0, [], 0⟩, ⟨⟨#[97]⟩, 0, [], 0, [], 0⟩, ⟨⟨#[98]⟩, 0, [], 0, [], 0⟩]
theorem awk8a_f : batch_Check.f awk8a = some (1, 17) := by
  have h : awk8a.all metIn = true := by decide +kernel
  have h2 : batBad awk8a = (1, 17) := by decide +kernel
  unfold batch_Check.f
  rw [if_pos h, h2]
theorem awk8b_f : batch_Names.f awk8b = some [⟨#[98]⟩, ⟨#[97]⟩] := by
  have h : namIn awk8b = true := by decide +kernel
  have h2 : namesOf awk8b = [⟨#[98]⟩, ⟨#[97]⟩] := by decide +kernel
  unfold batch_Names.f
  rw [if_pos h, h2]
theorem awake08_ev : Ev (fun k => forebaylaw08_awake.f k) true := by
  refine Ev.congr (f := fun k => (forebaylaw08_texts.f k ([⟨#[98]⟩, ⟨#[97]⟩] : List ByteArray) ([⟨#[98]⟩, ⟨#[97]⟩] : List ByteArray)).bind fun t => if t = true then some true else none) (fun k => ?_) (Ev.bind (texts8_ev _ _ (by decide)) ?_)
  · unfold forebaylaw08_awake.f
    have h1 := awk8a_f
    have h2 := awk8b_f
    unfold awk8a at h1
    unfold awk8b at h2
    rw [h1, Option.bind_some, h2, Option.bind_some]
    rfl
  · rw [decide_eq_true rfl]
    exact Ev.congr (fun k => if_pos rfl) (Ev.now _)
end Go.Proofs.Yteamldgngknmfaa.PE
/- What package batch tells, as the laws ask it; plain; no condition. -/
namespace Go.Proofs.Yteamldgngknmfaa
open Go.RowKit Go.Proofs.YteamldgngknmfaaW.PrintWords Go.Proofs.YteamldgngknmfaaW.PrintLast Go.Proofs.YteamldgngknmfaaW.PrintMore Go.Proofs.Yteamldgngknmfaa.PE
set_option linter.unusedVariables false
set_option linter.unusedSimpArgs false
theorem batnorm_f (l : List S25) (h : batIn l = true) : batch_Normal.f l = some (batNorm l) := if_pos h
theorem batNorm_small (l : List S25) (hs : ∀ m ∈ l, m.f2.length ≤ 80 ∧ m.f4.length ≤ 40) : ∀ m ∈ (batNorm l).1, m.f2.length ≤ 100000 ∧ m.f4.length ≤ 100000 := by
  unfold batNorm
  split
  · simp
  · split
    · intro m hm
      obtain ⟨x, hx, rfl⟩ := List.mem_map.1 hm
      have := hs x hx
      exact metNorm_len x (by omega) (by omega)
    · simp
theorem batGo_zero (of : S25 → Int) : ∀ (l : List S25) (i : Int), (batGo of l i).2 = 0 → ∀ m ∈ l, of m = 0
  | [], _, _, m, hm => by cases hm
  | x :: l, i, h, m, hm => by
    unfold batGo at h
    by_cases hx : of x = 0
    · rw [if_pos hx] at h
      rcases List.mem_cons.1 hm with rfl | hm
      · exact hx
      · exact batGo_zero of l _ h m hm
    · rw [if_neg hx] at h
      exact absurd h hx
theorem batNorm_ok (l : List S25) (h : (batNorm l).2.2 = 0) : l.length ≤ 1000 ∧ (∀ m ∈ l, (metNorm m).2 = 0) ∧ batNorm l = (l.map fun m => (metNorm m).1, 0, 0) := by
  unfold batNorm at h ⊢
  split at h
  · cases h
  · rename_i hl
    split at h
    · rename_i hz
      rw [if_neg hl, if_pos hz]
      exact ⟨by omega, batGo_zero ngo l 0 hz, rfl⟩
    · rename_i hz
      exact absurd h hz
theorem batGo_all (of : S25 → Int) : ∀ (l : List S25) (i : Int), (∀ m ∈ l, of m = 0) → batGo of l i = (0, 0)
  | [], _, _ => rfl
  | x :: l, i, h => by
    unfold batGo
    rw [if_pos (h x (by simp))]
    exact batGo_all of l _ fun m hm => h m (by simp [hm])
theorem batNorm_of (l : List S25) (hl : l.length ≤ 1000) (h : ∀ m ∈ l, (metNorm m).2 = 0) : batNorm l = (l.map fun m => (metNorm m).1, 0, 0) := by
  unfold batNorm
  rw [if_neg (by omega), batGo_all ngo l 0 h, if_pos rfl]
theorem batNorm_in (l : List S25) (hi : ∀ m ∈ l, metIn m = true) (hs : ∀ m ∈ l, m.f2.length ≤ 80 ∧ m.f4.length ≤ 40) : batIn (batNorm l).1 = true := by
  have h2 := batNorm_small l hs
  have h3 : ∀ m ∈ (batNorm l).1, metIn m = true := by
    intro m hm
    by_cases hz : (batNorm l).2.2 = 0
    · obtain ⟨_, h1, h4⟩ := batNorm_ok l hz
      rw [h4] at hm
      obtain ⟨x, hx, rfl⟩ := List.mem_map.1 hm
      exact (metNorm_good x (hi x hx) (h1 x hx)).1
    · exfalso
      unfold batNorm at hm hz
      split at hm
      · cases hm
      · rename_i hl
        rw [if_neg hl] at hz
        split at hm
        · rename_i h0
          rw [if_pos h0] at hz
          exact hz rfl
        · cases hm
  unfold batIn
  simp only [List.all_eq_true, Bool.and_eq_true, decide_eq_true_eq]
  exact fun m hm => ⟨h3 m hm, by have := h2 m hm; omega⟩
def batSame (a b : List S25) : Bool := (decide ((batNorm a).2.2 = 0) && decide ((batNorm b).2.2 = 0)) && metsEq (batNorm a).1 (batNorm b).1
theorem batsame_f (a b : List S25) (ha : batIn a = true) (hb : batIn b = true) (na : batIn (batNorm a).1 = true) (nb : batIn (batNorm b).1 = true) : batch_Same.f a b = some (batSame a b) := by
  unfold batch_Same.f batSame
  rw [batnorm_f a ha, Option.bind_some, batnorm_f b hb, Option.bind_some]
  by_cases h1 : (batNorm a).2.2 = 0
  · by_cases h2 : (batNorm b).2.2 = 0
    · rw [if_pos h1, if_pos h2, decide_eq_true h1, decide_eq_true h2]
      unfold batch_Equal.f
      rw [if_pos ⟨na, nb⟩]
      rfl
    · rw [if_pos h1, if_neg h2, decide_eq_true h1, decide_eq_false h2]
      rfl
  · rw [if_neg h1, decide_eq_false h1]
    rfl
theorem batequal_f (a b : List S25) (ha : batIn a = true) (hb : batIn b = true) : batch_Equal.f a b = some (metsEq a b) := if_pos ⟨ha, hb⟩
end Go.Proofs.Yteamldgngknmfaa
