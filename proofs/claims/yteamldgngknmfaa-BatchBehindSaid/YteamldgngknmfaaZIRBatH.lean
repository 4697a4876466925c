/- The document's answers for batches are package batch's; plain; no condition. -/
import Derived.Test.YteamldgngknmfaaZIRNormM
import Derived.Test.YteamldgngknmfaaZIRDec
import Derived.Test.YteamldgngknmfaaZILawMetC
import Derived.Test.YteamldgngknmfaaZIPEx8
import Derived.Test.YteamldgngknmfaaZIInjN
import Derived.Test.YteamldgngknmfaaZIRFew
import Derived.Test.YteamldgngknmfaaZIPEx14
import Derived.Test.YteamldgngknmfaaZIPEx16
namespace Go.Proofs.Yteamldgngknmfaa.PE
open Go.RowKit Go.Proofs.YteamldgngknmfaaW.PrintWords Go.Proofs.YteamldgngknmfaaW.PrintLast Go.Proofs.YteamldgngknmfaaW.PrintMore Go.Proofs.Yteamldgngknmfaa
set_option linter.unusedVariables false
set_option linter.unusedSimpArgs false
theorem few8_l (l : List S25) : ∀ (d i : Nat), i + d = l.length → ∃ b, Ev (fun k => forebaylaw08_Few.l0 k l (i : Int)) b ∧ (b = true → l.length ≤ 12 ∧ ∀ m ∈ l.drop i, m.f2.length ≤ 80 ∧ m.f4.length ≤ 40) := by
 intro d
 induction d with
 | zero =>
  intro i hd
  refine ⟨decide ((l.length : Int) ≤ 12), Ev.step (f := fun k => forebaylaw08_Few.j1 k l (i : Int) false) (fun k => ?_) (Ev.step (f := fun _ => some (decide ((l.length : Int) ≤ 12))) (fun k => ?_) (Ev.now _)), fun h => ⟨?_, ?_⟩⟩
  ·simp only [forebaylaw08_Few.l0]
   rw [if_neg (by omega)]
  ·simp only [forebaylaw08_Few.j1]
   rw [if_neg (by decide)]
  ·have := of_decide_eq_true h
   omega
  ·rw [List.drop_of_length_le (by omega)]
   simp
 | succ d ih =>
  intro i hd
  have hlt : i < l.length := by omega
  by_cases h13 : (i : Int) < 13
  ·obtain ⟨b, hb, hl⟩ := few_ev (l[i]'hlt)
   obtain ⟨b2, hb2, hl2⟩ := ih (i + 1) (by omega)
   have hw := w1 i (by omega)
   refine ⟨if b = true then b2 else false, Ev.step (f := fun k => forebaylaw08_Few.j1 k l (i : Int) true) (fun k => ?_) (Ev.step (f := fun k => (forebaylaw07_Few.f k (l[i]'hlt).f0 (l[i]'hlt).f1 (l[i]'hlt).f2 (l[i]'hlt).f3 (l[i]'hlt).f4 (l[i]'hlt).f5).bind fun t => (if t = true then forebaylaw08_Few.l0 k l ((i + 1 : Nat) : Int) else some false)) (fun k => ?_) (Ev.bind hb ?_)), fun h => ?_⟩
   ·simp only [forebaylaw08_Few.l0]
    rw [if_pos (by omega), decide_eq_true h13]
   ·simp only [forebaylaw08_Few.j1]
    rw [if_pos trivial, if_pos (by omega), if_pos (by omega), rd_met l i hlt, hw]
   ·cases b with
    | false => exact Ev.congr (fun k => if_neg (by decide)) (Ev.now _)
    | true => exact Ev.congr (fun k => if_pos rfl) hb2
   ·cases b with
    | false => cases h
    | true =>
     have h2 := hl2 h
     refine ⟨h2.1, ?_⟩
     rw [List.drop_eq_getElem_cons hlt]
     intro m hm
     rcases List.mem_cons.mp hm with rfl | hm
     ·exact hl rfl
     ·exact h2.2 m hm
  ·refine ⟨decide ((l.length : Int) ≤ 12), Ev.step (f := fun k => forebaylaw08_Few.j1 k l (i : Int) false) (fun k => ?_) (Ev.step (f := fun _ => some (decide ((l.length : Int) ≤ 12))) (fun k => ?_) (Ev.now _)), fun h => ?_⟩
   ·simp only [forebaylaw08_Few.l0]
    rw [if_pos (by omega), decide_eq_false h13]
   ·simp only [forebaylaw08_Few.j1]
    rw [if_neg (by decide)]
   ·have := of_decide_eq_true h
    omega
theorem few8_ev (l : List S25) : ∃ b, Ev (fun k => forebaylaw08_Few.f k l) b ∧ (b = true → l.length ≤ 12 ∧ ∀ m ∈ l, m.f2.length ≤ 80 ∧ m.f4.length ≤ 40) := by
 obtain ⟨b, h1, h2⟩ := few8_l l l.length 0 (by omega)
 exact ⟨b, h1, h2⟩
theorem rd_str (l : List ByteArray) (i : Nat) (h : i < l.length) : rdOf ByteArray.empty l (i : Int) = l[i]'h := by
 unfold rdOf
 rw [Int.toNat_natCast, List.getD_eq_getElem?_getD, List.getElem?_eq_getElem h]
 rfl
theorem texts8_l (a b : List ByteArray) (hn : a.length ≤ 1000000) (hl : b.length = a.length) : ∀ (d i : Nat), i + d = a.length → Ev (fun k => forebaylaw08_texts.l0 k a b (i : Int)) (decide (a.drop i = b.drop i)) := by
 intro d
 induction d with
 | zero =>
  intro i hd
  rw [List.drop_of_length_le (by omega), List.drop_of_length_le (by omega)]
  refine Ev.step (f := fun _ => some true) (fun k => ?_) (by simpa using Ev.now true)
  simp only [forebaylaw08_texts.l0]
  rw [if_neg (by omega)]
 | succ d ih =>
  intro i hd
  have hlt : i < a.length := by omega
  have hlb : i < b.length := by omega
  have hw := w1 i (by omega)
  rw [List.drop_eq_getElem_cons hlt, List.drop_eq_getElem_cons hlb]
  by_cases he : a[i]'hlt = b[i]'hlb
  ·have h1 := ih (i + 1) (by omega)
   have h2 : decide (a[i]'hlt :: a.drop (i + 1) = b[i]'hlb :: b.drop (i + 1)) = decide (a.drop (i + 1) = b.drop (i + 1)) := by
    rw [he]
    exact decide_eq_decide.2 (by rw [List.cons.injEq]; simp)
   rw [h2]
   refine Ev.step (fun k => ?_) h1
   simp only [forebaylaw08_texts.l0]
   rw [if_pos (by omega), if_pos (by omega), if_pos (by omega), rd_str a i hlt, rd_str b i hlb, hw, if_pos (by rw [he])]
  ·rw [decide_eq_false (fun h => he (by rw [List.cons.injEq] at h; exact h.1))]
   refine Ev.step (f := fun _ => some false) (fun k => ?_) (Ev.now _)
   simp only [forebaylaw08_texts.l0]
   rw [if_pos (by omega), if_pos (by omega), if_pos (by omega), rd_str a i hlt, rd_str b i hlb, if_neg (fun h => he (ba_inj h))]
theorem texts8_ev (a b : List ByteArray) (hn : a.length ≤ 1000000) : Ev (fun k => forebaylaw08_texts.f k a b) (decide (a = b)) := by
 unfold forebaylaw08_texts.f
 by_cases hl : (a.length : Int) = (b.length : Int)
 ·exact Ev.congr (fun k => if_pos hl) (texts8_l a b hn (by omega) a.length 0 (by omega))
 ·rw [decide_eq_false (fun h => hl (by rw [h]))]
  exact Ev.congr (fun k => if_neg hl) (Ev.now _)
theorem nmGo_len : ∀ (l : List S25) (out : List ByteArray), (nmGo l out).length ≤ out.length + l.length
 | [], out => by simp [nmGo]
 | m :: l, out => by
  unfold nmGo
  split
  ·have := nmGo_len l out
   simp only [List.length_cons]
   omega
  ·have := nmGo_len l (out ++ [m.f0])
   simp only [List.length_append, List.length_cons, List.length_nil] at this ⊢
   omega
def awk8a : List S25 := [⟨⟨#[97]⟩, 1, [⟨false, 0, 0⟩], 1000000, [], 0⟩, ⟨⟨#[97]⟩, 1, [], 1000000, [], 0⟩]
def awk8b : List S25 := [⟨⟨#[98]⟩, 0, [], 0, [], 0⟩, ⟨⟨#[97]⟩, 0, [], 0, [], 0⟩, ⟨⟨#[98]⟩, 0, [], 0, [], 0⟩]
theorem awk8a_f : batch_Check.f awk8a = some (1, 17) := by
 have h : awk8a.all metIn = true := by decide +kernel
 have h2 : batBad awk8a = (1, 17) := by decide +kernel
 unfold batch_Check.f
 rw [if_pos h, h2]
theorem awk8b_f : batch_Names.f awk8b = some [⟨#[98]⟩, ⟨#[97]⟩] := by
 have h : namIn awk8b = true := by decide +kernel
 have h2 : namesOf awk8b = [⟨#[98]⟩, ⟨#[97]⟩] := by decide +kernel
 unfold batch_Names.f
 rw [if_pos h, h2]
theorem awake08_ev : Ev (fun k => forebaylaw08_awake.f k) true := by
 refine Ev.congr (f := fun k => (forebaylaw08_texts.f k ([⟨#[98]⟩, ⟨#[97]⟩] : List ByteArray) ([⟨#[98]⟩, ⟨#[97]⟩] : List ByteArray)).bind fun t => if t = true then some true else none) (fun k => ?_) (Ev.bind (texts8_ev _ _ (by decide)) ?_)
 ·unfold forebaylaw08_awake.f
  have h1 := awk8a_f
  have h2 := awk8b_f
  unfold awk8a at h1
  unfold awk8b at h2
  rw [h1, Option.bind_some, h2, Option.bind_some]
  rfl
 ·rw [decide_eq_true rfl]
  exact Ev.congr (fun k => if_pos rfl) (Ev.now _)
end Go.Proofs.Yteamldgngknmfaa.PE
/- What package batch tells, as the laws ask it; plain; no condition. -/
namespace Go.Proofs.Yteamldgngknmfaa
open Go.RowKit Go.Proofs.YteamldgngknmfaaW.PrintWords Go.Proofs.YteamldgngknmfaaW.PrintLast Go.Proofs.YteamldgngknmfaaW.PrintMore Go.Proofs.Yteamldgngknmfaa.PE
set_option linter.unusedVariables false
set_option linter.unusedSimpArgs false
theorem batnorm_f (l : List S25) (h : batIn l = true) : batch_Normal.f l = some (batNorm l) := if_pos h
theorem batNorm_small (l : List S25) (hs : ∀ m ∈ l, m.f2.length ≤ 80 ∧ m.f4.length ≤ 40) : ∀ m ∈ (batNorm l).1, m.f2.length ≤ 100000 ∧ m.f4.length ≤ 100000 := by
 unfold batNorm
 split
 ·simp
 ·split
  ·intro m hm
   obtain ⟨x, hx, rfl⟩ := List.mem_map.1 hm
   have := hs x hx
   exact metNorm_len x (by omega) (by omega)
  ·simp
theorem batNorm_len (l : List S25) : (batNorm l).1.length ≤ l.length := by
 unfold batNorm
 split
 ·simp
 ·split
  ·simp
  ·simp
theorem batGo_zero (of : S25 → Int) : ∀ (l : List S25) (i : Int), (batGo of l i).2 = 0 → ∀ m ∈ l, of m = 0
 | [], _, _, m, hm => by cases hm
 | x :: l, i, h, m, hm => by
  unfold batGo at h
  by_cases hx : of x = 0
  ·rw [if_pos hx] at h
   rcases List.mem_cons.1 hm with rfl | hm
   ·exact hx
   ·exact batGo_zero of l _ h m hm
  ·rw [if_neg hx] at h
   exact absurd h hx
theorem batNorm_ok (l : List S25) (h : (batNorm l).2.2 = 0) : l.length ≤ 1000 ∧ (∀ m ∈ l, (metNorm m).2 = 0) ∧ batNorm l = (l.map fun m => (metNorm m).1, 0, 0) := by
 unfold batNorm at h ⊢
 split at h
 ·cases h
 ·rename_i hl
  split at h
  ·rename_i hz
   rw [if_neg hl, if_pos hz]
   exact ⟨by omega, batGo_zero ngo l 0 hz, rfl⟩
  ·rename_i hz
   exact absurd h hz
theorem batNorm_in (l : List S25) (hi : ∀ m ∈ l, metIn m = true) (hs : ∀ m ∈ l, m.f2.length ≤ 80 ∧ m.f4.length ≤ 40) : batIn (batNorm l).1 = true := by
 have h2 := batNorm_small l hs
 have h3 : ∀ m ∈ (batNorm l).1, metIn m = true := by
  intro m hm
  by_cases hz : (batNorm l).2.2 = 0
  ·obtain ⟨_, h1, h4⟩ := batNorm_ok l hz
   rw [h4] at hm
   obtain ⟨x, hx, rfl⟩ := List.mem_map.1 hm
   exact (metNorm_good x (hi x hx) (h1 x hx)).1
  ·exfalso
   unfold batNorm at hm hz
   split at hm
   ·cases hm
   ·rename_i hl
    rw [if_neg hl] at hz
    split at hm
    ·rename_i h0
     rw [if_pos h0] at hz
     exact hz rfl
    ·cases hm
 unfold batIn
 simp only [List.all_eq_true, Bool.and_eq_true, decide_eq_true_eq]
 exact fun m hm => ⟨h3 m hm, by have := h2 m hm; omega⟩
theorem batequal_f (a b : List S25) (ha : batIn a = true) (hb : batIn b = true) : batch_Equal.f a b = some (metsEq a b) := if_pos ⟨ha, hb⟩
theorem batnames_f (l : List S25) (hi : ∀ m ∈ l, metIn m = true) (hl : l.length < 1000000) : batch_Names.f l = some (namesOf l) := by
 refine if_pos ?_
 unfold namIn
 simp only [Bool.and_eq_true, List.all_eq_true, decide_eq_true_eq]
 exact ⟨hi, hl⟩
end Go.Proofs.Yteamldgngknmfaa
/- BatchBehind: a batch behind another one; plain; no condition. -/
namespace Go.Proofs.Yteamldgngknmfaa.PE
open Go.RowKit Go.Proofs.YteamldgngknmfaaW.PrintWords Go.Proofs.YteamldgngknmfaaW.PrintLast Go.Proofs.YteamldgngknmfaaW.PrintMore Go.Proofs.Yteamldgngknmfaa
set_option linter.unusedVariables false
set_option linter.unusedSimpArgs false
theorem heapT : Kd.Heap k37 := Kd.heap_iso _ (Kd.heap_pair Kd.heap_string Kd.heap_string)
theorem heapD : Kd.Heap k40 := Kd.heap_iso _ (Kd.heap_pair Kd.heap_bool (Kd.heap_pair (Kd.heap_int _) (Kd.heap_int _)))
theorem heapM : Kd.Heap k25 := Kd.heap_iso _ (Kd.heap_pair Kd.heap_string (Kd.heap_pair (Kd.heap_int _) (Kd.heap_pair (Kd.heap_slice _ heapD) (Kd.heap_pair (Kd.heap_int _) (Kd.heap_pair (Kd.heap_slice _ heapT) (Kd.heap_int _))))))
theorem batGo_app (of : S25 → Int) : ∀ (a b : List S25) (x : Int), batGo of (a ++ b) x = if (batGo of a x).2 = 0 then batGo of b (x + (a.length : Int)) else batGo of a x
 | [], b, x => by simp [batGo]
 | m :: a, b, x => by
  show (if of m = 0 then batGo of (a ++ b) (x + 1) else (x, of m)) = if (if of m = 0 then batGo of a (x + 1) else (x, of m)).2 = 0 then _ else (if of m = 0 then batGo of a (x + 1) else (x, of m))
  by_cases h : of m = 0
  ·rw [if_pos h, if_pos h, batGo_app of a b (x + 1), List.length_cons, show x + 1 + (a.length : Int) = x + ((a.length + 1 : Nat) : Int) by omega]
  ·rw [if_neg h, if_neg h, if_neg (show ¬ ((x, of m) : Int × Int).2 = 0 from h)]
theorem batGo_shift (of : S25 → Int) (d : Int) : ∀ (b : List S25) (x : Int), batGo of b (x + d) = if (batGo of b x).2 = 0 then (0, 0) else ((batGo of b x).1 + d, (batGo of b x).2)
 | [], x => by simp [batGo]
 | m :: b, x => by
  show (if of m = 0 then batGo of b (x + d + 1) else (x + d, of m)) = if (if of m = 0 then batGo of b (x + 1) else (x, of m)).2 = 0 then _ else ((if of m = 0 then batGo of b (x + 1) else (x, of m)).1 + d, (if of m = 0 then batGo of b (x + 1) else (x, of m)).2)
  by_cases h : of m = 0
  ·rw [if_pos h, if_pos h, show x + d + 1 = x + 1 + d by omega, batGo_shift of d b (x + 1)]
  ·rw [if_neg h, if_neg h, if_neg (show ¬ ((x, of m) : Int × Int).2 = 0 from h)]
theorem batNorm_app (a b : List S25) (h : a.length + b.length ≤ 1000) : batNorm (a ++ b) = if (batNorm a).2.2 = 0 then (if (batNorm b).2.2 = 0 then ((batNorm a).1 ++ (batNorm b).1, 0, 0) else ([], (batNorm b).2.1 + (a.length : Int), (batNorm b).2.2)) else ([], (batNorm a).2.1, (batNorm a).2.2) := by
 have nb1 : ∀ l : List S25, l.length ≤ 1000 → batNorm l = if (batGo ngo l 0).2 = 0 then (l.map fun m => (metNorm m).1, 0, 0) else ([], batGo ngo l 0) := fun l hl => if_neg (by omega)
 rw [nb1 (a ++ b) (by rw [List.length_append]; omega), nb1 a (by omega), nb1 b (by omega), batGo_app]
 have hs := batGo_shift ngo (a.length : Int) b 0
 by_cases ha : (batGo ngo a 0).2 = 0
 ·rw [if_pos ha, if_pos ha, if_pos rfl, hs]
  by_cases hb : (batGo ngo b 0).2 = 0
  ·rw [if_pos hb, if_pos hb, if_pos rfl, if_pos rfl, List.map_append]
  ·rw [if_neg hb, if_neg hb, if_neg hb, if_neg hb]
 ·rw [if_neg ha, if_neg ha, if_neg ha, if_neg ha]
theorem batGo_at (of : S25 → Int) : ∀ (l : List S25) (x : Int), 0 ≤ x → 0 ≤ (batGo of l x).1 ∧ (batGo of l x).1 ≤ x + (l.length : Int)
 | [], x, hx => by simp [batGo]; omega
 | m :: l, x, hx => by
  show 0 ≤ (if of m = 0 then batGo of l (x + 1) else (x, of m)).1 ∧ (if of m = 0 then batGo of l (x + 1) else (x, of m)).1 ≤ _
  have := batGo_at of l (x + 1) (by omega)
  split
  ·simp only [List.length_cons]; omega
  ·simp only [List.length_cons]; omega
theorem batNorm_at (l : List S25) (h : l.length ≤ 1000) : 0 ≤ (batNorm l).2.1 ∧ (batNorm l).2.1 ≤ 1000 := by
 have := batGo_at ngo l 0 (by omega)
 unfold batNorm
 rw [if_neg (by omega)]
 split
 ·simp
 ·simp only
  omega
theorem nmGo_app : ∀ (a b : List S25) (out : List ByteArray), nmGo (a ++ b) out = nmGo b (nmGo a out)
 | [], b, out => rfl
 | m :: a, b, out => by
  show (if nmHas out m.f0 = true then nmGo (a ++ b) out else nmGo (a ++ b) (out ++ [m.f0])) = nmGo b (if nmHas out m.f0 = true then nmGo a out else nmGo a (out ++ [m.f0]))
  by_cases h : nmHas out m.f0 = true
  ·rw [if_pos h, if_pos h]; exact nmGo_app a b out
  ·rw [if_neg h, if_neg h]; exact nmGo_app a b _
theorem nmGo_pre : ∀ (b : List S25) (out : List ByteArray), ∃ r, nmGo b out = out ++ r
 | [], out => ⟨[], by simp [nmGo]⟩
 | m :: b, out => by
  show ∃ r, (if nmHas out m.f0 = true then nmGo b out else nmGo b (out ++ [m.f0])) = out ++ r
  by_cases h : nmHas out m.f0 = true
  ·rw [if_pos h]; exact nmGo_pre b out
  ·rw [if_neg h]
   obtain ⟨r, hr⟩ := nmGo_pre b (out ++ [m.f0])
   exact ⟨m.f0 :: r, by rw [hr]; simp⟩
theorem batIn_app {a b : List S25} (ha : batIn a = true) (hb : batIn b = true) : batIn (a ++ b) = true := by
 unfold batIn at *
 rw [List.all_append, ha, hb]
 rfl
theorem batIn_of (l : List S25) (hi : ∀ m ∈ l, metIn m = true) (hs : ∀ m ∈ l, m.f2.length ≤ 80 ∧ m.f4.length ≤ 40) : batIn l = true := by
 unfold batIn
 simp only [List.all_eq_true, Bool.and_eq_true, decide_eq_true_eq]
 exact fun m hm => ⟨hi m hm, by have := hs m hm; omega, by have := hs m hm; omega⟩
theorem batchBehind_pure (a b : List S25) (ha : ∀ m ∈ a, metIn m = true) (hb : ∀ m ∈ b, metIn m = true) : ∃ k, forebaylaw08_BatchBehind.f k a b = some true := by
 refine Ev.rounds ?_
 obtain ⟨p, hp, hla⟩ := few8_ev a
 obtain ⟨q, hq, hlb⟩ := few8_ev b
 have haw : Ev (fun k => (forebaylaw08_awake.f k).bind fun t => (some t)) true := Ev.bind awake08_ev (Ev.now _)
 have hjt : Ev (fun k => forebaylaw08_BatchBehind.j0 k a b true) true := Ev.step (fun k => by simp only [forebaylaw08_BatchBehind.j0]; exact if_pos trivial) haw
 unfold forebaylaw08_BatchBehind.f
 refine Ev.bind hp ?_
 cases p with
 | false => exact Ev.congr (fun k => if_neg (by decide)) hjt
 | true =>
  refine Ev.congr (fun k => if_pos rfl) (Ev.bind hq ?_)
  cases q with
  | false => exact hjt
  | true =>
   have h1 := hla rfl
   have h2 := hlb rfl
   have ia := batIn_of a ha h1.2
   have ib := batIn_of b hb h2.2
   have na := batNorm_in a ha h1.2
   have nb := batNorm_in b hb h2.2
   have la := batNorm_len a
   have lb := batNorm_len b
   have hall : ∀ m ∈ a ++ b, metIn m = true := fun m hm => (List.mem_append.1 hm).elim (ha m) (hb m)
   have happ := batNorm_app a b (by omega)
   obtain ⟨r, hr⟩ : ∃ r, namesOf (a ++ b) = namesOf a ++ r := by
    unfold namesOf
    rw [nmGo_app]
    exact nmGo_pre b _
   have hnl : (namesOf a).length ≤ 1000 := by
    have := nmGo_len a []
    unfold namesOf
    simp at this
    omega
   have hj1 : Ev (fun k => forebaylaw08_BatchBehind.j1 k a (batNorm a).1 (batNorm a).2.1 (batNorm a).2.2 (batNorm b).1 (batNorm b).2.1 (batNorm b).2.2 (batNorm (a ++ b)).1 (batNorm (a ++ b)).2.1 (batNorm (a ++ b)).2.2 false) true := by
    rw [happ]
    by_cases ca : (batNorm a).2.2 = 0
    ·rw [if_pos ca]
     by_cases cb : (batNorm b).2.2 = 0
     ·rw [if_pos cb]
      refine Ev.step (fun k => ?_) haw
      simp only [forebaylaw08_BatchBehind.j1]
      rw [if_neg (by decide), if_pos ca, if_pos cb, if_pos trivial, if_pos trivial]
      simp only [Option.bind_some, List.nil_append, List.length_nil, Nat.zero_add]
      rw [if_pos (by omega), if_pos (by omega), batequal_f _ _ (batIn_app na nb) (batIn_app na nb), Option.bind_some, if_pos ((metsEq_iff _ _).2 rfl)]
     ·rw [if_neg cb]
      have hw : wrap64 ((batNorm b).2.1 + (a.length : Int)) = (batNorm b).2.1 + (a.length : Int) := by
       have := batNorm_at b (by omega)
       exact IntWalk.wrap64_in _ (by omega)
      refine Ev.step (fun k => ?_) haw
      simp only [forebaylaw08_BatchBehind.j1]
      rw [if_neg (by decide), if_pos ca, if_neg cb, if_pos trivial, hw, if_pos rfl, if_pos (by simp)]
    ·rw [if_neg ca]
     refine Ev.step (fun k => ?_) haw
     simp only [forebaylaw08_BatchBehind.j1]
     rw [if_neg (by decide), if_neg ca, if_pos trivial, if_pos trivial, if_pos (by simp)]
   refine Ev.step (f := fun k => (forebaylaw08_texts.f k ((namesOf (a ++ b)).take (((namesOf a).length : Int) : Int).toNat) (namesOf a)).bind fun t164 => (forebaylaw08_BatchBehind.j1 k a (batNorm a).1 (batNorm a).2.1 (batNorm a).2.2 (batNorm b).1 (batNorm b).2.1 (batNorm b).2.2 (batNorm (a ++ b)).1 (batNorm (a ++ b)).2.1 (batNorm (a ++ b)).2.2 (!t164))) (fun k => ?_) (Ev.bind (texts8_ev _ _ (by rw [List.length_take]; omega)) ?_)
   ·show forebaylaw08_BatchBehind.j0 (k + 1) a b false = _
    simp only [forebaylaw08_BatchBehind.j0]
    rw [if_neg (by decide)]
    simp only [Option.bind_some, List.nil_append, List.length_nil, Nat.zero_add]
    rw [if_pos (by omega), if_pos (by omega), batnorm_f a ia, Option.bind_some, batnorm_f b ib, Option.bind_some, batnorm_f (a ++ b) (batIn_app ia ib), Option.bind_some, batnames_f (a ++ b) hall (by rw [List.length_append]; omega), Option.bind_some, batnames_f a ha (by omega), Option.bind_some, if_neg (by rw [hr, List.length_append]; omega), if_pos (by omega), if_pos (by rw [hr, List.length_append]; omega)]
   ·have e : (namesOf (a ++ b)).take (((namesOf a).length : Int) : Int).toNat = namesOf a := by
     rw [hr, Int.toNat_natCast]
     simp
    rw [e, decide_eq_true rfl]
    exact hj1
end Go.Proofs.Yteamldgngknmfaa.PE
