/- What package expr's functions tell, and the document's answer: the same; plain; no condition. -/
import Derived.Test.YtbdennijmfgdpaaVRDec
import Derived.Test.YtbdennijmfgdpaaVInj
import Derived.Test.YtbdennijmfgdpaaVPEx
namespace Go.Proofs.Ytbdennijmfgdpaa.PE
open Go.RowKit Go.Proofs.YtbdennijmfgdpaaW.PrintWords Go.Proofs.YtbdennijmfgdpaaW.PrintLast Go.Proofs.YtbdennijmfgdpaaW.PrintMore Go.Proofs.Ytbdennijmfgdpaa
set_option linter.unusedVariables false
set_option linter.unusedSimpArgs false
theorem rd_dec (l : List S46) (i : Nat) (h : i < l.length) : rd_T46 l (i : Int) = l[i]'h := by
  unfold rd_T46
  rw [Int.toNat_natCast, List.getD_eq_getElem?_getD, List.getElem?_eq_getElem h]
  rfl
theorem rd_met (l : List S25) (i : Nat) (h : i < l.length) : rd_T25 l (i : Int) = l[i]'h := by
  unfold rd_T25
  rw [Int.toNat_natCast, List.getD_eq_getElem?_getD, List.getElem?_eq_getElem h]
  rfl
theorem w1 (i : Nat) (h : i < 9223372036854775807) : wrap64 ((i : Int) + 1) = ((i + 1 : Nat) : Int) := by
  rw [IntWalk.wrap64_in ((i : Int) + 1) (by omega)]
  omega
theorem few_l0 (m : S25) (hl : m.f4.length ≤ 40) : ∀ (d i : Nat), i + d = m.f4.length → ∃ b, Ev (fun k => forebaylaw07_Few.l0 k (i : Int) m.f0 m.f1 m.f2 m.f3 m.f4 m.f5) b := by
  intro d
  induction d with
  | zero =>
    intro i hi
    refine ⟨true, Ev.step (f := fun _ => some true) (fun k => ?_) (Ev.now _)⟩
    simp only [forebaylaw07_Few.l0]
    rw [if_neg (by omega)]
  | succ d ih =>
    intro i hi
    obtain ⟨b, h1⟩ := ih (i + 1) (by omega)
    by_cases h2 : (((rd_T48 m.f4 (i : Int)).f0).size : Int) > 150
    · refine ⟨false, Ev.step (f := fun _ => some false) (fun k => ?_) (Ev.now _)⟩
      simp only [forebaylaw07_Few.l0]
      rw [if_pos (by omega), if_pos (by omega), if_pos h2]
    · by_cases h3 : (((rd_T48 m.f4 (i : Int)).f1).size : Int) > 150
      · refine ⟨false, Ev.step (f := fun _ => some false) (fun k => ?_) (Ev.now _)⟩
        simp only [forebaylaw07_Few.l0]
        rw [if_pos (by omega), if_pos (by omega), if_neg h2, if_pos h3]
      · refine ⟨b, Ev.step (fun k => ?_) h1⟩
        simp only [forebaylaw07_Few.l0]
        rw [if_pos (by omega), if_pos (by omega), if_neg h2, if_neg h3, w1 i (by omega)]
theorem few_ev (m : S25) : ∃ b, Ev (fun k => forebaylaw07_Few.f k m.f0 m.f1 m.f2 m.f3 m.f4 m.f5) b ∧ (b = true → m.f2.length ≤ 80 ∧ m.f4.length ≤ 40) := by
  have hj : Ev (fun k => forebaylaw07_Few.j0 k true m.f0 m.f1 m.f2 m.f3 m.f4 m.f5) false := Ev.step (f := fun _ => some false) (fun k => by simp only [forebaylaw07_Few.j0]; rfl) (Ev.now _)
  unfold forebaylaw07_Few.f
  by_cases h1 : (m.f0.size : Int) > 300
  · exact ⟨false, Ev.congr (fun k => if_pos h1) hj, fun h => by cases h⟩
  · by_cases h2 : (m.f2.length : Int) > 80
    · exact ⟨false, Ev.congr (fun k => by rw [if_neg h1, if_pos h2]) hj, fun h => by cases h⟩
    · by_cases h3 : (m.f4.length : Int) > 40
      · exact ⟨false, Ev.congr (fun k => by rw [if_neg h1, if_neg h2, decide_eq_true h3]) hj, fun h => by cases h⟩
      · obtain ⟨b, hb⟩ := few_l0 m (by omega) m.f4.length 0 (by omega)
        refine ⟨b, Ev.congr (f := fun k => forebaylaw07_Few.j0 k false m.f0 m.f1 m.f2 m.f3 m.f4 m.f5) (fun k => by rw [if_neg h1, if_neg h2, decide_eq_false h3]) (Ev.step (fun k => ?_) hb), fun _ => by omega⟩
        simp only [forebaylaw07_Few.j0]
        rw [if_neg (by decide)]
        rfl
theorem esay (m : S25) (f : Int) (hm : metIn m = true) : expr_Metric.f m.f0 m.f1 m.f2 m.f3 m.f4 m.f5 f = some (sayBad m f) := if_pos hm
theorem mcheck_f (m : S25) (hm : metIn m = true) : metric_Check.f m.f0 m.f1 m.f2 m.f3 m.f4 m.f5 = some (metBad m) := if_pos hm
def oneV (m : S25) (d : S46) : S25 := ⟨m.f0, m.f1, [d], m.f3, m.f4, m.f5⟩
def cutV (f : Int) (m : S25) : S25 := ⟨m.f0, m.f1, m.f2, m.f3, [], if f = 1 then 0 else m.f5⟩
theorem clone_f (m : S25) (h2 : m.f2.length ≤ 80) (h4 : m.f4.length ≤ 40) : metric_Clone.f m.f0 m.f1 m.f2 m.f3 m.f4 m.f5 = some (m.f0, m.f1, m.f2, m.f3, m.f4, m.f5) := by
  unfold metric_Clone.f slices_Clone_d.f slices_Clone_t.f
  rw [if_pos (by omega), Option.bind_some, if_pos (by omega), Option.bind_some]
theorem split_l0 (m : S25) (h2 : m.f2.length ≤ 80) (h4 : m.f4.length ≤ 40) : ∀ (d i : Nat), i + d = m.f2.length →
    Ev (fun k => metric_Split.l0 k ((m.f2.take i).map (oneV m)) m.f2 (m.f2.length : Int) (i : Int) m.f0 m.f1 m.f2 m.f3 m.f4 m.f5) (m.f2.map (oneV m), 0) := by
  intro d
  induction d with
  | zero =>
    intro i hi
    rw [List.take_of_length_le (by omega)]
    refine Ev.step (f := fun _ => some (m.f2.map (oneV m), 0)) (fun k => ?_) (Ev.now _)
    simp only [metric_Split.l0]
    rw [if_neg (by omega)]
  | succ d ih =>
    intro i hi
    have hlt : i < m.f2.length := by omega
    have h1 := ih (i + 1) (by omega)
    rw [List.take_succ_eq_append_getElem hlt, List.map_append] at h1
    refine Ev.step (fun k => ?_) h1
    simp only [metric_Split.l0]
    rw [if_pos (by omega), if_pos (by omega), if_pos (by omega), clone_f m h2 h4, Option.bind_some, if_pos (by rw [List.length_map, List.length_take]; omega), w1 i (by omega), rd_dec m.f2 i hlt]
    rfl
theorem split_ev (m : S25) (hm : metIn m = true) (h2 : m.f2.length ≤ 80) (h4 : m.f4.length ≤ 40) : Ev (fun k => metric_Split.f k m.f0 m.f1 m.f2 m.f3 m.f4 m.f5) (if metBad m = 0 then (m.f2.map (oneV m), 0) else ([], metBad m)) := by
  unfold metric_Split.f
  rw [mcheck_f m hm]
  by_cases h : metBad m = 0
  · rw [if_pos h]
    refine Ev.congr (fun k => by rw [Option.bind_some, if_pos h]; rfl) (split_l0 m h2 h4 m.f2.length 0 (by omega))
  · rw [if_neg h]
    exact Ev.congr (fun k => by rw [Option.bind_some, if_neg h]) (Ev.now _)
theorem cut_l0 (f : Int) (L : List S25) (hL : L.length ≤ 80) (hi : ∀ x ∈ L, metIn (cutV f x) = true) : ∀ (d i : Nat), i + d = L.length →
    Ev (fun k => expr_Cut.l0 k f (((L.take i).map (cutV f)).filter fun x => sayBad x f == 0) L (L.length : Int) (i : Int))
      (if ((L.map (cutV f)).filter fun x => sayBad x f == 0) = [] then ([], 26) else ((L.map (cutV f)).filter (fun x => sayBad x f == 0), 0)) := by
  intro d
  induction d with
  | zero =>
    intro i hd
    rw [List.take_of_length_le (by omega)]
    generalize ((L.map (cutV f)).filter fun x => sayBad x f == 0) = R
    refine Ev.step (f := fun _ => some (if R = [] then ([], 26) else (R, 0))) (fun k => ?_) (Ev.now _)
    simp only [expr_Cut.l0]
    rw [if_neg (by omega)]
    cases R with
    | nil => rfl
    | cons x R => rw [if_neg (by simp; omega), if_neg (by simp)]
  | succ d ih =>
    intro i hd
    have hlt : i < L.length := by omega
    have h1 := ih (i + 1) (by omega)
    rw [List.take_succ_eq_append_getElem hlt, List.map_append, List.filter_append] at h1
    have hin := hi (L[i]'hlt) (List.getElem_mem _)
    have hs := esay (cutV f (L[i]'hlt)) f hin
    have hlen : (((L.take i).map (cutV f)).filter fun x => sayBad x f == 0).length < 1599289640401 := by
      have := List.length_filter_le (fun x => sayBad x f == 0) ((L.take i).map (cutV f))
      rw [List.length_map, List.length_take] at this
      omega
    have hw := w1 i (by omega)
    by_cases hz : sayBad (cutV f (L[i]'hlt)) f = 0
    · rw [show ([L[i]'hlt].map (cutV f)).filter (fun x => sayBad x f == 0) = [cutV f (L[i]'hlt)] from by rw [List.map_cons, List.map_nil, List.filter_cons_of_pos (by simpa using hz), List.filter_nil]] at h1
      refine Ev.step (fun k => ?_) h1
      simp only [expr_Cut.l0]
      rw [if_pos (by omega), if_pos (by omega), if_pos (by omega), rd_met L i hlt, hw]
      by_cases hf : f = 1
      · have hs' : expr_Metric.f (L[i]'hlt).f0 (L[i]'hlt).f1 (L[i]'hlt).f2 (L[i]'hlt).f3 [] 0 f = some (sayBad (cutV f (L[i]'hlt)) f) := by rw [← hs]; unfold cutV; rw [if_pos hf]
        rw [if_pos hf, hs', Option.bind_some, if_pos hz, if_pos hlen]
        unfold cutV
        rw [if_pos hf]
      · have hs' : expr_Metric.f (L[i]'hlt).f0 (L[i]'hlt).f1 (L[i]'hlt).f2 (L[i]'hlt).f3 [] (L[i]'hlt).f5 f = some (sayBad (cutV f (L[i]'hlt)) f) := by rw [← hs]; unfold cutV; rw [if_neg hf]
        rw [if_neg hf, hs', Option.bind_some, if_pos hz, if_pos hlen]
        unfold cutV
        rw [if_neg hf]
    · rw [show ([L[i]'hlt].map (cutV f)).filter (fun x => sayBad x f == 0) = [] from by rw [List.map_cons, List.map_nil, List.filter_cons_of_neg (by simpa using hz), List.filter_nil], List.append_nil] at h1
      refine Ev.step (fun k => ?_) h1
      simp only [expr_Cut.l0]
      rw [if_pos (by omega), if_pos (by omega), if_pos (by omega), rd_met L i hlt, hw]
      by_cases hf : f = 1
      · have hs' : expr_Metric.f (L[i]'hlt).f0 (L[i]'hlt).f1 (L[i]'hlt).f2 (L[i]'hlt).f3 [] 0 f = some (sayBad (cutV f (L[i]'hlt)) f) := by rw [← hs]; unfold cutV; rw [if_pos hf]
        rw [if_pos hf, hs', Option.bind_some, if_neg hz]
      · have hs' : expr_Metric.f (L[i]'hlt).f0 (L[i]'hlt).f1 (L[i]'hlt).f2 (L[i]'hlt).f3 [] (L[i]'hlt).f5 f = some (sayBad (cutV f (L[i]'hlt)) f) := by rw [← hs]; unfold cutV; rw [if_neg hf]
        rw [if_neg hf, hs', Option.bind_some, if_neg hz]
def cutL (m : S25) (f : Int) : List S25 := ((m.f2.map (oneV m)).map (cutV f)).filter fun x => sayBad x f == 0
def cutR (m : S25) (f : Int) : List S25 × Int := if sayBad m f = 0 then ([m], 0) else if sayBad m f = 26 then (if cutL m f = [] then ([], 26) else (cutL m f, 0)) else ([], sayBad m f)
theorem cut_in (m : S25) (f : Int) (hm : metIn m = true) : ∀ x ∈ m.f2.map (oneV m), metIn (cutV f x) = true := by
  intro x hx
  obtain ⟨d, hd, rfl⟩ := List.mem_map.1 hx
  unfold metIn at hm ⊢
  simp only [Bool.and_eq_true, List.all_eq_true] at hm
  have := hm.2.1 d hd
  simp only [cutV, oneV, List.all_cons, List.all_nil, this, Bool.and_true]
  exact hm.1
theorem met26 (m : S25) : metBad m ≠ 26 := by
  unfold metBad
  repeat' split
  all_goals omega
theorem cut_ev (m : S25) (f : Int) (hm : metIn m = true) (h2 : m.f2.length ≤ 80) (h4 : m.f4.length ≤ 40) : Ev (fun k => expr_Cut.f k m.f0 m.f1 m.f2 m.f3 m.f4 m.f5 f) (cutR m f) := by
  unfold expr_Cut.f cutR
  rw [esay m f hm]
  by_cases h : sayBad m f = 0
  · rw [if_pos h]
    refine Ev.congr (f := fun _ => some ([m], 0)) (fun k => ?_) (Ev.now _)
    rw [Option.bind_some, if_pos h, clone_f m h2 h4]
    rfl
  · rw [if_neg h]
    by_cases h6 : sayBad m f = 26
    · rw [if_pos h6]
      have hb : metBad m = 0 := by
        unfold sayBad at h6
        split at h6
        · omega
        · split at h6
          · exact absurd h6 (met26 m)
          · rename_i hh
            exact Decidable.not_not.1 hh
      have hs := split_ev m hm h2 h4
      rw [if_pos hb] at hs
      refine Ev.congr (f := fun k => (metric_Split.f k m.f0 m.f1 m.f2 m.f3 m.f4 m.f5).bind fun bt => if bt.2 = 0 then expr_Cut.l0 k f [] bt.1 (bt.1.length : Int) 0 else some ([], bt.2)) (fun k => by rw [Option.bind_some, if_neg h, if_pos h6]) (Ev.bind hs ?_)
      refine Ev.congr (fun k => if_pos rfl) ?_
      have := cut_l0 f (m.f2.map (oneV m)) (by rw [List.length_map]; exact h2) (cut_in m f hm) (m.f2.map (oneV m)).length 0 (by omega)
      exact this
    · rw [if_neg h6]
      exact Ev.congr (fun k => by rw [Option.bind_some, if_neg h, if_neg h6]) (Ev.now _)
/-! ### the chapter's examples -/
def exV : List S46 := [⟨false, 1, 0⟩, ⟨true, 1, 0⟩]
def exT : List S48 := [⟨(⟨#[107]⟩ : ByteArray), (⟨#[]⟩ : ByteArray)⟩]
def exM (kind : Int) : S25 := ⟨(⟨#[97]⟩ : ByteArray), kind, exV, 1000000, exT, 5⟩
theorem ex_in (kind : Int) : metIn (exM kind) = true := by
  have h : metIn (exM 0) = true := by decide +kernel
  exact h
theorem awake_ev : Ev (fun k => forebaylaw09_awake.f k) true := by
  have c1 := cut_ev (exM 2) 1 (ex_in 2) (by decide) (by decide)
  have c2 := cut_ev (exM 2) 3 (ex_in 2) (by decide) (by decide)
  have c3 := cut_ev (exM 5) 1 (ex_in 5) (by decide) (by decide)
  have c4 := cut_ev (exM 5) 3 (ex_in 5) (by decide) (by decide)
  have a1 : (cutR (exM 2) 1).2 = 0 := by decide +kernel
  have a2 : (cutR (exM 2) 1).1.length = 1 := by decide +kernel
  have a3 : (rd_T25 (cutR (exM 2) 1).1 0).f5 = 0 := by decide +kernel
  have a4 : (rd_T25 (cutR (exM 2) 1).1 0).f4.length = 0 := by decide +kernel
  have b1 : (cutR (exM 2) 3).2 = 0 := by decide +kernel
  have b2 : (cutR (exM 2) 3).1.length = 2 := by decide +kernel
  have b3 : (rd_T25 (cutR (exM 2) 3).1 1).f5 = 5 := by decide +kernel
  have d1 : (cutR (exM 5) 1).2 = 26 := by decide +kernel
  have d2 : (cutR (exM 5) 3).2 = 26 := by decide +kernel
  unfold forebaylaw09_awake.f
  refine Ev.congr (fun k => Option.bind_some _ _) (Ev.congr (fun k => Option.bind_some _ _) (Ev.bind c1 (Ev.bind c2 (Ev.bind c3 (Ev.bind c4 ?_)))))
  refine Ev.congr (f := fun _ => some true) (fun k => ?_) (Ev.now _)
  rw [if_pos a1, if_pos (by rw [a2]; rfl), if_pos (by rw [a2]; decide), if_pos a3, if_pos (by rw [a4]; rfl), if_pos b1, if_pos (by rw [b2]; rfl), if_pos (by rw [b2]; decide), if_pos b3, if_pos d1, d2]
  rfl
/-! ### the first statement -/
end Go.Proofs.Ytbdennijmfgdpaa.PE
