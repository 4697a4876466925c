/- What of a metric a format can say: package expr's Cut and the document's answer are the same; plain; no condition. -/
import Derived.Test.YtbdennijmfgdpaaZRCut
namespace Go.Proofs.Ytbdennijmfgdpaa.PE
open Go.RowKit Go.Proofs.YtbdennijmfgdpaaW.PrintWords Go.Proofs.YtbdennijmfgdpaaW.PrintLast Go.Proofs.YtbdennijmfgdpaaW.PrintMore Go.Proofs.Ytbdennijmfgdpaa
set_option linter.unusedVariables false
set_option linter.unusedSimpArgs false
theorem eq_l1 (m : S25) (h4 : m.f4.length ≤ 140737488355328) : ∀ (d i : Nat), i + d = m.f4.length → Ev (fun k => forebayref07_Equal.l1 k (i : Int) m.f0 m.f1 m.f2 m.f3 m.f4 m.f5 m.f0 m.f1 m.f2 m.f3 m.f4 m.f5) true := by
  intro d
  induction d with
  | zero =>
    intro i hi
    refine Ev.step (f := fun _ => some true) (fun k => ?_) (Ev.now _)
    simp only [forebayref07_Equal.l1]
    rw [if_neg (by omega)]
  | succ d ih =>
    intro i hi
    refine Ev.step (fun k => ?_) (ih (i + 1) (by omega))
    simp only [forebayref07_Equal.l1]
    rw [if_pos (by omega), if_pos (by omega), if_pos (by omega), if_neg (by simp), w1 i (by omega)]
theorem eq_l0 (m : S25) (h2 : m.f2.length ≤ 140737488355328) (h4 : m.f4.length ≤ 140737488355328) : ∀ (d i : Nat), i + d = m.f2.length → Ev (fun k => forebayref07_Equal.l0 k (i : Int) m.f0 m.f1 m.f2 m.f3 m.f4 m.f5 m.f0 m.f1 m.f2 m.f3 m.f4 m.f5) true := by
  intro d
  induction d with
  | zero =>
    intro i hi
    refine Ev.step (fun k => ?_) (eq_l1 m h4 m.f4.length 0 (by omega))
    simp only [forebayref07_Equal.l0]
    rw [if_neg (by omega)]
    rfl
  | succ d ih =>
    intro i hi
    refine Ev.step (fun k => ?_) (ih (i + 1) (by omega))
    simp only [forebayref07_Equal.l0]
    rw [if_pos (by omega), if_pos (by omega), if_pos (by omega), if_neg (by simp), w1 i (by omega)]
theorem eqm_self (m : S25) (h2 : m.f2.length ≤ 140737488355328) (h4 : m.f4.length ≤ 140737488355328) : Ev (fun k => forebayref07_Equal.f k m.f0 m.f1 m.f2 m.f3 m.f4 m.f5 m.f0 m.f1 m.f2 m.f3 m.f4 m.f5) true := by
  unfold forebayref07_Equal.f
  refine Ev.congr (f := fun k => forebayref07_Equal.j0 k false m.f0 m.f1 m.f2 m.f3 m.f4 m.f5 m.f0 m.f1 m.f2 m.f3 m.f4 m.f5) (fun k => by rw [if_pos rfl, if_pos rfl, if_pos rfl, if_pos rfl, if_pos rfl, show ((m.f4.length : Int) != (m.f4.length : Int)) = false by simp]) ?_
  refine Ev.step (fun k => ?_) (eq_l0 m h2 h4 m.f2.length 0 (by omega))
  simp only [forebayref07_Equal.j0]
  rw [if_neg (by decide)]
  rfl
theorem eqb_l0 (L : List S25) (hL : L.length ≤ 140737488355328) (hm : ∀ x ∈ L, x.f2.length ≤ 140737488355328 ∧ x.f4.length ≤ 140737488355328) : ∀ (d i : Nat), i + d = L.length → Ev (fun k => forebayref08_Equal.l0 k L L (i : Int)) true := by
  intro d
  induction d with
  | zero =>
    intro i hi
    refine Ev.step (f := fun _ => some true) (fun k => ?_) (Ev.now _)
    simp only [forebayref08_Equal.l0]
    rw [if_neg (by omega)]
  | succ d ih =>
    intro i hi
    have hlt : i < L.length := by omega
    obtain ⟨h2, h4⟩ := hm (L[i]'hlt) (List.getElem_mem _)
    refine Ev.step (f := fun k => (forebayref07_Equal.f k (L[i]'hlt).f0 (L[i]'hlt).f1 (L[i]'hlt).f2 (L[i]'hlt).f3 (L[i]'hlt).f4 (L[i]'hlt).f5 (L[i]'hlt).f0 (L[i]'hlt).f1 (L[i]'hlt).f2 (L[i]'hlt).f3 (L[i]'hlt).f4 (L[i]'hlt).f5).bind fun t => if t = true then forebayref08_Equal.l0 k L L ((i + 1 : Nat) : Int) else some false) (fun k => ?_) (Ev.bind (eqm_self (L[i]'hlt) h2 h4) (Ev.congr (fun k => if_pos rfl) (ih (i + 1) (by omega))))
    simp only [forebayref08_Equal.l0]
    rw [if_pos (by omega), if_pos (by omega), if_pos (by omega), w1 i (by omega), rd_met L i hlt]
theorem eqb_self (L : List S25) (hL : L.length ≤ 140737488355328) (hm : ∀ x ∈ L, x.f2.length ≤ 140737488355328 ∧ x.f4.length ≤ 140737488355328) : Ev (fun k => forebayref08_Equal.f k L L) true := by
  unfold forebayref08_Equal.f
  refine Ev.congr (fun k => if_pos rfl) ?_
  have h := eqb_l0 L hL hm L.length 0 (by omega)
  exact h
theorem met_parts {m : S25} (h : metBad m = 0) : ∀ j, j < 6 → metPart m j = true := by
  unfold metBad at h
  by_cases p0 : metPart m 0 = false
  · rw [if_pos p0] at h; cases h
  rw [if_neg p0] at h
  by_cases p1 : metPart m 1 = false
  · rw [if_pos p1] at h; cases h
  rw [if_neg p1] at h
  by_cases p2 : metPart m 2 = false
  · rw [if_pos p2] at h; cases h
  rw [if_neg p2] at h
  by_cases p3 : metPart m 3 = false
  · rw [if_pos p3] at h; cases h
  rw [if_neg p3] at h
  by_cases p4 : metPart m 4 = false
  · rw [if_pos p4] at h; cases h
  rw [if_neg p4] at h
  by_cases p5 : metPart m 5 = false
  · rw [if_pos p5] at h; cases h
  intro j hj
  match j, hj with
  | 0, _ => exact eq_true_of_ne_false p0
  | 1, _ => exact eq_true_of_ne_false p1
  | 2, _ => exact eq_true_of_ne_false p2
  | 3, _ => exact eq_true_of_ne_false p3
  | 4, _ => exact eq_true_of_ne_false p4
  | 5, _ => exact eq_true_of_ne_false p5
theorem cut_bad {m : S25} (f : Int) (h : metBad m = 0) (d : S46) (hd : d ∈ m.f2) : metBad (cutV f (oneV m d)) = 0 := by
  have hp := met_parts h
  refine metBad_ok _ (fun j hj => ?_)
  match j, hj with
  | 0, _ => exact hp 0 (by omega)
  | 1, _ => exact hp 1 (by omega)
  | 2, _ =>
    have h2 := hp 2 (by omega)
    have e : metPart m 2 = (betB m.f2.length 1 64 && !(m.f2.any decW)) := rfl
    rw [e] at h2
    simp only [Bool.and_eq_true, Bool.not_eq_true'] at h2
    have hd2 : decW d = false := by
      cases hq : decW d with
      | false => rfl
      | true => rw [List.any_eq_true.2 ⟨d, hd, hq⟩] at h2; cases h2.2
    show (betB (([d] : List S46).length : Int) 1 64 && !([d].any decW)) = true
    rw [List.any_cons, hd2]
    rfl
  | 3, _ => exact hp 3 (by omega)
  | 4, _ => rfl
  | 5, _ =>
    have h5 := hp 5 (by omega)
    show betB (if f = 1 then 0 else m.f5) 0 1099511627776 = true
    by_cases hf : f = 1
    · rw [if_pos hf]; decide
    · rw [if_neg hf]; exact h5
theorem filter_same {α : Type} (p q : α → Bool) : ∀ l : List α, (∀ x ∈ l, p x = q x) → l.filter p = l.filter q
  | [], _ => rfl
  | x :: l, h => by
    have ih := filter_same p q l (fun y hy => h y (List.mem_cons_of_mem _ hy))
    rw [List.filter_cons, List.filter_cons, h x List.mem_cons_self, ih]
def refL (m : S25) (f : Int) : List S25 := ((m.f2.map (oneV m)).map (cutV f)).filter fun x => sayB x f
theorem refL_cut (m : S25) (f : Int) (h : metBad m = 0) (hf : 1 ≤ f ∧ f ≤ 4) : refL m f = cutL m f := by
  unfold refL cutL
  refine filter_same _ _ _ (fun x hx => ?_)
  obtain ⟨y, hy, rfl⟩ := List.mem_map.1 hx
  obtain ⟨d, hd, rfl⟩ := List.mem_map.1 hy
  have hb := cut_bad f h d hd
  unfold sayBad
  rw [if_neg (by omega), hb, if_neg (fun h => h rfl)]
  cases sayB (cutV f (oneV m d)) f <;> rfl
theorem refL_one (m : S25) (f : Int) (hf : f = 1 ∨ f = 3) (h : sayB m f = true) : refL m f = [m] := by
  have hb : bareB m = true ∧ (f = 1 → m.f5 = 0) := by
    unfold sayB at h
    rcases hf with rfl | rfl
    · rw [if_pos rfl] at h
      unfold statsB at h
      simp only [Bool.and_eq_true, beq_iff_eq] at h
      exact ⟨h.1.1.1, fun _ => h.1.1.2⟩
    · rw [if_neg (by decide), if_pos rfl] at h
      unfold graphB at h
      simp only [Bool.and_eq_true] at h
      exact ⟨h.1.1, fun h => by cases h⟩
  obtain ⟨h1, h2⟩ := hb
  unfold bareB at h1
  simp only [Bool.and_eq_true, beq_iff_eq] at h1
  obtain ⟨d, hd⟩ : ∃ d, m.f2 = [d] := by
    match hm : m.f2, h1.1 with
    | [d], _ => exact ⟨d, rfl⟩
  have h4 : m.f4 = [] := List.eq_nil_of_length_eq_zero h1.2
  have e : cutV f (oneV m d) = m := by
    obtain ⟨a, b, c, x, y, z⟩ := m
    simp only at hd h4 h2
    subst hd h4
    unfold cutV oneV
    by_cases hq : f = 1
    · rw [if_pos hq, h2 hq]
    · rw [if_neg hq]
  unfold refL
  rw [hd, List.map_cons, List.map_nil, List.map_cons, List.map_nil, e, List.filter_cons_of_pos (by simpa using h), List.filter_nil]
theorem refcut_l0 (m : S25) (f : Int) (h2 : m.f2.length ≤ 80) : ∀ (d i : Nat), i + d = m.f2.length →
    Ev (fun k => forebayref09_Cut.l0 k f ((((m.f2.take i).map (oneV m)).map (cutV f)).filter fun x => sayB x f) (i : Int) m.f0 m.f1 m.f2 m.f3 m.f4 m.f5) (if refL m f = [] then ([], 26) else (refL m f, 0)) := by
  intro d
  induction d with
  | zero =>
    intro i hi
    rw [List.take_of_length_le (by omega)]
    show Ev (fun k => forebayref09_Cut.l0 k f (refL m f) (i : Int) m.f0 m.f1 m.f2 m.f3 m.f4 m.f5) _
    generalize refL m f = R
    refine Ev.step (f := fun _ => some (if R = [] then ([], 26) else (R, 0))) (fun k => ?_) (Ev.now _)
    simp only [forebayref09_Cut.l0]
    rw [if_neg (by omega)]
    cases R with
    | nil => rfl
    | cons x R => rw [if_neg (by simp; omega), if_neg (by simp)]
  | succ d ih =>
    intro i hi
    have hlt : i < m.f2.length := by omega
    have h1 := ih (i + 1) (by omega)
    rw [List.take_succ_eq_append_getElem hlt, List.map_append, List.map_append, List.filter_append] at h1
    have hs := says_ev (cutV f (oneV m (m.f2[i]'hlt))) f
    have hlen : ((((m.f2.take i).map (oneV m)).map (cutV f)).filter fun x => sayB x f).length < 1599289640401 := by
      have := List.length_filter_le (fun x => sayB x f) (((m.f2.take i).map (oneV m)).map (cutV f))
      rw [List.length_map, List.length_map, List.length_take] at this
      omega
    generalize hA : ((((m.f2.take i).map (oneV m)).map (cutV f)).filter fun x => sayB x f) = A at h1 hlen
    have hx : ([m.f2[i]'hlt].map (oneV m)).map (cutV f) = [cutV f (oneV m (m.f2[i]'hlt))] := rfl
    rw [hx] at h1
    by_cases hf : f = 1
    · refine Ev.step (f := fun k => (forebayref09_Says.f k m.f0 m.f1 [m.f2[i]'hlt] m.f3 [] 0 f).bind fun t => if t = true then (if A.length < 1599289640401 then forebayref09_Cut.l0 k f (A ++ [cutV f (oneV m (m.f2[i]'hlt))]) ((i + 1 : Nat) : Int) m.f0 m.f1 m.f2 m.f3 m.f4 m.f5 else none) else forebayref09_Cut.l0 k f A ((i + 1 : Nat) : Int) m.f0 m.f1 m.f2 m.f3 m.f4 m.f5) (fun k => ?_) ?_
      · simp only [forebayref09_Cut.l0]
        rw [if_pos (by omega), if_pos (by omega), Option.bind_some, if_pos hf, rd_dec m.f2 i hlt, w1 i (by omega)]
        unfold cutV oneV
        rw [if_pos hf]
      · have hs' : Ev (fun k => forebayref09_Says.f k m.f0 m.f1 [m.f2[i]'hlt] m.f3 [] 0 f) (sayB (cutV f (oneV m (m.f2[i]'hlt))) f) := by
          refine Ev.congr (fun k => ?_) hs
          unfold cutV oneV
          rw [if_pos hf]
        refine Ev.bind hs' ?_
        cases hb : sayB (cutV f (oneV m (m.f2[i]'hlt))) f with
        | true =>
          rw [List.filter_cons_of_pos (by simpa using hb), List.filter_nil] at h1
          exact Ev.congr (fun k => by rw [if_pos rfl, if_pos hlen]) h1
        | false =>
          rw [List.filter_cons_of_neg (by simpa using hb), List.filter_nil, List.append_nil] at h1
          exact Ev.congr (fun k => if_neg (by decide)) h1
    · refine Ev.step (f := fun k => (forebayref09_Says.f k m.f0 m.f1 [m.f2[i]'hlt] m.f3 [] m.f5 f).bind fun t => if t = true then (if A.length < 1599289640401 then forebayref09_Cut.l0 k f (A ++ [cutV f (oneV m (m.f2[i]'hlt))]) ((i + 1 : Nat) : Int) m.f0 m.f1 m.f2 m.f3 m.f4 m.f5 else none) else forebayref09_Cut.l0 k f A ((i + 1 : Nat) : Int) m.f0 m.f1 m.f2 m.f3 m.f4 m.f5) (fun k => ?_) ?_
      · simp only [forebayref09_Cut.l0]
        rw [if_pos (by omega), if_pos (by omega), Option.bind_some, if_neg hf, rd_dec m.f2 i hlt, w1 i (by omega)]
        unfold cutV oneV
        rw [if_neg hf]
      · have hs' : Ev (fun k => forebayref09_Says.f k m.f0 m.f1 [m.f2[i]'hlt] m.f3 [] m.f5 f) (sayB (cutV f (oneV m (m.f2[i]'hlt))) f) := by
          refine Ev.congr (fun k => ?_) hs
          unfold cutV oneV
          rw [if_neg hf]
        refine Ev.bind hs' ?_
        cases hb : sayB (cutV f (oneV m (m.f2[i]'hlt))) f with
        | true =>
          rw [List.filter_cons_of_pos (by simpa using hb), List.filter_nil] at h1
          exact Ev.congr (fun k => by rw [if_pos rfl, if_pos hlen]) h1
        | false =>
          rw [List.filter_cons_of_neg (by simpa using hb), List.filter_nil, List.append_nil] at h1
          exact Ev.congr (fun k => if_neg (by decide)) h1
theorem refcut_ev (m : S25) (f : Int) (hm : metIn m = true) (h2 : m.f2.length ≤ 80) (h4 : m.f4.length ≤ 40) : Ev (fun k => forebayref09_Cut.f k m.f0 m.f1 m.f2 m.f3 m.f4 m.f5 f) (cutR m f) := by
  have hj : Ev (fun k => forebayref09_Cut.j0 k f true m.f0 m.f1 m.f2 m.f3 m.f4 m.f5) ([], 29) := Ev.step (f := fun _ => some ([], 29)) (fun k => by simp only [forebayref09_Cut.j0]; rfl) (Ev.now _)
  have hout : f < 1 ∨ 4 < f → cutR m f = ([], 29) := by
    intro h
    have hb : sayBad m f = 29 := by unfold sayBad; rw [if_pos h]
    unfold cutR
    rw [hb, if_neg (by decide), if_neg (by decide)]
  unfold forebayref09_Cut.f
  by_cases f1 : f < 1
  · rw [hout (.inl f1)]
    exact Ev.congr (fun k => if_pos f1) hj
  by_cases f4 : 4 < f
  · rw [hout (.inr f4)]
    exact Ev.congr (fun k => by rw [if_neg f1, decide_eq_true (show f > 4 from f4)]) hj
  refine Ev.congr (f := fun k => forebayref09_Cut.j0 k f false m.f0 m.f1 m.f2 m.f3 m.f4 m.f5) (fun k => by rw [if_neg f1, decide_eq_false (show ¬ f > 4 from f4)]) ?_
  refine Ev.step (f := fun k => (forebayref07_Check.f k m.f0 m.f1 m.f2 m.f3 m.f4 m.f5).bind fun t => if t = 0 then (if f = 2 then forebayref09_Cut.j1 k f true m.f0 m.f1 m.f2 m.f3 m.f4 m.f5 else forebayref09_Cut.j1 k f (f == 4) m.f0 m.f1 m.f2 m.f3 m.f4 m.f5) else some ([], t)) (fun k => by simp only [forebayref09_Cut.j0]; rw [if_neg (by decide)]) (Ev.bind (refmet_ev m hm (by omega)) ?_)
  have hsb : sayBad m f = if metBad m ≠ 0 then metBad m else if sayB m f = true then 0 else 26 := by unfold sayBad; rw [if_neg (by omega)]
  by_cases hb : metBad m = 0
  · rw [if_neg (fun h => h hb)] at hsb
    refine Ev.congr (fun k => if_pos hb) ?_
    have hj1 : Ev (fun k => forebayref09_Cut.j1 k f true m.f0 m.f1 m.f2 m.f3 m.f4 m.f5) ([m], 0) := by
      refine Ev.step (f := fun _ => some ([m], 0)) (fun k => ?_) (Ev.now _)
      simp only [forebayref09_Cut.j1]
      rw [if_pos trivial]
      unfold forebayref07_Copy.f
      rw [Option.bind_some, if_pos (by simp; omega), Option.bind_some, if_pos (by simp; omega)]
      rfl
    by_cases fb : f = 2 ∨ f = 4
    · have hs : sayB m f = true := by
        unfold sayB
        rw [if_neg (by omega), if_neg (by omega)]
      rw [if_pos hs] at hsb
      have : cutR m f = ([m], 0) := by unfold cutR; rw [if_pos hsb]
      rw [this]
      rcases fb with rfl | rfl
      · exact Ev.congr (fun k => if_pos rfl) hj1
      · exact Ev.congr (fun k => by rw [if_neg (by decide)]; rfl) hj1
    · have hj2 : Ev (fun k => forebayref09_Cut.j1 k f false m.f0 m.f1 m.f2 m.f3 m.f4 m.f5) (if refL m f = [] then ([], 26) else (refL m f, 0)) := by
        refine Ev.step (fun k => ?_) (refcut_l0 m f h2 m.f2.length 0 (by omega))
        simp only [forebayref09_Cut.j1]
        rw [if_neg (by decide)]
        rfl
      refine Ev.congr (f := fun k => forebayref09_Cut.j1 k f false m.f0 m.f1 m.f2 m.f3 m.f4 m.f5) (fun k => by rw [if_neg (by omega), show (f == 4) = false from beq_eq_false_iff_ne.mpr (by omega)]) ?_
      have e : cutR m f = (if refL m f = [] then ([], 26) else (refL m f, 0)) := by
        unfold cutR
        by_cases hs : sayB m f = true
        · rw [if_pos hs] at hsb
          rw [if_pos hsb, refL_one m f (by omega) hs, if_neg (by simp)]
        · rw [if_neg hs] at hsb
          rw [hsb, if_neg (by decide), if_pos rfl, refL_cut m f hb (by omega)]
      rw [e]
      exact hj2
  · rw [if_pos hb] at hsb
    have : cutR m f = ([], metBad m) := by
      unfold cutR
      rw [hsb, if_neg hb, if_neg (met26 m)]
    rw [this]
    exact Ev.congr (fun k => if_neg hb) (Ev.now _)
theorem cutR_small (m : S25) (f : Int) (h2 : m.f2.length ≤ 80) (h4 : m.f4.length ≤ 40) : (cutR m f).1.length ≤ 140737488355328 ∧ ∀ x ∈ (cutR m f).1, x.f2.length ≤ 140737488355328 ∧ x.f4.length ≤ 140737488355328 := by
  have hl : (cutL m f).length ≤ 80 := by
    unfold cutL
    refine Nat.le_trans (List.length_filter_le _ _) ?_
    rw [List.length_map, List.length_map]
    exact h2
  have hx : ∀ x ∈ cutL m f, x.f2.length ≤ 140737488355328 ∧ x.f4.length ≤ 140737488355328 := by
    intro x hx
    obtain ⟨y, hy, rfl⟩ := List.mem_map.1 (List.mem_filter.1 hx).1
    obtain ⟨d, hd, rfl⟩ := List.mem_map.1 hy
    exact ⟨by simp [cutV, oneV], by simp [cutV]⟩
  unfold cutR
  split
  · refine ⟨by simp, fun x hx => ?_⟩
    obtain rfl := List.mem_singleton.1 hx
    omega
  · split
    · split
      · exact ⟨by simp, fun x hx => by cases hx⟩
      · exact ⟨by show (cutL m f).length ≤ _; omega, hx⟩
    · exact ⟨by simp, fun x hx => by cases hx⟩
theorem exprCuts_pure (m : S25) (f : Int) (hm : metIn m = true) : ∃ k, forebaylaw09_ExprCuts.f k m.f0 m.f1 m.f2 m.f3 m.f4 m.f5 f = some true := by
  refine Ev.rounds ?_
  obtain ⟨b, hb, hl⟩ := few_ev m
  unfold forebaylaw09_ExprCuts.f
  refine Ev.bind hb ?_
  cases b with
  | false => exact Ev.congr (fun k => if_neg (by decide)) (Ev.bind awake_ev (Ev.now _))
  | true =>
    obtain ⟨h2, h4⟩ := hl rfl
    obtain ⟨s1, s2⟩ := cutR_small m f h2 h4
    refine Ev.congr (fun k => if_pos rfl) (Ev.bind (cut_ev m f hm h2 h4) (Ev.bind (refcut_ev m f hm h2 h4) ?_))
    exact Ev.congr (fun k => if_pos rfl) (Ev.bind (eqb_self _ s1 s2) (Ev.congr (fun k => if_pos rfl) (Ev.bind awake_ev (Ev.now _))))
end Go.Proofs.Ytbdennijmfgdpaa.PE
