/- TagOnce: tags are told in order, each once, whichever way they were told; plain; no condition. -/
import Derived.Test.YthflkmgcifccjaaDoorZQRTagL
import Derived.Test.YthflkmgcifccjaaDoorZQPEx6
namespace Go.Proofs.YthflkmgcifccjaaDoor.PE
open Go.RowKit Go.Proofs.YthflkmgcifccjaaDoorW.PrintWords Go.Proofs.YthflkmgcifccjaaDoorW.PrintLast Go.Proofs.YthflkmgcifccjaaDoorW.PrintMore Go.Proofs.YthflkmgcifccjaaDoor
set_option linter.unusedVariables false
set_option linter.unusedSimpArgs false
def swp (xs : List S34) (a b : Nat) : List S34 := match xs[a]?, xs[b]? with
  | some x, some y => (xs.set a y).set b x
  | _, _ => xs
theorem swp_len (xs : List S34) (a b : Nat) : (swp xs a b).length = xs.length := by
  unfold swp
  split <;> simp
theorem swp_get (xs : List S34) (a b : Nat) (ha : a < xs.length) (hb : b < xs.length) (j : Nat) : (swp xs a b)[j]? = if j = b then xs[a]? else if j = a then xs[b]? else xs[j]? := by
  unfold swp
  rw [List.getElem?_eq_getElem ha, List.getElem?_eq_getElem hb]
  simp only
  rw [List.getElem?_set, List.getElem?_set, List.length_set]
  by_cases h1 : b = j
  · rw [if_pos h1, if_pos hb, if_pos h1.symm]
  · by_cases h2 : a = j
    · rw [if_neg h1, if_pos h2, if_pos ha, if_neg (fun e => h1 e.symm), if_pos h2.symm]
    · rw [if_neg h1, if_neg h2, if_neg (fun e => h1 e.symm), if_neg (fun e => h2 e.symm)]
theorem swp_mem (xs : List S34) (a b : Nat) (ha : a < xs.length) (hb : b < xs.length) (y : S34) : y ∈ swp xs a b ↔ y ∈ xs := by
  constructor
  · intro h
    obtain ⟨j, hj⟩ := List.mem_iff_getElem?.1 h
    rw [swp_get xs a b ha hb] at hj
    split at hj
    · exact List.mem_of_getElem? hj
    · split at hj
      · exact List.mem_of_getElem? hj
      · exact List.mem_of_getElem? hj
  · intro h
    obtain ⟨j, hj⟩ := List.mem_iff_getElem?.1 h
    by_cases h1 : j = a
    · subst h1
      exact List.mem_of_getElem? (i := b) (by rw [swp_get xs j b ha hb, if_pos rfl, hj])
    · by_cases h2 : j = b
      · subst h2
        exact List.mem_of_getElem? (i := a) (by rw [swp_get xs a j ha hb, if_neg (fun e => h1 e.symm), if_pos rfl, hj])
      · exact List.mem_of_getElem? (i := j) (by rw [swp_get xs a b ha hb, if_neg h2, if_neg h1, hj])
theorem swp_set (xs : List S34) (a b : Int) (ha : 0 ≤ a ∧ a < xs.length) (hb : 0 ≤ b ∧ b < xs.length) :
    (xs.set a.toNat (⟨(rd_T34 xs b).f0, (rd_T34 xs b).f1⟩ : S34)).set b.toNat (⟨(rd_T34 xs a).f0, (rd_T34 xs a).f1⟩ : S34) = swp xs a.toNat b.toNat := by
  obtain ⟨m, rfl⟩ := Int.eq_ofNat_of_zero_le ha.1
  obtain ⟨n, rfl⟩ := Int.eq_ofNat_of_zero_le hb.1
  have hm : m < xs.length := by omega
  have hn : n < xs.length := by omega
  rw [Int.toNat_natCast, Int.toNat_natCast, rd_tag xs m hm, rd_tag xs n hn]
  unfold swp
  rw [List.getElem?_eq_getElem hm, List.getElem?_eq_getElem hn]
theorem tm_in (v : Int) (n : Int) (hn : 0 < n ∧ n ≤ 1000000) : 0 ≤ Int.tmod (wrap64 (Int.tmod v n + n)) n ∧ Int.tmod (wrap64 (Int.tmod v n + n)) n < n := by
  have h1 := Int.tmod_lt_of_pos v hn.1
  have h2 := Int.lt_tmod_of_pos v hn.1
  rw [IntWalk.wrap64_in _ (by omega)]
  exact ⟨Int.tmod_nonneg n (by omega), Int.tmod_lt_of_pos _ hn.1⟩
def cntT (x : S34) : List S34 → Nat
  | [] => 0
  | y :: l => (if tEq y x = true then 1 else 0) + cntT x l
theorem cntT_zero (x : S34) : ∀ l, x ∉ l → cntT x l = 0
  | [], _ => rfl
  | y :: l, h => by
    unfold cntT
    rw [if_neg (fun e => h (by rw [tEq_iff.1 e]; simp)), cntT_zero x l (fun e => h (List.mem_cons_of_mem _ e))]
theorem cntT_one (x : S34) : ∀ l, TUp l → x ∈ l → cntT x l = 1
  | [], _, h => by cases h
  | y :: l, hu, h => by
    have hp := List.pairwise_cons.1 hu
    unfold cntT
    by_cases e : y = x
    · subst e
      rw [if_pos (tEq_refl y), cntT_zero y l (fun hm => by
        have := hp.1 y hm
        rw [tLt_irr] at this
        cases this)]
    · rw [if_neg (fun h2 => e (tEq_iff.1 h2)), cntT_one x l hp.2 (by
        rcases List.mem_cons.1 h with h | h
        · exact absurd h.symm e
        · exact h)]
theorem once_l4 (l m : List S34) (hl : l.length ≤ 1000000) (hml : m.length ≤ 1000000) (i : Nat) (hi : i < m.length) : ∀ (d j : Nat) (b : Bool), j + d = l.length → (b = true ∨ m[i]'hi ∈ l.drop j) → Ev (fun k => forebaylaw06_TagOnce.l3 k l m ((i + 1 : Nat) : Int)) true → Ev (fun k => forebaylaw06_TagOnce.l4 k l m (i : Int) b (j : Int)) true := by
  intro d
  induction d with
  | zero =>
    intro j b hj hb hE
    rw [List.drop_eq_nil_of_le (by omega)] at hb
    have hb : b = true := by simpa using hb
    refine Ev.step (fun k => ?_) hE
    simp only [forebaylaw06_TagOnce.l4]
    rw [if_neg (by omega), if_pos hb, w1 i (by omega)]
  | succ d ih =>
    intro j b hj hb hE
    have hlt : j < l.length := by omega
    have hw := w1 j (by omega)
    rw [List.drop_eq_getElem_cons hlt] at hb
    by_cases c : b = true
    · refine Ev.step (fun k => ?_) (ih (j + 1) true (by omega) (.inl rfl) hE)
      simp only [forebaylaw06_TagOnce.l4]
      rw [if_pos (by omega), if_pos c, hw]
    · have h2 := hb.resolve_left c
      refine Ev.step (fun k => ?_) (ih (j + 1) (tEq (l[j]'hlt) (m[i]'hi)) (by omega) (by
        rcases List.mem_cons.1 h2 with h | h
        · exact .inl (tEq_iff.2 h.symm)
        · exact .inr h) hE)
      simp only [forebaylaw06_TagOnce.l4]
      rw [if_pos (by omega), if_neg c, if_pos (by omega), if_pos (by omega), if_pos (by omega), rd_tag l j hlt, rd_tag m i hi, hw]
      rfl
theorem once_l3 (l m : List S34) (hl : l.length ≤ 1000000) (hml : m.length ≤ 1000000) (hm : ∀ x ∈ m, x ∈ l) : ∀ (d i : Nat), i + d = m.length → Ev (fun k => forebaylaw06_TagOnce.l3 k l m (i : Int)) true := by
  have haw : Ev (fun k => (forebaylaw06_awake.f k).bind fun t => some t) true := Ev.bind awake06_ev (Ev.now _)
  intro d
  induction d with
  | zero =>
    intro i hi
    refine Ev.step (fun k => ?_) haw
    simp only [forebaylaw06_TagOnce.l3]
    rw [if_neg (by omega)]
  | succ d ih =>
    intro i hi
    have hlt : i < m.length := by omega
    refine Ev.step (fun k => ?_) (once_l4 l m hl hml i hlt l.length 0 false (by omega) (.inr (by rw [List.drop_zero]; exact hm _ (List.getElem_mem hlt))) (ih (i + 1) (by omega)))
    simp only [forebaylaw06_TagOnce.l3]
    rw [if_pos (by omega)]
    rfl
theorem once_l2 (l m : List S34) (hm : m.length ≤ 1000000) (i : Nat) (hi : i < l.length) (hil : l.length ≤ 1000000) : ∀ (d j n : Nat), j + d = m.length → n ≤ j → n + cntT (l[i]'hi) (m.drop j) = 1 → Ev (fun k => forebaylaw06_TagOnce.l1 k l m ((i + 1 : Nat) : Int)) true → Ev (fun k => forebaylaw06_TagOnce.l2 k l m (i : Int) (n : Int) (j : Int)) true := by
  intro d
  induction d with
  | zero =>
    intro j n hj hn hc hE
    rw [List.drop_eq_nil_of_le (by omega)] at hc
    have hc : n = 1 := by simpa [cntT] using hc
    refine Ev.step (fun k => ?_) hE
    simp only [forebaylaw06_TagOnce.l2]
    rw [if_neg (by omega), if_pos (by omega), w1 i (by omega)]
  | succ d ih =>
    intro j n hj hn hc hE
    have hlt : j < m.length := by omega
    have hw := w1 j (by omega)
    have hw2 := w1 n (by omega)
    rw [List.drop_eq_getElem_cons hlt, cntT] at hc
    have hstep : ∀ k, forebaylaw06_TagOnce.l2 (k + 1) l m (i : Int) (n : Int) (j : Int) = if tEq (m[j]'hlt) (l[i]'hi) = true then forebaylaw06_TagOnce.l2 k l m (i : Int) ((n + 1 : Nat) : Int) ((j + 1 : Nat) : Int) else forebaylaw06_TagOnce.l2 k l m (i : Int) (n : Int) ((j + 1 : Nat) : Int) := fun k => by
      simp only [forebaylaw06_TagOnce.l2]
      rw [if_pos (by omega), if_pos (by omega), if_pos (by omega), if_pos (by omega), rd_tag m j hlt, rd_tag l i hi, hw, hw2]
      rfl
    by_cases c : tEq (m[j]'hlt) (l[i]'hi) = true
    · rw [if_pos c] at hc
      exact Ev.step (fun k => by rw [hstep k, if_pos c]) (ih (j + 1) (n + 1) (by omega) (by omega) (by omega) hE)
    · rw [if_neg c] at hc
      exact Ev.step (fun k => by rw [hstep k, if_neg c]) (ih (j + 1) n (by omega) (by omega) (by omega) hE)
theorem once_l1 (l : List S34) (hl : l.length ≤ 60) : ∀ (d i : Nat), i + d = l.length → Ev (fun k => forebaylaw06_TagOnce.l1 k l (tNorm l) (i : Int)) true := by
  have hn := tNorm_len6 l
  intro d
  induction d with
  | zero =>
    intro i hi
    refine Ev.step (fun k => ?_) (once_l3 l (tNorm l) (by omega) (by omega) (fun x hx => (tNorm_mem l x).1 hx) (tNorm l).length 0 (by omega))
    simp only [forebaylaw06_TagOnce.l1]
    rw [if_neg (by omega)]
    rfl
  | succ d ih =>
    intro i hi
    have hlt : i < l.length := by omega
    refine Ev.step (fun k => ?_) (once_l2 l (tNorm l) (by omega) i hlt (by omega) (tNorm l).length 0 0 (by omega) (Nat.le_refl _) (by
      rw [List.drop_zero, cntT_one _ _ (tNorm_up l) ((tNorm_mem l _).2 (List.getElem_mem hlt))]) (ih (i + 1) (by omega)))
    simp only [forebaylaw06_TagOnce.l1]
    rw [if_pos (by omega)]
    rfl
theorem once_j2 (l row : List S34) (hl : l.length ≤ 60) (hr : row.length = l.length) (hm : ∀ y, y ∈ row ↔ y ∈ l) (t : Int) (h0 : 0 ≤ t) (h1 : t ≤ l.length) : Ev (fun k => forebaylaw06_TagOnce.j2 k l t row) true := by
  have hn := tNorm_len6 l
  have htl : (l.take t.toNat).length ≤ 60 := by rw [List.length_take]; omega
  have hall : tNorm (row ++ l.take t.toNat) = tNorm l := TUp.ext (tNorm_up _) (tNorm_up _) fun y => by
    rw [tNorm_mem, tNorm_mem, List.mem_append, hm]
    exact ⟨fun h => h.elim id List.mem_of_mem_take, .inl⟩
  have hj3 : Ev (fun k => forebaylaw06_TagOnce.j3 k l (tNorm l) (!true)) true := Ev.step (fun k => by simp only [forebaylaw06_TagOnce.j3]; exact if_neg (by decide)) (once_l1 l hl l.length 0 (by omega))
  have e1 := tagNorm_f l (by omega)
  have e2 := tagNorm_f (row ++ l.take t.toNat) (by rw [List.length_append]; omega)
  rw [hall] at e2
  have e3 := tagNorm_f (tNorm l) (by omega)
  rw [tNorm_of_up (tNorm_up l)] at e3
  have hts := tagis_ev (tNorm l) (by omega)
  rw [(tIs_iff _).2 (tNorm_up l)] at hts
  refine Ev.step (f := fun k => (forebaylaw06_same.f k (tNorm l) (tNorm l)).bind fun t283 => (if t283 = true then ((forebaylaw06_same.f k (row ++ l.take t.toNat) (row ++ l.take t.toNat)).bind fun t284 => (if t284 = true then ((tag_Is.f k (tNorm l)).bind fun t285 => (if t285 = true then ((forebaylaw06_same.f k (tNorm l) (tNorm l)).bind fun t289 => (forebaylaw06_TagOnce.j3 k l (tNorm l) (!t289))) else (forebaylaw06_TagOnce.j3 k l (tNorm l) true))) else (forebaylaw06_TagOnce.j3 k l (tNorm l) true))) else (forebaylaw06_TagOnce.j3 k l (tNorm l) true))) (fun k => ?_) ?_
  · simp only [forebaylaw06_TagOnce.j2]
    rw [if_pos h0, if_pos h1]
    simp only [Option.bind_some, List.nil_append, List.length_nil, Nat.zero_add]
    rw [if_pos (by omega), if_pos (by rw [List.length_append]; omega), e1]
    simp only [Option.bind_some]
    rw [e2]
    simp only [Option.bind_some]
    rw [e3]
    simp only [Option.bind_some]
  · refine Ev.bind (same_refl _ (by omega)) (Ev.congr (fun k => if_pos rfl) (Ev.bind (same_refl _ (by rw [List.length_append]; omega)) (Ev.congr (fun k => if_pos rfl) (Ev.bind hts (Ev.congr (fun k => if_pos rfl) (Ev.bind (same_refl _ (by omega)) hj3))))))
theorem once_l0 (l : List S34) (hl : l.length ≤ 60) (sw : List Int) (hs : sw.length ≤ 60) (t : Int) (h0 : 0 ≤ t) (h1 : t ≤ l.length) : ∀ (d i : Nat) (row : List S34), sw.length ≤ i + d → i ≤ 1000 → row.length = l.length → (∀ y, y ∈ row ↔ y ∈ l) →
    Ev (fun k => forebaylaw06_TagOnce.l0 k l sw t row (i : Int)) true := by
  intro d
  induction d with
  | zero =>
    intro i row hi hb hr hm
    refine Ev.step (fun k => ?_) (once_j2 l row hl hr hm t h0 h1)
    simp only [forebaylaw06_TagOnce.l0]
    rw [w1 i (by omega), if_neg (by omega)]
  | succ d ih =>
    intro i row hi hb hr hm
    have hw := w1 i (by omega)
    by_cases c1 : i + 1 < sw.length
    · by_cases c2 : 0 < l.length
      · have ta := tm_in (rd sw (i : Int)) (l.length : Int) (by omega)
        have tb := tm_in (rd sw ((i + 1 : Nat) : Int)) (l.length : Int) (by omega)
        have hset := swp_set row _ _ ⟨ta.1, by omega⟩ ⟨tb.1, by omega⟩
        have hw2 : wrap64 ((i : Int) + 2) = ((i + 2 : Nat) : Int) := by rw [IntWalk.wrap64_in _ (by omega)]; omega
        refine Ev.step (fun k => ?_) (ih (i + 2) (swp row _ _) (by omega) (by omega) ((swp_len _ _ _).trans hr) (fun y => (swp_mem row (Int.tmod (wrap64 (Int.tmod (rd sw (i : Int)) (l.length : Int) + (l.length : Int))) (l.length : Int)).toNat (Int.tmod (wrap64 (Int.tmod (rd sw ((i + 1 : Nat) : Int)) (l.length : Int) + (l.length : Int))) (l.length : Int)).toNat (by omega) (by omega) y).trans (hm y)))
        simp only [forebaylaw06_TagOnce.l0]
        rw [hw, if_pos (by omega), if_pos (by omega), if_pos (by omega), if_pos (by omega), if_neg (by omega), if_pos (by omega), if_pos tb.1, if_pos (by omega), if_pos ta.1, if_pos (by omega), hset, hw2]
      · refine Ev.step (fun k => ?_) (once_j2 l row hl hr hm t h0 h1)
        simp only [forebaylaw06_TagOnce.l0]
        rw [hw, if_pos (by omega), if_neg (by omega)]
    · refine Ev.step (fun k => ?_) (once_j2 l row hl hr hm t h0 h1)
      simp only [forebaylaw06_TagOnce.l0]
      rw [hw, if_neg (by omega)]
theorem tagOnce_pure (l : List S34) (sw : List Int) (t : Int) : ∃ k, forebaylaw06_TagOnce.f k l sw t = some true := by
  refine Ev.rounds ?_
  have haw : Ev (fun k => (forebaylaw06_awake.f k).bind fun t => some t) true := Ev.bind awake06_ev (Ev.now _)
  have hjt : Ev (fun k => forebaylaw06_TagOnce.j0 k l sw t true) true := Ev.step (fun k => by simp only [forebaylaw06_TagOnce.j0]; exact if_pos trivial) haw
  unfold forebaylaw06_TagOnce.f
  obtain ⟨p, hp, hq⟩ := few6_ev l
  refine Ev.bind hp ?_
  cases p with
  | false => exact Ev.congr (fun k => if_neg (by decide)) hjt
  | true =>
    have hl := (hq rfl).1
    refine Ev.congr (fun k => if_pos rfl) ?_
    by_cases c1 : (sw.length : Int) > 60
    · exact Ev.congr (fun k => if_pos c1) hjt
    · by_cases c2 : t < 0
      · exact Ev.congr (fun k => by rw [if_neg c1, if_pos c2]) hjt
      · by_cases c3 : t > (l.length : Int)
        · refine Ev.congr (fun k => by rw [if_neg c1, if_neg c2, decide_eq_true c3]) hjt
        · refine Ev.congr (f := fun k => forebaylaw06_TagOnce.j0 k l sw t false) (fun k => by rw [if_neg c1, if_neg c2, decide_eq_false c3]) ?_
          refine Ev.step (fun k => ?_) (once_l0 l hl sw (by omega) t (by omega) (by omega) sw.length 0 l (by omega) (by omega) rfl (fun y => Iff.rfl))
          simp only [forebaylaw06_TagOnce.j0]
          rw [if_neg (by decide)]
          simp only [Option.bind_some, List.nil_append, List.length_nil, Nat.zero_add]
          rw [if_pos (by omega)]
          rfl
end Go.Proofs.YthflkmgcifccjaaDoor.PE
