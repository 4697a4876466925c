/- MetricTags: in which order tags come, and how often, is nothing to what is the same; plain; no condition. -/
import Derived.Test.YteamldgngknmfaaZJInjN
import Derived.Test.YteamldgngknmfaaZJRAwk7
import Derived.Test.YteamldgngknmfaaZJPEx18
namespace Go.Proofs.Yteamldgngknmfaa.PE
open Go.RowKit Go.Proofs.YteamldgngknmfaaW.PrintWords Go.Proofs.YteamldgngknmfaaW.PrintLast Go.Proofs.YteamldgngknmfaaW.PrintMore Go.Proofs.Yteamldgngknmfaa
set_option linter.unusedVariables false
set_option linter.unusedSimpArgs false
def swq {α : Type} (xs : List α) (a b : Nat) : List α := match xs[a]?, xs[b]? with
 | some x, some y => (xs.set a y).set b x
 | _, _ => xs
theorem swq_len {α : Type} (xs : List α) (a b : Nat) : (swq xs a b).length = xs.length := by
 unfold swq
 split <;> simp
theorem swq_get {α : Type} (xs : List α) (a b : Nat) (ha : a < xs.length) (hb : b < xs.length) (j : Nat) : (swq xs a b)[j]? = if j = b then xs[a]? else if j = a then xs[b]? else xs[j]? := by
 unfold swq
 rw [List.getElem?_eq_getElem ha, List.getElem?_eq_getElem hb]
 simp only
 rw [List.getElem?_set, List.getElem?_set, List.length_set]
 by_cases h1 : b = j
 ·rw [if_pos h1, if_pos hb, if_pos h1.symm]
 ·by_cases h2 : a = j
  ·rw [if_neg h1, if_pos h2, if_pos ha, if_neg (fun e => h1 e.symm), if_pos h2.symm]
  ·rw [if_neg h1, if_neg h2, if_neg (fun e => h1 e.symm), if_neg (fun e => h2 e.symm)]
theorem swq_mem {α : Type} (xs : List α) (a b : Nat) (ha : a < xs.length) (hb : b < xs.length) (y : α) : y ∈ swq xs a b ↔ y ∈ xs := by
 constructor
 ·intro h
  obtain ⟨j, hj⟩ := List.mem_iff_getElem?.1 h
  rw [swq_get xs a b ha hb] at hj
  split at hj
  ·exact List.mem_of_getElem? hj
  ·split at hj
   ·exact List.mem_of_getElem? hj
   ·exact List.mem_of_getElem? hj
 ·intro h
  obtain ⟨j, hj⟩ := List.mem_iff_getElem?.1 h
  by_cases h1 : j = a
  ·subst h1
   exact List.mem_of_getElem? (i := b) (by rw [swq_get xs j b ha hb, if_pos rfl, hj])
  ·by_cases h2 : j = b
   ·subst h2
    exact List.mem_of_getElem? (i := a) (by rw [swq_get xs a j ha hb, if_neg (fun e => h1 e.symm), if_pos rfl, hj])
   ·exact List.mem_of_getElem? (i := j) (by rw [swq_get xs a b ha hb, if_neg h2, if_neg h1, hj])
theorem swq_map {α β : Type} (f : α → β) (xs : List α) (a b : Nat) (ha : a < xs.length) (hb : b < xs.length) : xs.map f = (swq xs a b).map f ↔ f (xs[a]'ha) = f (xs[b]'hb) := by
 constructor
 ·intro h
  have h1 := congrArg (fun l => l[b]?) h
  simp only [List.getElem?_map] at h1
  rw [swq_get xs a b ha hb, if_pos rfl, List.getElem?_eq_getElem ha, List.getElem?_eq_getElem hb] at h1
  exact (Option.some.inj h1).symm
 ·intro h
  refine List.ext_getElem? fun j => ?_
  rw [List.getElem?_map, List.getElem?_map, swq_get xs a b ha hb]
  by_cases h1 : j = b
  ·subst h1
   rw [if_pos rfl, List.getElem?_eq_getElem ha, List.getElem?_eq_getElem hb, Option.map_some, Option.map_some, h]
  ·rw [if_neg h1]
   by_cases h2 : j = a
   ·subst h2
    rw [if_pos rfl, List.getElem?_eq_getElem ha, List.getElem?_eq_getElem hb, Option.map_some, Option.map_some, h]
   ·rw [if_neg h2]
theorem swq_tag (xs : List S37) (a b : Int) (ha : 0 ≤ a ∧ a < xs.length) (hb : 0 ≤ b ∧ b < xs.length) :
  (xs.set a.toNat (⟨(rd_T37 xs b).f0, (rd_T37 xs b).f1⟩ : S37)).set b.toNat (⟨(rd_T37 xs a).f0, (rd_T37 xs a).f1⟩ : S37) = swq xs a.toNat b.toNat := by
 obtain ⟨m, rfl⟩ := Int.eq_ofNat_of_zero_le ha.1
 obtain ⟨n, rfl⟩ := Int.eq_ofNat_of_zero_le hb.1
 have hm : m < xs.length := by omega
 have hn : n < xs.length := by omega
 rw [Int.toNat_natCast, Int.toNat_natCast, rd_tag xs m hm, rd_tag xs n hn]
 unfold swq
 rw [List.getElem?_eq_getElem hm, List.getElem?_eq_getElem hn]
theorem swq_dec (xs : List S40) (a b : Int) (ha : 0 ≤ a ∧ a < xs.length) (hb : 0 ≤ b ∧ b < xs.length) :
  (xs.set a.toNat (⟨(rd_T40 xs b).f0, (rd_T40 xs b).f1, (rd_T40 xs b).f2⟩ : S40)).set b.toNat (⟨(rd_T40 xs a).f0, (rd_T40 xs a).f1, (rd_T40 xs a).f2⟩ : S40) = swq xs a.toNat b.toNat := by
 obtain ⟨m, rfl⟩ := Int.eq_ofNat_of_zero_le ha.1
 obtain ⟨n, rfl⟩ := Int.eq_ofNat_of_zero_le hb.1
 have hm : m < xs.length := by omega
 have hn : n < xs.length := by omega
 rw [Int.toNat_natCast, Int.toNat_natCast, rd_dec xs m hm, rd_dec xs n hn]
 unfold swq
 rw [List.getElem?_eq_getElem hm, List.getElem?_eq_getElem hn]
theorem one_dec (xs : List S40) (a : Int) (ha : 0 ≤ a ∧ a < xs.length) : (⟨(rd_T40 xs a).f0, (rd_T40 xs a).f1, (rd_T40 xs a).f2⟩ : S40) = xs[a.toNat]'(by omega) := by
 obtain ⟨m, rfl⟩ := Int.eq_ofNat_of_zero_le ha.1
 have hm : m < xs.length := by omega
 rw [rd_dec xs m hm]
 rfl
theorem tm_in (v : Int) (n : Int) (hn : 0 < n ∧ n ≤ 1000000) : 0 ≤ Int.tmod (wrap64 (Int.tmod v n + n)) n ∧ Int.tmod (wrap64 (Int.tmod v n + n)) n < n := by
 have h1 := Int.tmod_lt_of_pos v hn.1
 have h2 := Int.lt_tmod_of_pos v hn.1
 rw [IntWalk.wrap64_in _ (by omega)]
 exact ⟨Int.tmod_nonneg n (by omega), Int.tmod_lt_of_pos _ hn.1⟩
structure RowOf (m : S25) (row : List S37) : Prop where
 mem : ∀ y, y ∈ row ↔ y ∈ m.f4
 len : row.length ≤ 32 ↔ m.f4.length ≤ 32
 most : row.length ≤ 41
theorem part4_of {m : S25} {row : List S37} (h : RowOf m row) : (decide ((row.length : Int) ≤ 32) && !(row.any tagW)) = (decide ((m.f4.length : Int) ≤ 32) && !(m.f4.any tagW)) := by
 have e1 : decide ((row.length : Int) ≤ 32) = decide ((m.f4.length : Int) ≤ 32) := by
  rw [Bool.eq_iff_iff, decide_eq_true_eq, decide_eq_true_eq]
  have := h.len
  omega
 have e2 : row.any tagW = m.f4.any tagW := by
  rw [Bool.eq_iff_iff, List.any_eq_true, List.any_eq_true]
  exact ⟨fun ⟨x, hx, hw⟩ => ⟨x, (h.mem x).1 hx, hw⟩, fun ⟨x, hx, hw⟩ => ⟨x, (h.mem x).2 hx, hw⟩⟩
 rw [e1, e2]
theorem tNorm_of {m : S25} {row : List S37} (h : RowOf m row) : tNorm row = tNorm m.f4 := TUp.ext (tNorm_up _) (tNorm_up _) fun y => by rw [tNorm_mem, tNorm_mem, h.mem]
theorem metNorm_row (m : S25) (row : List S37) (h : RowOf m row) : metNorm ⟨m.f0, m.f1, m.f2, m.f3, row, m.f5⟩ = metNorm m := by
 have hb : metBad (metV ⟨m.f0, m.f1, m.f2, m.f3, row, m.f5⟩) = metBad (metV m) := by
  have h4 : metPart (metV ⟨m.f0, m.f1, m.f2, m.f3, row, m.f5⟩) 4 = metPart (metV m) 4 := part4_of (m := m) (row := row) h
  unfold metBad
  rw [h4]
  rfl
 unfold metNorm
 rw [hb]
 dsimp only
 rw [tNorm_of h]
theorem metNorm_ok {m : S25} (h : (metNorm m).2 = 0) : metBad (metV m) = 0 := by
 unfold metNorm at h
 split at h
 ·assumption
 ·exact h
theorem metNorm_eq {m : S25} (h : (metNorm m).2 = 0) : metNorm m = (⟨m.f0, m.f1, m.f2.map normV, m.f3, tNorm m.f4, m.f5⟩, 0) := if_pos (metNorm_ok h)
theorem metNorm_vals (m : S25) (h : (metNorm m).2 = 0) (vs : List S40) (h1 : 1 ≤ vs.length ∧ vs.length ≤ 64) (hv : ∀ d ∈ vs, d ∈ m.f2) (row : List S37) (hr : RowOf m row) :
  metNorm ⟨m.f0, m.f1, vs, m.f3, row, m.f5⟩ = (⟨m.f0, m.f1, vs.map normV, m.f3, tNorm m.f4, m.f5⟩, 0) := by
 have hp := metBad_parts (metNorm_ok h)
 have h4 : metPart (metV ⟨m.f0, m.f1, vs, m.f3, row, m.f5⟩) 4 = metPart (metV m) 4 := part4_of (m := m) (row := row) hr
 have h2 : metPart (metV ⟨m.f0, m.f1, vs, m.f3, row, m.f5⟩) 2 = true := by
  have h2 : (betB (m.f2.map normV).length 1 64 && !((m.f2.map normV).any decW)) = true := hp.2.2.1
  show (betB (vs.map normV).length 1 64 && !((vs.map normV).any decW)) = true
  rw [Bool.and_eq_true] at h2 ⊢
  refine ⟨?_, ?_⟩
  ·rw [List.length_map]
   unfold betB
   simp only [Bool.and_eq_true, decide_eq_true_eq]
   omega
  ·have h3 := h2.2
   rw [Bool.not_eq_true'] at h3 ⊢
   rw [List.any_eq_false] at h3 ⊢
   intro x hx
   obtain ⟨d, hd, rfl⟩ := List.mem_map.1 hx
   exact h3 _ (List.mem_map.2 ⟨d, hv d hd, rfl⟩)
 refine (if_pos (metBad_of (m := metV ⟨m.f0, m.f1, vs, m.f3, row, m.f5⟩) ⟨hp.1, hp.2.1, h2, hp.2.2.2.1, h4.trans hp.2.2.2.2.1, hp.2.2.2.2.2⟩)).trans ?_
 show (_, _) = _
 rw [tNorm_of hr]
theorem metIn_vals (m : S25) (hm : metIn m = true) (vs : List S40) (hv : ∀ d ∈ vs, d ∈ m.f2) (row : List S37) (hr : ∀ y ∈ row, y ∈ m.f4) : metIn ⟨m.f0, m.f1, vs, m.f3, row, m.f5⟩ = true := by
 unfold metIn at hm ⊢
 simp only [Bool.and_eq_true, decide_eq_true_eq, List.all_eq_true] at hm ⊢
 exact ⟨hm.1, fun d hd => hm.2.1 d (hv d hd), fun y hy => hm.2.2 y (hr y hy)⟩
theorem haw : Ev (fun k => (forebaylaw07_awake.f k).bind fun t => (some t)) true := Ev.bind awake07_ev (Ev.now _)
theorem mt_j5 (m : S25) (hm : metIn m = true) (h2 : m.f2.length ≤ 80) (h4 : m.f4.length ≤ 40) (row : List S37) (hr : RowOf m row) (x0 x1 x2 : Int) (b : Bool) (hb : b = false → (metNorm m).2 = 0 ∧ 2 ≤ m.f2.length) :
  Ev (fun k => forebaylaw07_MetricTags.j5 k (m.f2.length : Int) b m.f0 m.f1 m.f2 m.f3 m.f4 m.f5 x0 x1 x2 m.f0 m.f1 m.f2 m.f3 row m.f5) true := by
 cases b with
 | true => exact Ev.step (fun k => by simp only [forebaylaw07_MetricTags.j5]; exact if_pos trivial) haw
 | false =>
  obtain ⟨hz, hv⟩ := hb rfl
  have hp := (metBad_parts (metNorm_ok hz)).2.2.1
  have hl : m.f2.length ≤ 64 := by
   have h3 : (betB (m.f2.map normV).length 1 64 && !((m.f2.map normV).any decW)) = true := hp
   rw [Bool.and_eq_true, List.length_map] at h3
   have h3 := h3.1
   unfold betB at h3
   simp only [Bool.and_eq_true, decide_eq_true_eq] at h3
   omega
  obtain ⟨ha1, ha2⟩ := tm_in x1 (m.f2.length : Int) (by omega)
  obtain ⟨hb1, hb2⟩ := tm_in x2 (m.f2.length : Int) (by omega)
  generalize hA : Int.tmod (wrap64 (Int.tmod x1 (m.f2.length : Int) + (m.f2.length : Int))) (m.f2.length : Int) = A at ha1 ha2
  generalize hB : Int.tmod (wrap64 (Int.tmod x2 (m.f2.length : Int) + (m.f2.length : Int))) (m.f2.length : Int) = B at hb1 hb2
  have la : A.toNat < m.f2.length := by omega
  have lb : B.toNat < m.f2.length := by omega
  have hs := swq_len m.f2 A.toNat B.toNat
  have hr0 : RowOf m m.f4 := ⟨fun _ => Iff.rfl, Iff.rfl, by omega⟩
  have hin1 := metIn_vals m hm (swq m.f2 A.toNat B.toNat) (fun d hd => (swq_mem _ _ _ la lb d).1 hd) row (fun y hy => (hr.mem y).1 hy)
  have hin2 := metIn_vals m hm [m.f2[A.toNat]'la] (fun d hd => by rw [List.mem_singleton.1 hd]; exact List.getElem_mem la) m.f4 (fun y hy => hy)
  have hin3 := metIn_vals m hm [m.f2[B.toNat]'lb] (fun d hd => by rw [List.mem_singleton.1 hd]; exact List.getElem_mem lb) m.f4 (fun y hy => hy)
  have hn1 := metNorm_vals m hz (swq m.f2 A.toNat B.toNat) (by omega) (fun d hd => (swq_mem _ _ _ la lb d).1 hd) row hr
  have hn2 := metNorm_vals m hz [m.f2[A.toNat]'la] (by simp) (fun d hd => by rw [List.mem_singleton.1 hd]; exact List.getElem_mem la) m.f4 hr0
  have hn3 := metNorm_vals m hz [m.f2[B.toNat]'lb] (by simp) (fun d hd => by rw [List.mem_singleton.1 hd]; exact List.getElem_mem lb) m.f4 hr0
  have hmost := hr.most
  obtain ⟨t, ht1, ht2⟩ := msame_ev m ⟨m.f0, m.f1, swq m.f2 A.toNat B.toNat, m.f3, row, m.f5⟩ hm hin1 (by omega) (by omega) (by dsimp only; omega) (by dsimp only; omega)
  obtain ⟨u, hu1, hu2⟩ := msame_ev ⟨m.f0, m.f1, [m.f2[A.toNat]'la], m.f3, m.f4, m.f5⟩ ⟨m.f0, m.f1, [m.f2[B.toNat]'lb], m.f3, m.f4, m.f5⟩ hin2 hin3 (by simp) (by dsimp only; omega) (by simp) (by dsimp only; omega)
  rw [hn1, metNorm_eq hz] at ht2
  rw [hn2, hn3] at hu2
  have htu : t = u := by
   rw [Bool.eq_iff_iff, ht2, hu2]
   constructor
   ·rintro ⟨_, _, h⟩
    have h := congrArg S25.f2 h
    dsimp only at h
    have h := (swq_map normV m.f2 A.toNat B.toNat la lb).1 h
    exact ⟨rfl, rfl, by rw [List.map_singleton, List.map_singleton, h]⟩
   ·rintro ⟨_, _, h⟩
    have h := congrArg S25.f2 h
    simp only [List.map_cons, List.map_nil, List.cons.injEq, and_true] at h
    have h := (swq_map normV m.f2 A.toNat B.toNat la lb).2 h
    exact ⟨rfl, rfl, by dsimp only; rw [h]⟩
  subst htu
  refine Ev.step (f := fun k => (metric_Same.f k m.f0 m.f1 m.f2 m.f3 m.f4 m.f5 m.f0 m.f1 (swq m.f2 A.toNat B.toNat) m.f3 row m.f5).bind fun t237 => ((metric_Same.f k m.f0 m.f1 [m.f2[A.toNat]'la] m.f3 m.f4 m.f5 m.f0 m.f1 [m.f2[B.toNat]'lb] m.f3 m.f4 m.f5).bind fun t238 => (if (t237 == t238) = true then ((forebaylaw07_awake.f k).bind fun t239 => (some t239)) else (none)))) (fun k => ?_) ?_
  ·simp only [forebaylaw07_MetricTags.j5]
   rw [if_neg (by decide), if_neg (by omega), hA, hB, if_pos hb1, if_pos hb2, if_pos ha1, if_pos ha2, if_pos ha2, if_pos hb2, swq_dec m.f2 A B ⟨ha1, ha2⟩ ⟨hb1, hb2⟩, one_dec m.f2 A ⟨ha1, ha2⟩, one_dec m.f2 B ⟨hb1, hb2⟩]
  ·exact Ev.bind ht1 (Ev.bind hu1 (Ev.congr (fun k => if_pos (beq_self_eq_true t)) haw))
theorem mt_j4 (m : S25) (hm : metIn m = true) (h2 : m.f2.length ≤ 80) (h4 : m.f4.length ≤ 40) (row : List S37) (hr : RowOf m row) (x0 x1 x2 : Int) :
  Ev (fun k => forebaylaw07_MetricTags.j4 k m.f0 m.f1 m.f2 m.f3 m.f4 m.f5 x0 x1 x2 m.f0 m.f1 m.f2 m.f3 row m.f5) true := by
 have hmost := hr.most
 obtain ⟨t, ht1, ht2⟩ := msame_ev m ⟨m.f0, m.f1, m.f2, m.f3, row, m.f5⟩ hm (metIn_vals m hm m.f2 (fun d hd => hd) row (fun y hy => (hr.mem y).1 hy)) (by omega) (by omega) (by dsimp only; omega) (by dsimp only; omega)
 rw [metNorm_row m row hr] at ht2
 have ht : t = ((metNorm m).2 == 0) := by
  rw [Bool.eq_iff_iff, ht2, beq_iff_eq]
  exact ⟨fun h => h.1, fun h => ⟨h, h, rfl⟩⟩
 rw [ht] at ht1
 refine Ev.step (f := fun k => (metric_Same.f k m.f0 m.f1 m.f2 m.f3 m.f4 m.f5 m.f0 m.f1 m.f2 m.f3 row m.f5).bind fun t221 => (if (t221 != ((metNorm m).2 == 0)) = true then (none) else (if (metNorm m).2 = 0 then (forebaylaw07_MetricTags.j5 k (m.f2.length : Int) (decide ((m.f2.length : Int) < 2)) m.f0 m.f1 m.f2 m.f3 m.f4 m.f5 x0 x1 x2 m.f0 m.f1 m.f2 m.f3 row m.f5) else (forebaylaw07_MetricTags.j5 k (m.f2.length : Int) true m.f0 m.f1 m.f2 m.f3 m.f4 m.f5 x0 x1 x2 m.f0 m.f1 m.f2 m.f3 row m.f5)))) (fun k => ?_) ?_
 ·simp only [forebaylaw07_MetricTags.j4]
  rw [mnorm_f m hm (by omega) (by omega)]
  rfl
 ·refine Ev.bind ht1 (Ev.congr (fun k => if_neg (by simp)) ?_)
  by_cases hz : (metNorm m).2 = 0
  ·refine Ev.congr (fun k => if_pos hz) (mt_j5 m hm h2 h4 row hr x0 x1 x2 _ fun hb => ⟨hz, ?_⟩)
   have := of_decide_eq_false hb
   omega
  ·exact Ev.congr (fun k => if_neg hz) (mt_j5 m hm h2 h4 row hr x0 x1 x2 _ (by intro h; cases h))
theorem mt_j2 (m : S25) (hm : metIn m = true) (h2 : m.f2.length ≤ 80) (h4 : m.f4.length ≤ 40) (row : List S37) (hr : RowOf m row) (hrl : row.length = m.f4.length) (x0 x1 x2 : Int) :
  Ev (fun k => forebaylaw07_MetricTags.j2 k (m.f4.length : Int) m.f0 m.f1 m.f2 m.f3 m.f4 m.f5 x0 x1 x2 m.f0 m.f1 m.f2 m.f3 row m.f5) true := by
 have hj : ∀ b : Bool, (b = true → 0 < m.f4.length ∧ m.f4.length < 32) → Ev (fun k => forebaylaw07_MetricTags.j3 k (m.f4.length : Int) b m.f0 m.f1 m.f2 m.f3 m.f4 m.f5 x0 x1 x2 m.f0 m.f1 m.f2 m.f3 row m.f5) true := fun b hb => by
  cases b with
  | false => exact Ev.step (fun k => by simp only [forebaylaw07_MetricTags.j3]; exact if_neg (by decide)) (mt_j4 m hm h2 h4 row hr x0 x1 x2)
  | true =>
   have := hb rfl
   obtain ⟨ha1, ha2⟩ := tm_in x0 (m.f4.length : Int) (by omega)
   have hl := hr.len
   have hmem : RowOf m (row ++ [(⟨(rd_T37 row (Int.tmod (wrap64 ((Int.tmod x0 (m.f4.length : Int)) + (m.f4.length : Int))) (m.f4.length : Int))).f0, (rd_T37 row (Int.tmod (wrap64 ((Int.tmod x0 (m.f4.length : Int)) + (m.f4.length : Int))) (m.f4.length : Int))).f1⟩ : S37)]) := by
    generalize Int.tmod (wrap64 (Int.tmod x0 (m.f4.length : Int) + (m.f4.length : Int))) (m.f4.length : Int) = A at ha1 ha2
    obtain ⟨n, rfl⟩ := Int.eq_ofNat_of_zero_le ha1
    have hn : n < row.length := by omega
    rw [rd_tag row n hn]
    refine ⟨fun y => ?_, ?_, ?_⟩
    ·rw [List.mem_append, hr.mem, List.mem_singleton]
     exact ⟨fun h => h.elim id fun e => by rw [e]; exact (hr.mem _).1 (List.getElem_mem hn), .inl⟩
    ·rw [List.length_append, List.length_singleton]
     omega
    ·rw [List.length_append, List.length_singleton]
     omega
   refine Ev.step (fun k => ?_) (mt_j4 m hm h2 h4 _ hmem x0 x1 x2)
   simp only [forebaylaw07_MetricTags.j3]
   rw [if_pos trivial, if_neg (by omega), if_pos ha1, if_pos (by omega), if_pos (by omega)]
 by_cases h : 0 < m.f4.length
 ·refine Ev.step (fun k => ?_) (hj (decide ((m.f4.length : Int) < 32)) fun hb => ⟨h, by have := of_decide_eq_true hb; omega⟩)
  simp only [forebaylaw07_MetricTags.j2]
  rw [if_pos (by omega)]
 ·refine Ev.step (fun k => ?_) (hj false (by intro h; cases h))
  simp only [forebaylaw07_MetricTags.j2]
  rw [if_neg (by omega)]
set_option maxHeartbeats 4000000 in
theorem mt_l0 (m : S25) (hm : metIn m = true) (h2 : m.f2.length ≤ 80) (h4 : m.f4.length ≤ 40) (sw : List Int) (hs : sw.length ≤ 60) (x0 x1 x2 : Int) : ∀ (d i : Nat) (row : List S37), sw.length ≤ i + d → i ≤ 1000 → row.length = m.f4.length → (∀ y, y ∈ row ↔ y ∈ m.f4) →
  Ev (fun k => forebaylaw07_MetricTags.l0 k sw (m.f4.length : Int) (i : Int) m.f0 m.f1 m.f2 m.f3 m.f4 m.f5 x0 x1 x2 m.f0 m.f1 m.f2 m.f3 row m.f5) true := by
 intro d
 induction d using Nat.strongRecOn with
 | ind d ih =>
 intro i row hd hi hl hmem
 have hw := w1 i (by omega)
 have hr : RowOf m row := ⟨hmem, by rw [hl], by omega⟩
 by_cases c : i + 1 < sw.length
 ·by_cases c2 : 0 < m.f4.length
  ·obtain ⟨ha1, ha2⟩ := tm_in (rd sw (i : Int)) (m.f4.length : Int) (by omega)
   obtain ⟨hb1, hb2⟩ := tm_in (rd sw ((i + 1 : Nat) : Int)) (m.f4.length : Int) (by omega)
   generalize hA : Int.tmod (wrap64 (Int.tmod (rd sw (i : Int)) (m.f4.length : Int) + (m.f4.length : Int))) (m.f4.length : Int) = A at ha1 ha2
   generalize hB : Int.tmod (wrap64 (Int.tmod (rd sw ((i + 1 : Nat) : Int)) (m.f4.length : Int) + (m.f4.length : Int))) (m.f4.length : Int) = B at hb1 hb2
   have HA := Aside0.mk hA
   have HB := Aside0.mk hB
   clear hA hB
   have hq : wrap64 ((i : Int) + 2) = ((i + 2 : Nat) : Int) := by rw [IntWalk.wrap64_in _ (by omega)]; omega
   refine Ev.step (fun k => ?_) (ih (d - 2) (by omega) (i + 2) (swq row A.toNat B.toNat) (by omega) (by omega) (by rw [swq_len]; exact hl) (fun y => by rw [swq_mem row _ _ (by omega) (by omega)]; exact hmem y))
   simp only [forebaylaw07_MetricTags.l0]
   rw [hw, if_pos (by omega), if_pos (by omega), if_pos (by omega), if_pos (by omega), if_neg (by omega), if_pos (by omega), HA.out, HB.out, if_pos hb1, if_pos (by omega), if_pos ha1, if_pos (by omega), swq_tag row A B ⟨ha1, by omega⟩ ⟨hb1, by omega⟩, hq]
  ·refine Ev.step (fun k => ?_) (mt_j2 m hm h2 h4 row hr hl x0 x1 x2)
   simp only [forebaylaw07_MetricTags.l0]
   rw [hw, if_pos (by omega), if_neg (by omega)]
 ·refine Ev.step (fun k => ?_) (mt_j2 m hm h2 h4 row hr hl x0 x1 x2)
  simp only [forebaylaw07_MetricTags.l0]
  rw [hw, if_neg (by omega)]
theorem mt_clone (m : S25) (h2 : m.f2.length ≤ 100000) (h4 : m.f4.length ≤ 100000) : metric_Clone.f m.f0 m.f1 m.f2 m.f3 m.f4 m.f5 = some (m.f0, m.f1, m.f2, m.f3, m.f4, m.f5) := by
 unfold metric_Clone.f slices_Clone_d.f slices_Clone_t.f
 rw [if_pos (by omega), Option.bind_some, if_pos (by omega), Option.bind_some]
theorem mt_j0 (m : S25) (hm : metIn m = true) (h2 : m.f2.length ≤ 80) (h4 : m.f4.length ≤ 40) (sw : List Int) (x0 x1 x2 : Int) (b : Bool) (hb : b = false → sw.length ≤ 60) :
  Ev (fun k => forebaylaw07_MetricTags.j0 k sw b m.f0 m.f1 m.f2 m.f3 m.f4 m.f5 x0 x1 x2) true := by
 cases b with
 | true => exact Ev.step (fun k => by simp only [forebaylaw07_MetricTags.j0]; exact if_pos trivial) haw
 | false =>
  refine Ev.step (f := fun k => (forebayref07_Equal.f k m.f0 m.f1 m.f2 m.f3 m.f4 m.f5 m.f0 m.f1 m.f2 m.f3 m.f4 m.f5).bind fun t198 => (if t198 = true then (forebaylaw07_MetricTags.l0 k sw (m.f4.length : Int) 0 m.f0 m.f1 m.f2 m.f3 m.f4 m.f5 x0 x1 x2 m.f0 m.f1 m.f2 m.f3 m.f4 m.f5) else (none))) (fun k => ?_) ?_
  ·simp only [forebaylaw07_MetricTags.j0]
   rw [if_neg (by decide), mt_clone m (by omega) (by omega)]
   rfl
  ·exact Ev.bind (eqm_same m m (by omega) (by omega) rfl) (Ev.congr (fun k => if_pos rfl) (mt_l0 m hm h2 h4 sw (hb rfl) x0 x1 x2 sw.length 0 m.f4 (by omega) (by omega) rfl (fun y => Iff.rfl)))
theorem metricTags_pure (m : S25) (hm : metIn m = true) (sw : List Int) (x0 x1 x2 : Int) : ∃ k, forebaylaw07_MetricTags.f k m.f0 m.f1 m.f2 m.f3 m.f4 m.f5 sw x0 x1 x2 = some true := by
 refine Ev.rounds ?_
 obtain ⟨b, hb, hl⟩ := few_ev m
 unfold forebaylaw07_MetricTags.f
 refine Ev.bind hb ?_
 cases b with
 | false =>
  refine Ev.congr (fun k => if_neg (by decide)) ?_
  exact Ev.step (fun k => by simp only [forebaylaw07_MetricTags.j0]; exact if_pos trivial) haw
 | true =>
  have := hl rfl
  exact Ev.congr (fun k => if_pos rfl) (mt_j0 m hm this.1 this.2 sw x0 x1 x2 _ (fun h => by have := of_decide_eq_false h; omega))
end Go.Proofs.Yteamldgngknmfaa.PE
