/- The document's one form of a metric is package metric's; its Equal, its Is; plain; no condition. -/
import Derived.Test.YteamldgngknmfaaZIRDec
import Derived.Test.YteamldgngknmfaaZIDecEv
import Derived.Test.YteamldgngknmfaaZIPEx9
import Derived.Test.YteamldgngknmfaaZIRTagN
import Derived.Test.YteamldgngknmfaaZIMNorm
import Derived.Test.YteamldgngknmfaaZIPEx10
import Derived.Test.YteamldgngknmfaaZIPEx11
namespace Go.Proofs.Yteamldgngknmfaa.PE
open Go.RowKit Go.Proofs.YteamldgngknmfaaW.PrintWords Go.Proofs.YteamldgngknmfaaW.PrintLast Go.Proofs.YteamldgngknmfaaW.PrintMore Go.Proofs.Yteamldgngknmfaa
set_option linter.unusedVariables false
set_option linter.unusedSimpArgs false
theorem decIn_of {m : S25} (hm : metIn m = true) {x : S40} (hx : x ∈ m.f2) : decIn x = true := by
 unfold metIn at hm
 simp only [Bool.and_eq_true, List.all_eq_true] at hm
 exact hm.2.1 x hx
theorem decIn_b {d : S40} (h : decIn d = true) : (0 ≤ d.f1 ∧ d.f1 < 18446744073709551616) ∧ -9223372036854775808 ≤ d.f2 ∧ d.f2 ≤ 9223372036854775807 := by
 unfold decIn at h
 simpa using h
theorem normV_good (d : S40) (h : decIn d = true) (hb : decW d = false) : normV d = d := by
 have hi := decIn_b h
 have h0 : decBad d.f0 ((d.f1.toNat : Nat) : Int) d.f2 = 0 := by rw [show ((d.f1.toNat : Nat) : Int) = d.f1 by omega]; unfold decW at hb; exact bne_eq_false_iff_eq.mp hb
 unfold normV
 rw [decNorm_id _ _ _ h0]
 show (⟨d.f0, ((d.f1.toNat : Nat) : Int), d.f2⟩ : S40) = d
 rw [show ((d.f1.toNat : Nat) : Int) = d.f1 by omega]
theorem metBad_parts {m : S25} (h : metBad m = 0) : metPart m 0 = true ∧ metPart m 1 = true ∧ metPart m 2 = true ∧ metPart m 3 = true ∧ metPart m 4 = true ∧ metPart m 5 = true := by
 unfold metBad at h
 repeat' split at h
 all_goals first | (exfalso; omega) | (simp_all)
theorem metBad_of {m : S25} (h : metPart m 0 = true ∧ metPart m 1 = true ∧ metPart m 2 = true ∧ metPart m 3 = true ∧ metPart m 4 = true ∧ metPart m 5 = true) : metBad m = 0 := by
 unfold metBad
 rw [h.1, h.2.1, h.2.2.1, h.2.2.2.1, h.2.2.2.2.1, h.2.2.2.2.2]
 rfl
theorem metBad_vals {m : S25} (h : metBad m = 0) : m.f2.any decW = false := by
 have h2 := (metBad_parts h).2.2.1
 have e2 : metPart m 2 = (betB m.f2.length 1 64 && !(m.f2.any decW)) := rfl
 rw [e2] at h2
 simp only [Bool.and_eq_true, Bool.not_eq_true'] at h2
 exact h2.2
theorem metV_same {m : S25} (hm : metIn m = true) (h : metBad m = 0) : m.f2.map normV = m.f2 := by
 have hv := metBad_vals h
 rw [List.any_eq_false] at hv
 have := List.map_congr_left (f := normV) (g := fun x => x) (l := m.f2) fun x hx => normV_good x (decIn_of hm hx) (by simpa using hv x hx)
 rw [this, List.map_id']
theorem eqd_l0 (a b : List S40) (h2 : a.length ≤ 140737488355328) (hl : b.length = a.length) : ∀ (d i : Nat), i + d = a.length → ∃ t, Ev (fun k => api_Dec_81.l0 k a b (a.length : Int) (i : Int)) t ∧ (t = true ↔ a.drop i = b.drop i) := by
 intro d
 induction d with
 | zero =>
  intro i hi
  refine ⟨true, Ev.step (f := fun _ => some true) (fun k => ?_) (Ev.now _), ?_⟩
  ·simp only [api_Dec_81.l0]
   rw [if_neg (by omega)]
  ·rw [List.drop_eq_nil_of_le (by omega), List.drop_eq_nil_of_le (by omega)]
   simp
 | succ d ih =>
  intro i hi
  obtain ⟨t, h1, h2⟩ := ih (i + 1) (by omega)
  by_cases h : a[i]'(by omega) = b[i]'(by omega)
  ·refine ⟨t, Ev.step (fun k => ?_) h1, ?_⟩
   ·simp only [api_Dec_81.l0]
    rw [if_pos (by omega), if_pos (by omega), if_pos (by omega), if_pos (by omega), rd_dec a i (by omega), rd_dec b i (by omega), if_neg (fun h3 => (decEq_iff _ _).1 h3 h), w1 i (by omega)]
   ·rw [h2, List.drop_eq_getElem_cons (show i < a.length by omega), List.drop_eq_getElem_cons (show i < b.length by omega), h, List.cons.injEq]
    exact ⟨fun h => ⟨rfl, h⟩, fun h => h.2⟩
  ·refine ⟨false, Ev.step (f := fun _ => some false) (fun k => ?_) (Ev.now _), ?_⟩
   ·simp only [api_Dec_81.l0]
    rw [if_pos (by omega), if_pos (by omega), if_pos (by omega), if_pos (by omega), rd_dec a i (by omega), rd_dec b i (by omega), if_pos ((decEq_iff _ _).2 h)]
   ·rw [List.drop_eq_getElem_cons (show i < a.length by omega), List.drop_eq_getElem_cons (show i < b.length by omega), List.cons.injEq]
    exact ⟨fun h => (by cases h), fun h3 => absurd h3.1 h⟩
theorem eqt_l0 (a b : List S37) (h2 : a.length ≤ 140737488355328) (hl : b.length = a.length) : ∀ (d i : Nat), i + d = a.length → ∃ t, Ev (fun k => api_Tag_82.l0 k a b (a.length : Int) (i : Int)) t ∧ (t = true ↔ a.drop i = b.drop i) := by
 intro d
 induction d with
 | zero =>
  intro i hi
  refine ⟨true, Ev.step (f := fun _ => some true) (fun k => ?_) (Ev.now _), ?_⟩
  ·simp only [api_Tag_82.l0]
   rw [if_neg (by omega)]
  ·rw [List.drop_eq_nil_of_le (by omega), List.drop_eq_nil_of_le (by omega)]
   simp
 | succ d ih =>
  intro i hi
  obtain ⟨t, h1, h2⟩ := ih (i + 1) (by omega)
  by_cases h : a[i]'(by omega) = b[i]'(by omega)
  ·refine ⟨t, Ev.step (fun k => ?_) h1, ?_⟩
   ·simp only [api_Tag_82.l0]
    rw [if_pos (by omega), if_pos (by omega), if_pos (by omega), if_pos (by omega), rd_tag a i (by omega), rd_tag b i (by omega), if_neg (fun h3 => (tagEq_iff _ _).1 h3 h), w1 i (by omega)]
   ·rw [h2, List.drop_eq_getElem_cons (show i < a.length by omega), List.drop_eq_getElem_cons (show i < b.length by omega), h, List.cons.injEq]
    exact ⟨fun h => ⟨rfl, h⟩, fun h => h.2⟩
  ·refine ⟨false, Ev.step (f := fun _ => some false) (fun k => ?_) (Ev.now _), ?_⟩
   ·simp only [api_Tag_82.l0]
    rw [if_pos (by omega), if_pos (by omega), if_pos (by omega), if_pos (by omega), rd_tag a i (by omega), rd_tag b i (by omega), if_pos ((tagEq_iff _ _).2 h)]
   ·rw [List.drop_eq_getElem_cons (show i < a.length by omega), List.drop_eq_getElem_cons (show i < b.length by omega), List.cons.injEq]
    exact ⟨fun h => (by cases h), fun h3 => absurd h3.1 h⟩
theorem eqd_ev (a b : List S40) (h2 : a.length ≤ 140737488355328) : ∃ t, Ev (fun k => api_Dec_54.f k a b) t ∧ (t = true ↔ a = b) := by
 unfold api_Dec_54.f api_Dec_81.f
 by_cases h : (a.length : Int) = (b.length : Int)
 ·obtain ⟨t, e1, e2⟩ := eqd_l0 a b h2 (by omega) a.length 0 (by omega)
  exact ⟨t, Ev.bind (Ev.congr (fun k => if_pos h) e1) (Ev.now _), by rw [e2]; rfl⟩
 ·exact ⟨false, Ev.bind (Ev.congr (fun k => if_neg h) (Ev.now _)) (Ev.now _), fun h => (by cases h), fun h3 => absurd (by rw [h3]) h⟩
theorem eqt_ev (a b : List S37) (h2 : a.length ≤ 140737488355328) : ∃ t, Ev (fun k => api_Tag_55.f k a b) t ∧ (t = true ↔ a = b) := by
 unfold api_Tag_55.f api_Tag_82.f
 by_cases h : (a.length : Int) = (b.length : Int)
 ·obtain ⟨t, e1, e2⟩ := eqt_l0 a b h2 (by omega) a.length 0 (by omega)
  exact ⟨t, Ev.bind (Ev.congr (fun k => if_pos h) e1) (Ev.now _), by rw [e2]; rfl⟩
 ·exact ⟨false, Ev.bind (Ev.congr (fun k => if_neg h) (Ev.now _)) (Ev.now _), fun h => (by cases h), fun h3 => absurd (by rw [h3]) h⟩
theorem meq_ev (a b : S25) (h2 : a.f2.length ≤ 140737488355328) (h4 : a.f4.length ≤ 140737488355328) : ∃ t, Ev (fun k => metric_Equal.f k a.f0 a.f1 a.f2 a.f3 a.f4 a.f5 b.f0 b.f1 b.f2 b.f3 b.f4 b.f5) t ∧ (t = true ↔ a = b) := by
 have hx : ∀ {p : Prop} (hp : a = b → p), ¬ p → (false = true ↔ a = b) := fun hp hn => ⟨fun h => (by cases h), fun h => absurd (hp h) hn⟩
 unfold metric_Equal.f
 by_cases c0 : a.f0.toList = b.f0.toList
 ·by_cases c1 : a.f1 = b.f1
  ·by_cases c3 : a.f3 = b.f3
   ·by_cases c5 : a.f5 = b.f5
    ·obtain ⟨t, e1, e2⟩ := eqd_ev a.f2 b.f2 h2
     cases t with
     | true =>
      obtain ⟨u, g1, g2⟩ := eqt_ev a.f4 b.f4 h4
      refine ⟨u, Ev.congr (fun k => by rw [if_pos c0, if_pos c1, if_pos c3, if_pos c5]) (Ev.bind e1 (Ev.congr (fun k => if_pos rfl) (Ev.bind g1 (Ev.now _)))), ?_⟩
      rw [g2]
      have c2 := e2.1 rfl
      have c0' := ba_inj c0
      cases a; cases b
      simp_all
     | false =>
      have hne : ¬ a.f2 = b.f2 := fun h => absurd (e2.2 h) (by decide)
      exact ⟨false, Ev.congr (fun k => by rw [if_pos c0, if_pos c1, if_pos c3, if_pos c5]) (Ev.bind e1 (Ev.congr (fun k => if_neg (show ¬ (false = true) by decide)) (Ev.now _))), hx (fun h => by rw [h]) hne⟩
    ·exact ⟨false, Ev.congr (fun k => by rw [if_pos c0, if_pos c1, if_pos c3, if_neg c5]) (Ev.now _), hx (fun h => by rw [h]) c5⟩
   ·exact ⟨false, Ev.congr (fun k => by rw [if_pos c0, if_pos c1, if_neg c3]) (Ev.now _), hx (fun h => by rw [h]) c3⟩
  ·exact ⟨false, Ev.congr (fun k => by rw [if_pos c0, if_neg c1]) (Ev.now _), hx (fun h => by rw [h]) c1⟩
 ·exact ⟨false, Ev.congr (fun k => by rw [if_neg c0]) (Ev.now _), hx (fun h => by rw [h]) c0⟩
theorem ddFrom_len : ∀ (l : List S37) (t : S37), (ddFrom t l).length ≤ l.length
 | [], _ => Nat.le_refl _
 | x :: l, t => by
  unfold ddFrom
  split
  ·exact Nat.le_succ_of_le (ddFrom_len l t)
  ·exact Nat.succ_le_succ (ddFrom_len l x)
theorem tNorm_len (l : List S37) : (tNorm l).length ≤ l.length := by
 have hs : (tSort l).length = l.length := (List.mergeSort_perm l _).length_eq
 unfold tNorm
 cases he : tSort l with
 | nil => exact Nat.zero_le _
 | cons x r =>
  rw [he] at hs
  have := ddFrom_len r x
  simp only [dd, List.length_cons] at *
  omega
theorem metNorm_len (m : S25) (h2 : m.f2.length ≤ 100000) (h4 : m.f4.length ≤ 100000) : (metNorm m).1.f2.length ≤ 100000 ∧ (metNorm m).1.f4.length ≤ 100000 := by
 have := tNorm_len m.f4
 unfold metNorm
 split
 ·simp only [List.length_map]
  omega
 ·exact ⟨Nat.zero_le _, Nat.zero_le _⟩
theorem metNorm_self (m : S25) (hm : metIn m = true) (h : metBad m = 0) : metNorm m = (⟨m.f0, m.f1, m.f2, m.f3, tNorm m.f4, m.f5⟩, 0) := by
 have e := metV_same hm h
 have hv : metV m = m := by unfold metV; rw [e]
 unfold metNorm
 rw [hv, if_pos h, e]
theorem metNorm_good (m : S25) (hm : metIn m = true) (h : (metNorm m).2 = 0) : metIn (metNorm m).1 = true ∧ metBad (metNorm m).1 = 0 ∧ tIs (metNorm m).1.f4 = true ∧ metNorm (metNorm m).1 = ((metNorm m).1, 0) := by
 have hb : metBad (metV m) = 0 := by
  unfold metNorm at h
  split at h
  ·assumption
  ·exact h
 have e : metNorm m = (⟨m.f0, m.f1, m.f2.map normV, m.f3, tNorm m.f4, m.f5⟩, 0) := if_pos hb
 rw [e]
 have hin : metIn (⟨m.f0, m.f1, m.f2.map normV, m.f3, tNorm m.f4, m.f5⟩ : S25) = true := by
  have h1 := metV_in m hm
  unfold metIn at h1 ⊢
  simp only [Bool.and_eq_true, List.all_eq_true] at h1 ⊢
  exact ⟨h1.1, h1.2.1, fun x hx => h1.2.2 x ((tNorm_mem _ _).1 hx)⟩
 have hbad : metBad (⟨m.f0, m.f1, m.f2.map normV, m.f3, tNorm m.f4, m.f5⟩ : S25) = 0 := by
  have hp := metBad_parts hb
  refine metBad_of ⟨hp.1, hp.2.1, hp.2.2.1, hp.2.2.2.1, ?_, hp.2.2.2.2.2⟩
  have h4 := hp.2.2.2.2.1
  have e4 : ∀ x : S25, metPart x 4 = (decide ((x.f4.length : Int) ≤ 32) && !(x.f4.any tagW)) := fun _ => rfl
  rw [e4] at h4 ⊢
  simp only [Bool.and_eq_true, decide_eq_true_eq, Bool.not_eq_true', List.any_eq_false] at h4 ⊢
  have hl := tNorm_len m.f4
  have h41 : (m.f4.length : Int) ≤ 32 := h4.1
  exact ⟨by omega, fun x hx => h4.2 x ((tNorm_mem _ _).1 hx)⟩
 have hup : tIs (tNorm m.f4) = true := (tIs_iff _).2 (tNorm_up _)
 refine ⟨hin, hbad, hup, ?_⟩
 rw [metNorm_self _ hin hbad]
 show ((⟨m.f0, m.f1, m.f2.map normV, m.f3, tNorm (tNorm m.f4), m.f5⟩ : S25), (0 : Int)) = _
 rw [tNorm_of_up (tNorm_up _)]
end Go.Proofs.Yteamldgngknmfaa.PE
