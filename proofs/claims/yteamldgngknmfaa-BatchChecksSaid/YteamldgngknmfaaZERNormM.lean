/- The document's one form of a metric is package metric's; its Equal, its Is; plain; no condition. -/
import Derived.Test.YteamldgngknmfaaZERDecN
import Derived.Test.YteamldgngknmfaaZERTagN
import Derived.Test.YteamldgngknmfaaZEMNorm
import Derived.Test.YteamldgngknmfaaZEPEx10
import Derived.Test.YteamldgngknmfaaZEPEx11
namespace Go.Proofs.Yteamldgngknmfaa.PE
open Go.RowKit Go.Proofs.YteamldgngknmfaaW.PrintWords Go.Proofs.YteamldgngknmfaaW.PrintLast Go.Proofs.YteamldgngknmfaaW.PrintMore Go.Proofs.Yteamldgngknmfaa
set_option linter.unusedVariables false
set_option linter.unusedSimpArgs false
theorem decIn_of {m : S25} (hm : metIn m = true) {x : S40} (hx : x ∈ m.f2) : decIn x = true := by
 unfold metIn at hm
 simp only [Bool.and_eq_true, List.all_eq_true] at hm
 exact hm.2.1 x hx
theorem tagIn_of {m : S25} (hm : metIn m = true) {x : S37} (hx : x ∈ m.f4) : tagIn x = true := by
 unfold metIn at hm
 simp only [Bool.and_eq_true, List.all_eq_true] at hm
 exact hm.2.2 x hx
theorem decIn_b {d : S40} (h : decIn d = true) : (0 ≤ d.f1 ∧ d.f1 < 18446744073709551616) ∧ -9223372036854775808 ≤ d.f2 ∧ d.f2 ≤ 9223372036854775807 := by
 unfold decIn at h
 simpa using h
def rowV (d : S40) : S40 := ⟨(decR d.f0 d.f1.toNat d.f2).1, (decR d.f0 d.f1.toNat d.f2).2.1, (decR d.f0 d.f1.toNat d.f2).2.2.1⟩
def okV (d : S40) : Bool := (decR d.f0 d.f1.toNat d.f2).2.2.2 == 0
theorem normV_ok (d : S40) (h : decIn d = true) : decW (normV d) = !(okV d) := by
 have hb := decIn_b h
 unfold okV decW decR
 cases hn : decNorm d.f0 d.f1.toNat d.f2 with
 | none =>
  have e : normV d = d := by unfold normV; rw [hn]
  rw [e]
  cases hz : (decBad d.f0 d.f1 d.f2 != 0) with
  | true => rfl
  | false =>
   have h0 : decBad d.f0 ((d.f1.toNat : Nat) : Int) d.f2 = 0 := by rw [show ((d.f1.toNat : Nat) : Int) = d.f1 by omega]; exact bne_eq_false_iff_eq.mp hz
   rw [decNorm_id _ _ _ h0] at hn
   cases hn
 | some p =>
  obtain ⟨g, c, e⟩ := p
  have hk := decNorm_ok d.f0 d.f1.toNat d.f2 (by omega) hn
  have e1 : normV d = ⟨g, (c : Int), e⟩ := by unfold normV; rw [hn]
  rw [e1]
  show (decBad g (c : Int) e != 0) = !((0 : Int) == 0)
  rw [hk.1]
  rfl
theorem normV_row (d : S40) (h : okV d = true) : normV d = rowV d := by
 unfold okV decR at h
 unfold normV rowV decR
 cases hn : decNorm d.f0 d.f1.toNat d.f2 with
 | none => rw [hn] at h; exact absurd h (by decide)
 | some p => rfl
def normT (m : S25) : ByteArray × Int × List S40 × Int × List S37 × Int × Int := ((metNorm m).1.f0, (metNorm m).1.f1, (metNorm m).1.f2, (metNorm m).1.f3, (metNorm m).1.f4, (metNorm m).1.f5, (metNorm m).2)
theorem metBad_parts {m : S25} (h : metBad m = 0) : metPart m 0 = true ∧ metPart m 1 = true ∧ metPart m 2 = true ∧ metPart m 3 = true ∧ metPart m 4 = true ∧ metPart m 5 = true := by
 unfold metBad at h
 repeat' split at h
 all_goals first | (exfalso; omega) | (simp_all)
theorem metBad_vals {m : S25} (h : metBad m = 0) : m.f2.any decW = false := by
 have h2 := (metBad_parts h).2.2.1
 have e2 : metPart m 2 = (betB m.f2.length 1 64 && !(m.f2.any decW)) := rfl
 rw [e2] at h2
 simp only [Bool.and_eq_true, Bool.not_eq_true'] at h2
 exact h2.2
theorem restBad_V (m : S25) (b : Bool) : restBad (metV m) b = restBad m b := by
 unfold restBad
 rw [show (metV m).f2.length = m.f2.length from List.length_map _]
 rfl
theorem refnm_l0 (m : S25) (hm : metIn m = true) (h2 : m.f2.length ≤ 1000000) (h4 : m.f4.length ≤ 1000000) : ∀ (d i : Nat), i + d = m.f2.length →
  Ev (fun k => forebayref07_Normal.l0 k (!(((m.f2.take i).map normV).any decW)) ((m.f2.take i).map rowV) (i : Int) m.f0 m.f1 m.f2 m.f3 m.f4 m.f5) (normT m) := by
 intro d
 induction d with
 | zero =>
  intro i hi
  rw [List.take_of_length_le (by omega)]
  have hr := rest_ev m (!((m.f2.map normV).any decW)) hm
  have hb : restBad m (!((m.f2.map normV).any decW)) = metBad (metV m) := (restBad_V m _).symm.trans (restBad_met (metV m))
  rw [hb] at hr
  refine Ev.step (f := fun k => (forebayref07_Rest.f k m.f0 m.f1 m.f2 m.f3 m.f4 m.f5 (!((m.f2.map normV).any decW))).bind fun t => if t = 0 then ((forebayref06_Normal.f k m.f4).bind fun t228 => (some (m.f0, m.f1, m.f2.map rowV, m.f3, t228, m.f5, (0 : Int)))) else (some ((⟨#[]⟩ : ByteArray), 0, ([] : List S40), 0, ([] : List S37), 0, t))) (fun k => ?_) (Ev.bind hr ?_)
  ·simp only [forebayref07_Normal.l0]
   rw [if_neg (by omega)]
  ·unfold normT metNorm
   by_cases hz : metBad (metV m) = 0
   ·rw [if_pos hz]
    have hv := metBad_vals hz
    have e : m.f2.map normV = m.f2.map rowV := List.map_congr_left fun x hx => by
     refine normV_row x ?_
     have h1 := normV_ok x (decIn_of hm hx)
     have h3 : decW (normV x) = false := by
      have := List.any_eq_false.1 hv (normV x) (List.mem_map_of_mem hx)
      simpa using this
     rw [h3] at h1
     simpa using h1.symm
    rw [e]
    exact Ev.congr (fun k => if_pos hz) (Ev.bind (reftagn_ev m.f4 h4 fun x hx => tagIn_of hm hx) (Ev.now _))
   ·rw [if_neg hz]
    exact Ev.congr (fun k => if_neg hz) (Ev.now _)
 | succ d ih =>
  intro i hi
  have hlt : i < m.f2.length := by omega
  have h1 := ih (i + 1) (by omega)
  have hx := decIn_b (decIn_of hm (List.getElem_mem hlt))
  have ht : (m.f2.take (i + 1)) = m.f2.take i ++ [m.f2[i]'hlt] := List.take_succ_eq_append_getElem hlt
  have hok := normV_ok (m.f2[i]'hlt) (decIn_of hm (List.getElem_mem hlt))
  rw [ht, List.map_append, List.map_append, List.any_append] at h1
  have hlen : ((m.f2.take i).map rowV).length < 5864062014805 := by rw [List.length_map, List.length_take]; omega
  have hd := refnorm_ev (m.f2[i]'hlt).f0 (m.f2[i]'hlt).f1 (m.f2[i]'hlt).f2 hx.1 hx.2.1
  have hsing : ([m.f2[i]'hlt].map normV).any decW = !(okV (m.f2[i]'hlt)) := by
   rw [← hok]
   simp
  rw [hsing] at h1
  refine Ev.step (f := fun k => (forebayref03_Normal.f k (m.f2[i]'hlt).f0 (m.f2[i]'hlt).f1 (m.f2[i]'hlt).f2).bind fun bt => if (!(((m.f2.take i).map normV).any decW)) = true then (forebayref07_Normal.l0 k (bt.2.2.2 == 0) ((m.f2.take i).map rowV ++ [⟨bt.1, bt.2.1, bt.2.2.1⟩]) ((i + 1 : Nat) : Int) m.f0 m.f1 m.f2 m.f3 m.f4 m.f5) else (forebayref07_Normal.l0 k false ((m.f2.take i).map rowV ++ [⟨bt.1, bt.2.1, bt.2.2.1⟩]) ((i + 1 : Nat) : Int) m.f0 m.f1 m.f2 m.f3 m.f4 m.f5)) (fun k => ?_) (Ev.bind hd ?_)
  ·simp only [forebayref07_Normal.l0]
   rw [if_pos (by omega), if_pos (by omega), rd_dec m.f2 i hlt, w1 i (by omega)]
   simp only [if_pos hlen]
  ·cases hp : ((m.f2.take i).map normV).any decW with
   | true =>
    rw [hp, Bool.true_or] at h1
    exact Ev.congr (fun k => if_neg (by decide)) h1
   | false =>
    rw [hp, Bool.false_or, Bool.not_not] at h1
    exact Ev.congr (fun k => if_pos (by decide)) h1
theorem refnm_ev (m : S25) (hm : metIn m = true) (h2 : m.f2.length ≤ 1000000) (h4 : m.f4.length ≤ 1000000) : Ev (fun k => forebayref07_Normal.f k m.f0 m.f1 m.f2 m.f3 m.f4 m.f5) (normT m) := by
 have h := refnm_l0 m hm h2 h4 m.f2.length 0 (by omega)
 exact h
theorem ddFrom_len : ∀ (l : List S37) (t : S37), (ddFrom t l).length ≤ l.length
 | [], _ => Nat.le_refl _
 | x :: l, t => by
  unfold ddFrom
  split
  ·exact Nat.le_succ_of_le (ddFrom_len l t)
  ·exact Nat.succ_le_succ (ddFrom_len l x)
theorem tNorm_len (l : List S37) : (tNorm l).length ≤ l.length := by
 have hs : (tSort l).length = l.length := (List.mergeSort_perm l _).length_eq
 unfold tNorm
 cases he : tSort l with
 | nil => exact Nat.zero_le _
 | cons x r =>
  rw [he] at hs
  have := ddFrom_len r x
  simp only [dd, List.length_cons] at *
  omega
theorem metNorm_len (m : S25) (h2 : m.f2.length ≤ 100000) (h4 : m.f4.length ≤ 100000) : (metNorm m).1.f2.length ≤ 100000 ∧ (metNorm m).1.f4.length ≤ 100000 := by
 have := tNorm_len m.f4
 unfold metNorm
 split
 ·simp only [List.length_map]
  omega
 ·exact ⟨Nat.zero_le _, Nat.zero_le _⟩
end Go.Proofs.Yteamldgngknmfaa.PE
