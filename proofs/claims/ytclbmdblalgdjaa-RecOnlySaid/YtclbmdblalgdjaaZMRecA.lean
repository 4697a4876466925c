/- Metrics as bytes: what is put, what is taken, and that each is the other's; plain; no condition. -/
import Derived.Test.YtclbmdblalgdjaaZMPlExact
import Derived.Test.YtclbmdblalgdjaaZMGetsW
import Derived.Test.YtclbmdblalgdjaaZMRNormM
namespace Go.Proofs.Ytclbmdblalgdjaa
open Go.RowKit Go.Proofs.YtclbmdblalgdjaaW.PrintWords Go.Proofs.YtclbmdblalgdjaaW.PrintLast Go.Proofs.YtclbmdblalgdjaaW.PrintMore Go.Proofs.Ytclbmdblalgdjaa.PE
set_option linter.unusedVariables false
set_option linter.unusedSimpArgs false
def decZ : DecS := ⟨false, 0, 0⟩
def recZ : MetS := ⟨⟨#[]⟩, 0, [], 0, [], 0⟩
/-! What is taken. -/
def gdec (s : Cu) : DecS × Cu :=
  if s.vread.2.vread.2.fine = false then (decZ, s.vread.2.vread.2)
  else if decBad (decide (s.vread.1 % 2 = 1)) (s.vread.2.vread.1 : Int) (zagZ (s.vread.1 / 2)) = 0 then (⟨decide (s.vread.1 % 2 = 1), (s.vread.2.vread.1 : Int), zagZ (s.vread.1 / 2)⟩, s.vread.2.vread.2)
  else (decZ, s.vread.2.vread.2.fail (decBad (decide (s.vread.1 % 2 = 1)) (s.vread.2.vread.1 : Int) (zagZ (s.vread.1 / 2))) s.pos)
def gnum (s : Cu) (lo hi : Nat) (e : Int) : Nat × Cu := (s.vread.1, if lo ≤ s.vread.1 ∧ s.vread.1 ≤ hi then s.vread.2 else s.vread.2.fail e s.pos)
def gword (ws : List ByteArray) (s : Cu) (cl : Int) (lo hi : Nat) (e : Int) : ByteArray × Cu × List ByteArray :=
  ((dget ws s cl).1, if lo ≤ (dget ws s cl).1.size ∧ (dget ws s cl).1.size ≤ hi then (dget ws s cl).2.1 else (dget ws s cl).2.1.fail e s.pos, (dget ws s cl).2.2)
def gkind (s : Cu) : Int × Cu := (s.byteV, if 1 ≤ s.byteV ∧ s.byteV ≤ 5 then s.take 1 else (s.take 1).fail 16 s.pos)
def gvals : Nat → Cu → List DecS × Cu
  | 0, s => ([], s)
  | k + 1, s => if s.fine = true then ((gdec s).1 :: (gvals k (gdec s).2).1, (gvals k (gdec s).2).2) else ([], s)
def upB (l : Option TagS) (t : TagS) : Bool := match l with
  | none => true
  | some x => tLt x t
def gtag (ws : List ByteArray) (s : Cu) (l : Option TagS) : TagS × Cu × List ByteArray :=
  (⟨(gword ws s 2 1 64 19).1, (gword (gword ws s 2 1 64 19).2.2 (gword ws s 2 1 64 19).2.1 3 0 100 19).1⟩,
   if upB l ⟨(gword ws s 2 1 64 19).1, (gword (gword ws s 2 1 64 19).2.2 (gword ws s 2 1 64 19).2.1 3 0 100 19).1⟩ = true then (gword (gword ws s 2 1 64 19).2.2 (gword ws s 2 1 64 19).2.1 3 0 100 19).2.1
   else (gword (gword ws s 2 1 64 19).2.2 (gword ws s 2 1 64 19).2.1 3 0 100 19).2.1.fail 21 s.pos,
   (gword (gword ws s 2 1 64 19).2.2 (gword ws s 2 1 64 19).2.1 3 0 100 19).2.2)
def gtags : Nat → List ByteArray → Cu → Option TagS → List TagS × Cu × List ByteArray
  | 0, ws, s, _ => ([], s, ws)
  | k + 1, ws, s, l => if s.fine = true then ((gtag ws s l).1 :: (gtags k (gtag ws s l).2.2 (gtag ws s l).2.1 (some (gtag ws s l).1)).1, (gtags k (gtag ws s l).2.2 (gtag ws s l).2.1 (some (gtag ws s l).1)).2) else ([], s, ws)
def TUpFrom : Option TagS → List TagS → Prop
  | _, [] => True
  | o, t :: l => upB o t = true ∧ TUpFrom (some t) l
theorem tUpFrom_is : ∀ (l : List TagS) (o : Option TagS), TUpFrom o l → tIs l = true
  | [], _, _ => rfl
  | [x], _, _ => rfl
  | x :: y :: l, o, h => by
    have h2 : TUpFrom (some x) (y :: l) := h.2
    have ih := tUpFrom_is (y :: l) (some x) h2
    show (tLt x y && tIs (y :: l)) = true
    rw [ih, Bool.and_true]
    exact h2.1
def leastR (k : Int) : Nat := if k = 2 then 1000000 else 1
def gend (nm : ByteArray) (kd : Int) (vs : List DecS) (rt : Nat) (ts : List TagS) (ws : List ByteArray) (u : Nat × Cu) : MetS × Cu × List ByteArray :=
  if u.2.fine = true then (⟨nm, kd, vs, (rt : Int), ts, (u.1 : Int)⟩, u.2, ws) else (recZ, u.2, ws)
theorem gend_ok {nm : ByteArray} {kd : Int} {vs : List DecS} {rt : Nat} {ts : List TagS} {ws : List ByteArray} {u : Nat × Cu} (h : u.2.fine = true) : gend nm kd vs rt ts ws u = (⟨nm, kd, vs, (rt : Int), ts, (u.1 : Int)⟩, u.2, ws) := if_pos h
theorem gend_no {nm : ByteArray} {kd : Int} {vs : List DecS} {rt : Nat} {ts : List TagS} {ws : List ByteArray} {u : Nat × Cu} (h : ¬ u.2.fine = true) : gend nm kd vs rt ts ws u = (recZ, u.2, ws) := if_neg h
def gmet5 (nm : ByteArray) (kd : Int) (vs : List DecS) (rt : Nat) (g : List TagS × Cu × List ByteArray) : MetS × Cu × List ByteArray := gend nm kd vs rt g.1 g.2.2 (gnum g.2.1 0 1099511627776 20)
def gmet4 (ws : List ByteArray) (nm : ByteArray) (kd : Int) (vs : List DecS) (r : Nat × Cu) : MetS × Cu × List ByteArray := gmet5 nm kd vs r.1 (gtags (gnum r.2 0 32 19).1 ws (gnum r.2 0 32 19).2 none)
def gmet3 (ws : List ByteArray) (nm : ByteArray) (kd : Int) (v : List DecS × Cu) : MetS × Cu × List ByteArray := gmet4 ws nm kd v.1 (gnum v.2 (leastR kd) 1000000 18)
def gmet2 (ws : List ByteArray) (nm : ByteArray) (b : Int × Cu) : MetS × Cu × List ByteArray := gmet3 ws nm b.1 (gvals (gnum b.2 1 64 17).1 (gnum b.2 1 64 17).2)
def gmet1 (a : ByteArray × Cu × List ByteArray) : MetS × Cu × List ByteArray := gmet2 a.2.2 a.1 (gkind a.2.1)
def gmet (ws : List ByteArray) (s : Cu) : MetS × Cu × List ByteArray := gmet1 (gword ws s 1 1 200 15)
/-! What is put. -/
def decN (d : DecS) : Nat := 2 * zigN d.f2 + (if d.f0 = true then 1 else 0)
def pdec (d : DecS) : List Int := vput (decN d) ++ vput d.f1.toNat
def pdecs (l : List DecS) : List Int := l.flatMap pdec
def ptags : List ByteArray → List TagS → List Int × List ByteArray
  | ws, [] => ([], ws)
  | ws, t :: l => ((dput ws t.f0).1 ++ (dput (dput ws t.f0).2.2 t.f1).1 ++ (ptags (dput (dput ws t.f0).2.2 t.f1).2.2 l).1, (ptags (dput (dput ws t.f0).2.2 t.f1).2.2 l).2)
def pmet (ws : List ByteArray) (m : MetS) : List Int × List ByteArray :=
  ((dput ws m.f0).1 ++ [m.f1] ++ vput m.f2.length ++ pdecs m.f2 ++ vput m.f3.toNat ++ vput m.f4.length ++ (ptags (dput ws m.f0).2.2 m.f4).1 ++ vput m.f5.toNat, (ptags (dput ws m.f0).2.2 m.f4).2)
def pcode (ws : List ByteArray) (m : MetS) : Int := if metBad m = 0 then (if tIs m.f4 = true then (if 65471 < ws.length then 12 else 0) else 21) else metBad m
/-! The parts of a metric that is right. -/
theorem metParts {m : MetS} (h : metBad m = 0) : (1 ≤ m.f0.size ∧ m.f0.size ≤ 200 ∧ badI (clsB 1) m.f0 < 0) ∧ (1 ≤ m.f1 ∧ m.f1 ≤ 5) ∧ ((1 ≤ m.f2.length ∧ m.f2.length ≤ 64) ∧ ∀ d ∈ m.f2, decBad d.f0 d.f1 d.f2 = 0) ∧ ((1 ≤ m.f3 ∧ m.f3 ≤ 1000000) ∧ (m.f1 = 2 → m.f3 = 1000000)) ∧ (m.f4.length ≤ 32 ∧ ∀ t ∈ m.f4, tagBad t.f0 t.f1 = 0) ∧ (0 ≤ m.f5 ∧ m.f5 ≤ 1099511627776) := by
  have hq : metPart m 0 = true ∧ metPart m 1 = true ∧ metPart m 2 = true ∧ metPart m 3 = true ∧ metPart m 4 = true ∧ metPart m 5 = true := by
    unfold metBad at h
    repeat' split at h
    all_goals first | (exfalso; omega) | (simp_all)
  obtain ⟨q0, q1, q2, q3, q4, q5⟩ := hq
  have q0 : txOk 1 m.f0 1 200 = true := q0
  have q1 : betB m.f1 1 5 = true := q1
  have q2 : (betB m.f2.length 1 64 && !(m.f2.any decW)) = true := q2
  have q3 : (betB m.f3 1 1000000 && (m.f1 != 2 || m.f3 == 1000000)) = true := q3
  have q4 : (decide ((m.f4.length : Int) ≤ 32) && !(m.f4.any tagW)) = true := q4
  have q5 : betB m.f5 0 1099511627776 = true := q5
  have r0 := (txOk_iff 1 m.f0 1 200 rfl (by omega)).1 q0
  unfold betB at q1 q2 q3 q5
  simp only [Bool.and_eq_true, decide_eq_true_eq, Bool.not_eq_true', List.any_eq_false] at q1 q2 q3 q4 q5
  refine ⟨⟨by omega, by omega, r0.2.2⟩, q1, ⟨by omega, fun d hd => ?_⟩, ⟨q3.1, fun e => ?_⟩, ⟨by omega, fun t ht => ?_⟩, q5⟩
  · have := q2.2 d hd
    unfold decW at this
    simpa using this
  · have := q3.2
    rw [e] at this
    simpa using this
  · have := q4.2 t ht
    unfold tagW at this
    simpa using this
theorem metBad_mk {m : MetS} (h0 : 1 ≤ m.f0.size ∧ m.f0.size ≤ 200 ∧ badI (clsB 1) m.f0 < 0) (h1 : 1 ≤ m.f1 ∧ m.f1 ≤ 5) (h2 : (1 ≤ m.f2.length ∧ m.f2.length ≤ 64) ∧ ∀ d ∈ m.f2, decBad d.f0 d.f1 d.f2 = 0) (h3 : (1 ≤ m.f3 ∧ m.f3 ≤ 1000000) ∧ (m.f1 = 2 → m.f3 = 1000000)) (h4 : m.f4.length ≤ 32 ∧ ∀ t ∈ m.f4, tagBad t.f0 t.f1 = 0) (h5 : 0 ≤ m.f5 ∧ m.f5 ≤ 1099511627776) : metBad m = 0 := by
  have q0 : metPart m 0 = true := (txOk_iff 1 m.f0 1 200 rfl (by omega)).2 ⟨by omega, by omega, h0.2.2⟩
  have q1 : metPart m 1 = true := by
    show betB m.f1 1 5 = true
    unfold betB
    simp only [Bool.and_eq_true, decide_eq_true_eq]
    exact h1
  have q2 : metPart m 2 = true := by
    show (betB m.f2.length 1 64 && !(m.f2.any decW)) = true
    unfold betB
    simp only [Bool.and_eq_true, decide_eq_true_eq, Bool.not_eq_true', List.any_eq_false]
    refine ⟨by omega, fun d hd => ?_⟩
    have := h2.2 d hd
    unfold decW
    simp [this]
  have q3 : metPart m 3 = true := by
    show (betB m.f3 1 1000000 && (m.f1 != 2 || m.f3 == 1000000)) = true
    unfold betB
    simp only [Bool.and_eq_true, decide_eq_true_eq]
    refine ⟨h3.1, ?_⟩
    by_cases e : m.f1 = 2
    · rw [h3.2 e]; simp
    · simp [e]
  have q4 : metPart m 4 = true := by
    show (decide ((m.f4.length : Int) ≤ 32) && !(m.f4.any tagW)) = true
    simp only [Bool.and_eq_true, decide_eq_true_eq, Bool.not_eq_true', List.any_eq_false]
    refine ⟨by omega, fun t ht => ?_⟩
    have := h4.2 t ht
    unfold tagW
    simp [this]
  have q5 : metPart m 5 = true := by
    show betB m.f5 0 1099511627776 = true
    unfold betB
    simp only [Bool.and_eq_true, decide_eq_true_eq]
    exact h5
  unfold metBad
  rw [q0, q1, q2, q3, q4, q5]
  rfl
/-! Put, then taken. -/
section
variable {A : Option Addr} {c p : Nat} {B rest : List Int}
theorem decBad_small {d : DecS} (h : decBad d.f0 d.f1 d.f2 = 0) : -18 ≤ d.f2 ∧ d.f2 ≤ 18 := by
  unfold decBad at h
  split at h
  · cases h
  · rename_i h1
    by_cases h0 : d.f1 = 0
    · rw [if_pos h0] at h
      split at h
      · rename_i h2
        omega
      · cases h
    · omega
theorem decN_lt {d : DecS} (h : decBad d.f0 d.f1 d.f2 = 0) : decN d < 128 := by
  have := decBad_small h
  unfold decN zigN
  split <;> split <;> omega
theorem dput_grow (ws : List ByteArray) (s : ByteArray) : (dput ws s).2.2.length ≤ ws.length + 1 := by
  unfold dput
  split
  · simp
  · split
    · simp
    · simp
theorem tagBad_ok {k v : ByteArray} (h : tagBad k v = 0) : (1 ≤ k.size ∧ k.size ≤ 64 ∧ badI (clsB 2) k < 0) ∧ v.size ≤ 100 ∧ badI (clsB 3) v < 0 := by
  unfold tagBad at h
  split at h
  · rename_i h1
    have h2 := (txOk_iff 2 k 1 64 rfl (by omega)).1 h1.1
    have h3 := (txOk_iff 3 v 0 100 rfl (by omega)).1 h1.2
    exact ⟨⟨by omega, by omega, h2.2.2⟩, by omega, h3.2.2⟩
  · cases h
end
/-! Taken, then put. -/
def Took (s s' : Cu) (l : List Int) : Prop := s' = s.adv l.length ∧ s.pos + l.length ≤ s.b.length ∧ (s.b.drop s.pos).take l.length = l
theorem Took.trans {s s1 s2 : Cu} {a b : List Int} (h : Took s s1 a) (k : Took s1 s2 b) : Took s s2 (a ++ b) := by
  obtain ⟨rfl, h2, h3⟩ := h
  obtain ⟨rfl, k2, k3⟩ := k
  refine ⟨?_, ?_, ?_⟩
  · unfold Cu.adv
    simp only [List.length_append, Nat.add_assoc]
  · rw [List.length_append]
    have : s.pos + a.length + b.length ≤ s.b.length := k2
    omega
  · rw [List.length_append, List.take_add, h3, List.drop_drop]
    exact congrArg (a ++ ·) k3
theorem Took.b {s s' : Cu} {l : List Int} (h : Took s s' l) : s'.b = s.b := by
  obtain ⟨rfl, _⟩ := h
  rfl
theorem Took.nil {s : Cu} (h : s.pos ≤ s.b.length) : Took s s [] := ⟨rfl, h, rfl⟩
theorem Took.le {s s' : Cu} {l : List Int} (h : Took s s' l) : s'.pos ≤ s'.b.length := by
  obtain ⟨rfl, h2, _⟩ := h
  exact h2
theorem vread_took {s : Cu} (hs : s.fine = true) (hb : ∀ x ∈ s.b, 0 ≤ x ∧ x < 256) (h : s.vread.2.fine = true) : Took s s.vread.2 (vput s.vread.1) := by
  obtain ⟨k, h1, h2, h3, h4, _⟩ := vread_fine hs hb h
  have e : s.vread.2 = s.adv k := by rw [h1]
  exact ⟨by rw [h2]; exact e, by omega, by rw [h2]; exact h3⟩
theorem fail_keep {s : Cu} {c a : Int} (hc : c ≠ 0) : ¬ (s.fail c a).fine = true := fun h => by rw [fail_any s c a hc] at h; cases h
theorem gnum_took {s : Cu} {lo hi : Nat} {e : Int} (he : e ≠ 0) (hs : s.fine = true) (hb : ∀ x ∈ s.b, 0 ≤ x ∧ x < 256) (h : (gnum s lo hi e).2.fine = true) : (lo ≤ (gnum s lo hi e).1 ∧ (gnum s lo hi e).1 ≤ hi) ∧ Took s (gnum s lo hi e).2 (vput (gnum s lo hi e).1) := by
  unfold gnum at h ⊢
  simp only at h ⊢
  by_cases hq : lo ≤ s.vread.1 ∧ s.vread.1 ≤ hi
  · rw [if_pos hq] at h ⊢
    exact ⟨hq, vread_took hs hb h⟩
  · rw [if_neg hq] at h
    exact absurd h (fail_keep he)
def WsOk (ws : List ByteArray) : Prop := ws.Nodup ∧ (∀ x ∈ ws, x.size ≤ 200) ∧ ws.length ≤ 65536
theorem WsOk.put {ws : List ByteArray} (h : WsOk ws) (s : ByteArray) : WsOk (dput ws s).2.2 := by
  unfold dput
  split
  · exact h
  · rename_i h1
    split
    · exact h
    · rename_i h2
      refine ⟨List.nodup_append.2 ⟨h.1, by simp, ?_⟩, ?_, ?_⟩
      · intro a ha b hb e
        rw [List.mem_singleton.1 hb] at e
        exact h1 ((find_pos _ _).2 (e ▸ ha))
      · intro x hx
        rcases List.mem_append.1 hx with hx | hx
        · exact h.2.1 x hx
        · rw [List.mem_singleton.1 hx]; omega
      · rw [List.length_append]
        show ws.length + 1 ≤ 65536
        omega
theorem gword_took {ws : List ByteArray} {s : Cu} {kind : Int} {lo hi : Nat} {e : Int} (he : e ≠ 0) (hs : s.fine = true) (hb : ∀ x ∈ s.b, 0 ≤ x ∧ x < 256) (hw : WsOk ws) (h : (gword ws s kind lo hi e).2.1.fine = true) :
    (lo ≤ (gword ws s kind lo hi e).1.size ∧ (gword ws s kind lo hi e).1.size ≤ hi) ∧ badI (clsB kind) (gword ws s kind lo hi e).1 < 0 ∧ Took s (gword ws s kind lo hi e).2.1 (dput ws (gword ws s kind lo hi e).1).1 ∧ (gword ws s kind lo hi e).2.2 = (dput ws (gword ws s kind lo hi e).1).2.2 := by
  unfold gword at h ⊢
  simp only at h ⊢
  by_cases hq : lo ≤ (dget ws s kind).1.size ∧ (dget ws s kind).1.size ≤ hi
  · rw [if_pos hq] at h ⊢
    rcases get_exact (kind := kind) hs hb hw.1 hw.2.1 hw.2.2 with ⟨h1, _⟩ | ⟨_, _, h2, _, xs, h3, _, h4, h5, h6⟩
    · rw [h1] at h; cases h
    · rw [h3]
      exact ⟨hq, by omega, ⟨h4, h5, h6⟩, rfl⟩
  · rw [if_neg hq] at h
    exact absurd h (fail_keep he)
theorem gkind_took {s : Cu} (hs : s.fine = true) (h : (gkind s).2.fine = true) : (1 ≤ (gkind s).1 ∧ (gkind s).1 ≤ 5) ∧ Took s (gkind s).2 [(gkind s).1] := by
  unfold gkind at h ⊢
  simp only at h ⊢
  by_cases hq : 1 ≤ s.byteV ∧ s.byteV ≤ 5
  · rw [if_pos hq] at h ⊢
    refine ⟨hq, ?_⟩
    have hl : s.pos < s.b.length := by
      rcases Nat.lt_or_ge s.pos s.b.length with h1 | h1
      · exact h1
      · have : s.byteV = 0 := by unfold Cu.byteV; rw [if_neg (by omega)]
        omega
    have hv : s.byteV = s.b.getD s.pos 0 := by unfold Cu.byteV; rw [if_pos ⟨hs, hl⟩]
    have ht : s.take 1 = s.adv 1 := by
      unfold Cu.take
      rw [if_neg (by rw [hs]; decide), if_neg (by decide), if_neg (by omega)]
      rfl
    refine ⟨ht, ?_, ?_⟩
    · show s.pos + 1 ≤ s.b.length
      omega
    · show (s.b.drop s.pos).take 1 = _
      rw [List.drop_eq_getElem_cons hl, List.take_succ_cons, List.take_zero, hv, List.getD_eq_getElem?_getD, List.getElem?_eq_getElem hl]
      rfl
  · rw [if_neg hq] at h
    exact absurd h (fail_keep (by decide))
theorem vread_fine1 {s : Cu} (h : s.vread.2.fine = true) : s.fine = true := by
  cases hs : s.fine with
  | true => rfl
  | false =>
    unfold Cu.vread at h
    rw [if_pos hs] at h
    rw [hs] at h
    cases h
theorem zag_range {n : Nat} (h : n < 18446744073709551616) : -9223372036854775808 ≤ zagZ (n / 2) ∧ zagZ (n / 2) ≤ 9223372036854775807 := zagZ_bd (by omega)
theorem gdec_took {s : Cu} (hs : s.fine = true) (hb : ∀ x ∈ s.b, 0 ≤ x ∧ x < 256) (h : (gdec s).2.fine = true) : decBad (gdec s).1.f0 (gdec s).1.f1 (gdec s).1.f2 = 0 ∧ decIn (gdec s).1 = true ∧ Took s (gdec s).2 (pdec (gdec s).1) := by
  unfold gdec at h ⊢
  by_cases h2 : s.vread.2.vread.2.fine = false
  · rw [if_pos h2] at h
    rw [h2] at h
    cases h
  rw [if_neg h2] at h ⊢
  have h3 : s.vread.2.vread.2.fine = true := by cases hq : s.vread.2.vread.2.fine with | true => rfl | false => exact absurd hq h2
  by_cases h4 : decBad (decide (s.vread.1 % 2 = 1)) (s.vread.2.vread.1 : Int) (zagZ (s.vread.1 / 2)) = 0
  · rw [if_pos h4] at h ⊢
    have h5 := vread_fine1 h3
    have t1 := vread_took hs hb h5
    have t2 := vread_took h5 (by rw [t1.b]; exact hb) h3
    have l1 := vread_lt s hb
    have l2 := vread_lt s.vread.2 (by rw [t1.b]; exact hb)
    refine ⟨h4, ?_, ?_⟩
    · unfold decIn
      simp only [Bool.and_eq_true, decide_eq_true_eq]
      have := zag_range l1
      omega
    · have e1 : decN ⟨decide (s.vread.1 % 2 = 1), (s.vread.2.vread.1 : Int), zagZ (s.vread.1 / 2)⟩ = s.vread.1 := by
        unfold decN
        simp only
        rw [zig_zag]
        by_cases hm : s.vread.1 % 2 = 1
        · rw [if_pos (decide_eq_true hm)]; omega
        · rw [if_neg (by rw [decide_eq_false hm]; decide)]; omega
      unfold pdec
      rw [e1]
      simp only [Int.toNat_natCast]
      exact t1.trans t2
  · rw [if_neg h4] at h
    exact absurd h (fail_keep h4)
theorem gvals_took : ∀ (k : Nat) (s : Cu), s.fine = true → s.pos ≤ s.b.length → (∀ x ∈ s.b, 0 ≤ x ∧ x < 256) → (gvals k s).2.fine = true → (gvals k s).1.length = k ∧ (∀ d ∈ (gvals k s).1, decBad d.f0 d.f1 d.f2 = 0 ∧ decIn d = true) ∧ Took s (gvals k s).2 (pdecs (gvals k s).1)
  | 0, s, hs, hp, hb, h => ⟨rfl, (fun d hd => by cases hd), Took.nil hp⟩
  | k + 1, s, hs, hp, hb, h => by
    have e : gvals (k + 1) s = ((gdec s).1 :: (gvals k (gdec s).2).1, (gvals k (gdec s).2).2) := if_pos hs
    rw [e] at h ⊢
    simp only at h ⊢
    have hf : (gdec s).2.fine = true := by
      cases hq : (gdec s).2.fine with
      | true => rfl
      | false =>
        have : gvals k (gdec s).2 = ([], (gdec s).2) := by
          cases k with
          | zero => rfl
          | succ k => exact if_neg (by rw [hq]; decide)
        rw [this, hq] at h
        cases h
    obtain ⟨a1, a2, a3⟩ := gdec_took hs hb hf
    obtain ⟨b1, b2, b3⟩ := gvals_took k (gdec s).2 hf a3.le (by rw [a3.b]; exact hb) h
    refine ⟨by rw [List.length_cons, b1], fun d hd => ?_, ?_⟩
    · rcases List.mem_cons.1 hd with rfl | hd
      · exact ⟨a1, a2⟩
      · exact b2 d hd
    · unfold pdecs
      rw [List.flatMap_cons]
      exact a3.trans b3
theorem gword_fine1 {ws : List ByteArray} {s : Cu} {kind : Int} {lo hi : Nat} {e : Int} (he : e ≠ 0) (h : (gword ws s kind lo hi e).2.1.fine = true) : s.fine = true := by
  cases hs : s.fine with
  | true => rfl
  | false =>
    have e1 : dget ws s kind = (ByteArray.empty, s, ws) := by unfold dget; rw [if_pos hs]
    unfold gword at h
    rw [e1] at h
    simp only at h
    split at h
    · rw [hs] at h; cases h
    · exact absurd h (fail_keep he)
theorem tagBad_of {k v : ByteArray} (h1 : 1 ≤ k.size ∧ k.size ≤ 64) (h2 : badI (clsB 2) k < 0) (h3 : v.size ≤ 100) (h4 : badI (clsB 3) v < 0) : tagBad k v = 0 := by
  unfold tagBad
  rw [if_pos ⟨(txOk_iff 2 k 1 64 rfl (by omega)).2 ⟨by omega, by omega, h2⟩, (txOk_iff 3 v 0 100 rfl (by omega)).2 ⟨by omega, by omega, h4⟩⟩]
theorem gtag_took {ws : List ByteArray} {s : Cu} {l : Option TagS} (hs : s.fine = true) (hb : ∀ x ∈ s.b, 0 ≤ x ∧ x < 256) (hw : WsOk ws) (h : (gtag ws s l).2.1.fine = true) :
    tagBad (gtag ws s l).1.f0 (gtag ws s l).1.f1 = 0 ∧ upB l (gtag ws s l).1 = true ∧ Took s (gtag ws s l).2.1 ((dput ws (gtag ws s l).1.f0).1 ++ (dput (dput ws (gtag ws s l).1.f0).2.2 (gtag ws s l).1.f1).1) ∧ (gtag ws s l).2.2 = (dput (dput ws (gtag ws s l).1.f0).2.2 (gtag ws s l).1.f1).2.2 := by
  unfold gtag at h ⊢
  simp only at h ⊢
  split at h
  · rename_i hu
    rw [if_pos hu]
    have f1 := gword_fine1 (by decide) h
    obtain ⟨a1, a2, a3, a4⟩ := gword_took (by decide) hs hb hw f1
    rw [a4] at h hu ⊢
    obtain ⟨b1, b2, b3, b4⟩ := gword_took (by decide) f1 (by rw [a3.b]; exact hb) (hw.put _) h
    refine ⟨tagBad_of a1 a2 b1.2 b2, hu, a3.trans b3, b4⟩
  · exact absurd h (fail_keep (by decide))
theorem gtags_nf {k : Nat} {ws : List ByteArray} {s : Cu} {l : Option TagS} (h : s.fine = false) : gtags k ws s l = ([], s, ws) := by
  cases k with
  | zero => rfl
  | succ k => exact if_neg (by rw [h]; decide)
theorem gvals_nf {k : Nat} {s : Cu} (h : s.fine = false) : gvals k s = ([], s) := by
  cases k with
  | zero => rfl
  | succ k => exact if_neg (by rw [h]; decide)
theorem gtags_took : ∀ (k : Nat) (ws : List ByteArray) (s : Cu) (o : Option TagS), s.fine = true → s.pos ≤ s.b.length → (∀ x ∈ s.b, 0 ≤ x ∧ x < 256) → WsOk ws → (gtags k ws s o).2.1.fine = true →
    (gtags k ws s o).1.length = k ∧ (∀ t ∈ (gtags k ws s o).1, tagBad t.f0 t.f1 = 0) ∧ TUpFrom o (gtags k ws s o).1 ∧ Took s (gtags k ws s o).2.1 (ptags ws (gtags k ws s o).1).1 ∧ (gtags k ws s o).2.2 = (ptags ws (gtags k ws s o).1).2
  | 0, ws, s, o, hs, hp, hb, hw, h => ⟨rfl, (fun d hd => by cases hd), trivial, Took.nil hp, rfl⟩
  | k + 1, ws, s, o, hs, hp, hb, hw, h => by
    have e : gtags (k + 1) ws s o = ((gtag ws s o).1 :: (gtags k (gtag ws s o).2.2 (gtag ws s o).2.1 (some (gtag ws s o).1)).1, (gtags k (gtag ws s o).2.2 (gtag ws s o).2.1 (some (gtag ws s o).1)).2) := if_pos hs
    rw [e] at h ⊢
    simp only at h ⊢
    have hf : (gtag ws s o).2.1.fine = true := by
      cases hq : (gtag ws s o).2.1.fine with
      | true => rfl
      | false =>
        rw [gtags_nf hq] at h
        exact absurd h (by rw [hq]; decide)
    obtain ⟨a1, a2, a3, a4⟩ := gtag_took hs hb hw hf
    obtain ⟨b1, b2, b3, b4, b5⟩ := gtags_took k (gtag ws s o).2.2 (gtag ws s o).2.1 (some (gtag ws s o).1) hf a3.le (by rw [a3.b]; exact hb) (by rw [a4]; exact (hw.put _).put _) h
    rw [a4] at b1 b2 b3 b4 b5 ⊢
    refine ⟨by rw [List.length_cons, b1], fun d hd => ?_, ⟨a2, b3⟩, a3.trans b4, b5⟩
    rcases List.mem_cons.1 hd with rfl | hd
    · exact a1
    · exact b2 d hd
theorem gnum_fine1 {s : Cu} {lo hi : Nat} {e : Int} (he : e ≠ 0) (h : (gnum s lo hi e).2.fine = true) : s.fine = true := by
  unfold gnum at h
  simp only at h
  split at h
  · exact vread_fine1 h
  · exact absurd h (fail_keep he)
theorem gkind_fine1 {s : Cu} (h : (gkind s).2.fine = true) : s.fine = true := by
  cases hs : s.fine with
  | true => rfl
  | false =>
    unfold gkind at h
    simp only at h
    split at h
    · rw [nf_take hs, hs] at h; cases h
    · exact absurd h (fail_keep (by decide))
theorem gvals_fine1 {k : Nat} {s : Cu} (h : (gvals k s).2.fine = true) : s.fine = true := by
  cases hs : s.fine with
  | true => rfl
  | false => rw [gvals_nf hs, hs] at h; cases h
theorem gtags_fine1 {k : Nat} {ws : List ByteArray} {s : Cu} {o : Option TagS} (h : (gtags k ws s o).2.1.fine = true) : s.fine = true := by
  cases hs : s.fine with
  | true => rfl
  | false => rw [gtags_nf hs, hs] at h; cases h
theorem gmet_took {ws : List ByteArray} {s : Cu} (hs : s.fine = true) (hb : ∀ x ∈ s.b, 0 ≤ x ∧ x < 256) (hw : WsOk ws) (h : (gmet ws s).2.1.fine = true) :
    metBad (gmet ws s).1 = 0 ∧ tIs (gmet ws s).1.f4 = true ∧ (∀ d ∈ (gmet ws s).1.f2, decIn d = true) ∧ Took s (gmet ws s).2.1 (pmet ws (gmet ws s).1).1 ∧ (gmet ws s).2.2 = (pmet ws (gmet ws s).1).2 := by
  unfold gmet at h ⊢
  unfold gmet1 at h ⊢
  unfold gmet2 at h ⊢
  unfold gmet3 at h ⊢
  unfold gmet4 at h ⊢
  unfold gmet5 at h ⊢
  unfold gend at h ⊢
  obtain ⟨a, ha⟩ : ∃ a, gword ws s 1 1 200 15 = a := ⟨_, rfl⟩
  rw [ha] at h ⊢
  obtain ⟨b, hbk⟩ : ∃ b, gkind a.2.1 = b := ⟨_, rfl⟩
  rw [hbk] at h ⊢
  obtain ⟨n1, hn1⟩ : ∃ n1, gnum b.2 1 64 17 = n1 := ⟨_, rfl⟩
  rw [hn1] at h ⊢
  obtain ⟨v, hv⟩ : ∃ v, gvals n1.1 n1.2 = v := ⟨_, rfl⟩
  rw [hv] at h ⊢
  obtain ⟨r, hr⟩ : ∃ r, gnum v.2 (leastR b.1) 1000000 18 = r := ⟨_, rfl⟩
  rw [hr] at h ⊢
  obtain ⟨n2, hn2⟩ : ∃ n2, gnum r.2 0 32 19 = n2 := ⟨_, rfl⟩
  rw [hn2] at h ⊢
  obtain ⟨g, hg⟩ : ∃ g, gtags n2.1 a.2.2 n2.2 none = g := ⟨_, rfl⟩
  rw [hg] at h ⊢
  obtain ⟨u, hu⟩ : ∃ u, gnum g.2.1 0 1099511627776 20 = u := ⟨_, rfl⟩
  rw [hu] at h ⊢
  have fu : u.2.fine = true := by
    split at h
    · assumption
    · exact h
  rw [if_pos fu]
  simp only
  have fg : g.2.1.fine = true := by rw [← hu] at fu; exact gnum_fine1 (by decide) fu
  have fn2 : n2.2.fine = true := by rw [← hg] at fg; exact gtags_fine1 fg
  have fr : r.2.fine = true := by rw [← hn2] at fn2; exact gnum_fine1 (by decide) fn2
  have fv : v.2.fine = true := by rw [← hr] at fr; exact gnum_fine1 (by decide) fr
  have fn1 : n1.2.fine = true := by rw [← hv] at fv; exact gvals_fine1 fv
  have fb : b.2.fine = true := by rw [← hn1] at fn1; exact gnum_fine1 (by decide) fn1
  have fa : a.2.1.fine = true := by rw [← hbk] at fb; exact gkind_fine1 fb
  have ta := gword_took (ws := ws) (s := s) (kind := 1) (lo := 1) (hi := 200) (e := 15) (by decide) hs hb hw (by rw [ha]; exact fa)
  rw [ha] at ta
  obtain ⟨ta1, ta2, ta3, ta4⟩ := ta
  have ba : ∀ x ∈ a.2.1.b, 0 ≤ x ∧ x < 256 := by rw [ta3.b]; exact hb
  have tb := gkind_took fa (by rw [hbk]; exact fb)
  rw [hbk] at tb
  have bb : ∀ x ∈ b.2.b, 0 ≤ x ∧ x < 256 := by rw [tb.2.b]; exact ba
  have tn1 := gnum_took (s := b.2) (lo := 1) (hi := 64) (e := 17) (by decide) fb bb (by rw [hn1]; exact fn1)
  rw [hn1] at tn1
  have bn1 : ∀ x ∈ n1.2.b, 0 ≤ x ∧ x < 256 := by rw [tn1.2.b]; exact bb
  have tv := gvals_took n1.1 n1.2 fn1 tn1.2.le bn1 (by rw [hv]; exact fv)
  rw [hv] at tv
  obtain ⟨tv1, tv2, tv3⟩ := tv
  have bv : ∀ x ∈ v.2.b, 0 ≤ x ∧ x < 256 := by rw [tv3.b]; exact bn1
  have tr := gnum_took (s := v.2) (lo := leastR b.1) (hi := 1000000) (e := 18) (by decide) fv bv (by rw [hr]; exact fr)
  rw [hr] at tr
  have br : ∀ x ∈ r.2.b, 0 ≤ x ∧ x < 256 := by rw [tr.2.b]; exact bv
  have tn2 := gnum_took (s := r.2) (lo := 0) (hi := 32) (e := 19) (by decide) fr br (by rw [hn2]; exact fn2)
  rw [hn2] at tn2
  have bn2 : ∀ x ∈ n2.2.b, 0 ≤ x ∧ x < 256 := by rw [tn2.2.b]; exact br
  have hw2 : WsOk a.2.2 := by rw [ta4]; exact hw.put _
  have tg := gtags_took n2.1 a.2.2 n2.2 none fn2 tn2.2.le bn2 hw2 (by rw [hg]; exact fg)
  rw [hg] at tg
  obtain ⟨tg1, tg2, tg3, tg4, tg5⟩ := tg
  have bg : ∀ x ∈ g.2.1.b, 0 ≤ x ∧ x < 256 := by rw [tg4.b]; exact bn2
  have tu := gnum_took (s := g.2.1) (lo := 0) (hi := 1099511627776) (e := 20) (by decide) fg bg (by rw [hu]; exact fu)
  rw [hu] at tu
  refine ⟨metBad_mk ⟨ta1.1, ta1.2, ta2⟩ tb.1 ⟨⟨by show 1 ≤ v.1.length; omega, by show v.1.length ≤ 64; omega⟩, fun d hd => (tv2 d hd).1⟩ ⟨?_, ?_⟩ ⟨by show g.1.length ≤ 32; omega, tg2⟩ (by show (0 : Int) ≤ (u.1 : Int) ∧ (u.1 : Int) ≤ 1099511627776; have := tu.1; omega), tUpFrom_is _ _ tg3, fun d hd => (tv2 d hd).2, ?_, ?_⟩
  · show (1 : Int) ≤ (r.1 : Int) ∧ (r.1 : Int) ≤ 1000000
    have h1 := tr.1
    unfold leastR at h1
    split at h1 <;> omega
  · intro e
    have e : b.1 = 2 := e
    have h1 := tr.1
    unfold leastR at h1
    rw [if_pos e] at h1
    show (r.1 : Int) = 1000000
    omega
  · unfold pmet
    simp only [Int.toNat_natCast]
    rw [tv1, tg1]
    rw [ta4] at tg4
    exact ((((((ta3.trans tb.2).trans tn1.2).trans tv3).trans tr.2).trans tn2.2).trans tg4).trans tu.2
  · rw [tg5, ta4]
    rfl
/-! A Cur that is wrong has an error's number. -/
theorem gword_sane {ws : List ByteArray} {s : Cu} {kind : Int} {lo hi : Nat} {e : Int} (h : s.sane) : (gword ws s kind lo hi e).2.1.sane := by
  unfold gword
  simp only
  split
  · exact dget_sane h
  · exact (dget_sane h).fail _ _
theorem gnum_sane {s : Cu} {lo hi : Nat} {e : Int} (h : s.sane) : (gnum s lo hi e).2.sane := by
  unfold gnum
  simp only
  split
  · exact h.vread
  · exact h.vread.fail _ _
theorem gkind_sane {s : Cu} (h : s.sane) : (gkind s).2.sane := by
  unfold gkind
  simp only
  split
  · exact h.take _
  · exact (h.take _).fail _ _
theorem gdec_sane {s : Cu} (h : s.sane) : (gdec s).2.sane := by
  unfold gdec
  split
  · exact h.vread.vread
  · split
    · exact h.vread.vread
    · exact h.vread.vread.fail _ _
theorem gvals_sane : ∀ (k : Nat) {s : Cu}, s.sane → (gvals k s).2.sane
  | 0, s, h => h
  | k + 1, s, h => by
    unfold gvals
    split
    · exact gvals_sane k (gdec_sane h)
    · exact h
theorem gtag_sane {ws : List ByteArray} {s : Cu} {l : Option TagS} (h : s.sane) : (gtag ws s l).2.1.sane := by
  unfold gtag
  simp only
  split
  · exact gword_sane (gword_sane h)
  · exact (gword_sane (gword_sane h)).fail _ _
theorem gtags_sane : ∀ (k : Nat) {ws : List ByteArray} {s : Cu} {o : Option TagS}, s.sane → (gtags k ws s o).2.1.sane
  | 0, ws, s, o, h => h
  | k + 1, ws, s, o, h => by
    unfold gtags
    split
    · exact gtags_sane k (gtag_sane h)
    · exact h
theorem gmet_sane {ws : List ByteArray} {s : Cu} (h : s.sane) : (gmet ws s).2.1.sane := by
  have e : (gmet ws s).2.1 = (gnum (gtags (gnum (gnum (gvals (gnum (gkind (gword ws s 1 1 200 15).2.1).2 1 64 17).1 (gnum (gkind (gword ws s 1 1 200 15).2.1).2 1 64 17).2).2 (leastR (gkind (gword ws s 1 1 200 15).2.1).1) 1000000 18).2 0 32 19).1 (gword ws s 1 1 200 15).2.2 (gnum (gnum (gvals (gnum (gkind (gword ws s 1 1 200 15).2.1).2 1 64 17).1 (gnum (gkind (gword ws s 1 1 200 15).2.1).2 1 64 17).2).2 (leastR (gkind (gword ws s 1 1 200 15).2.1).1) 1000000 18).2 0 32 19).2 none).2.1 0 1099511627776 20).2 := by
    unfold gmet gmet1 gmet2 gmet3 gmet4 gmet5 gend
    split <;> rfl
  rw [e]
  exact gnum_sane (gtags_sane _ (gnum_sane (gnum_sane (gvals_sane _ (gnum_sane (gkind_sane (gword_sane h)))))))
/-! The bytes may lie elsewhere. -/
section
variable (A : Option Addr) (c : Nat)
end
end Go.Proofs.Ytclbmdblalgdjaa
/- Package rec: what its walks lean on: a Cur and a dictionary that turns, and what lies beside them; no condition. -/
namespace Go.Proofs.Ytclbmdblalgdjaa
open Go.RowKit Go.Proofs.YtclbmdblalgdjaaW.PrintWords Go.Proofs.YtclbmdblalgdjaaW.PrintLast Go.Proofs.YtclbmdblalgdjaaW.PrintMore Go.Proofs.Ytclbmdblalgdjaa.PE
set_option linter.unusedVariables false
set_option linter.unusedSimpArgs false
theorem DicAt.nblk {d : Dic} {W : World} (h : DicAt d W) {b t : Nat} {cells : Array Value} (hb : W.heap[b]? = some (.cells cells t (0, 0))) (h1 : t ≠ 93) (h2 : t ≠ 9) : ¬ d.F b := by
  rintro (e | e | e)
  · have e : b = d.g := e
    rw [e, h.blk] at hb
    injection hb with hb
    injection hb with _ hb
    exact h1 hb.symm
  · have e : b = d.gm := e
    obtain ⟨es, c, h3⟩ := h.map.blk
    rw [e, h3] at hb
    cases hb
  · have e : some b = d.v.ownBlock := e
    obtain ⟨cs, hc⟩ := Kd.R_typed h.row b e.symm
    rw [hb] at hc
    injection hc with hc
    injection hc with _ hc
    exact h2 hc
theorem CurAt.nblk {ok : Nat → Prop} {g : Nat} {s : Cu} {W : World} (h : CurAt ok g s W) {b t : Nat} {cells : Array Value} (hb : W.heap[b]? = some (.cells cells t (0, 0))) (h1 : t ≠ 98) : b ≠ g := by
  rintro rfl
  rw [h.blk] at hb
  injection hb with hb
  injection hb with _ hb
  exact h1 hb.symm
structure RX (ok : Nat → Prop) (g : Nat) (d : Dic) (s : Cu) (v : Value) (ws : List ByteArray) (w W : World) : Prop where
  cur : CurAt ok g s W
  dic : DicAt ⟨d.g, d.gm, v, ws⟩ W
  chg : Chg (fun k => k = g ∨ d.F k) w W
  nx : v.ownBlock = d.v.ownBlock ∨ ∃ k, v.ownBlock = some k ∧ w.heap.size ≤ k
  ap : ∀ k, ok k → ¬ d.F k
  lo : ∀ k, ok k → k < w.heap.size
def TwoPost (ok : Nat → Prop) (g : Nat) (d : Dic) (s' : Cu) (ws' : List ByteArray) (w w' : World) : Prop := CurAt ok g s' w' ∧ DTurnS (fun k => k = g ∨ d.F k) d ws' w w'
section
variable {ok : Nat → Prop} {g : Nat} {d : Dic} {s s' : Cu} {v : Value} {ws ws' : List ByteArray} {w W W' : World}
theorem RX.start (hc : CurAt ok g s w) (hd : DicAt d w) (ap : ∀ k, ok k → ¬ d.F k) (lo : ∀ k, ok k → k < w.heap.size) : RX ok g d s d.v d.ws w w := ⟨hc, hd, Chg.refl _ _, .inl rfl, ap, lo⟩
theorem RX.ap2 (h : RX ok g d s v ws w W) : ∀ k, ok k → ¬ (⟨d.g, d.gm, v, ws⟩ : Dic).F k := by
  rintro k hk (e | e | e)
  · exact h.ap k hk (.inl e)
  · exact h.ap k hk (.inr (.inl e))
  · have e2 : some k = v.ownBlock := e
    rcases h.nx with ho | ⟨j, hj, hl⟩
    · exact h.ap k hk (.inr (.inr (e2.trans ho)))
    · rw [hj] at e2
      injection e2 with e2
      have := h.lo k hk
      omega
theorem RX.F2 (h : RX ok g d s v ws w W) : ∀ k, (⟨d.g, d.gm, v, ws⟩ : Dic).F k → d.F k ∨ w.heap.size ≤ k := DTurn.next h.nx
theorem RX.turn (h : RX ok g d s v ws w W) (hc : CurAt ok g s' W') (hg : Chg (fun k => k = g) W W') : RX ok g d s' v ws w W' :=
  ⟨hc, h.dic.step hg (fun k hk (e : k = g) => h.ap2 g h.cur.okg (e ▸ hk)), h.chg.trans hg (fun _ e => .inl (.inl e)), h.nx, h.ap, h.lo⟩
theorem RX.below (h : RX ok g d s v ws w W) (hb : Below W.heap.size W W') : RX ok g d s v ws w W' := ⟨h.cur.below hb, h.dic.below hb, h.chg.below hb, h.nx, h.ap, h.lo⟩
theorem RX.far (h : RX ok g d s v ws w W) {S : Nat → Prop} (hc : Chg S W W') (h1 : ∀ k, S k → w.heap.size ≤ k) (h2 : ∀ k, S k → ¬ (⟨d.g, d.gm, v, ws⟩ : Dic).F k) : RX ok g d s v ws w W' :=
  ⟨h.cur.step hc (fun k hk hs => by have := h.lo k hk; have := h1 k hs; omega), h.dic.step hc (fun k hk hs => h2 k hs hk), h.chg.trans hc (fun k hk => .inr (h1 k hk)), h.nx, h.ap, h.lo⟩
theorem RX.put (h : RX ok g d s v ws w W) {b t j : Nat} {cells : Array Value} (hb : W.heap[b]? = some (.cells cells t (0, 0))) (h1 : t ≠ 93) (h2 : t ≠ 9) (hl : w.heap.size ≤ b) (u : Value) : RX ok g d s v ws w (W.setCell ⟨b, j, none⟩ u) :=
  h.far (S := fun k => k = b) ((Chg.refl _ _).set1 j u) (fun k hk => by rw [hk]; exact hl) (fun k hk => by rw [hk]; exact h.dic.nblk hb h1 h2)
theorem RX.two (h : RX ok g d s v ws w W) : TwoPost ok g d s ws w W := ⟨h.cur, v, h.dic, h.chg, h.nx⟩
theorem RX.of (h : RX ok g d s v ws w W) (hp : TwoPost ok g ⟨d.g, d.gm, v, ws⟩ s' ws' W W') : ∃ v', RX ok g d s' v' ws' w W' ∧ Chg (fun k => k = g ∨ (⟨d.g, d.gm, v, ws⟩ : Dic).F k) W W' := by
  obtain ⟨hc, v', hd, hg, hn⟩ := hp
  refine ⟨v', ⟨hc, hd, h.chg.trans hg (fun k hk => ?_), ?_, h.ap, h.lo⟩, hg⟩
  · rcases hk with e | e
    · exact .inl (.inl e)
    · exact (h.F2 k e).elim (fun e => .inl (.inr e)) .inr
  · rcases hn with hn | ⟨k, hk, hl⟩
    · rcases h.nx with ho | ⟨j, hj, hl⟩
      · exact .inl (hn.trans ho)
      · exact .inr ⟨j, hn.trans hj, hl⟩
    · exact .inr ⟨k, hk, Nat.le_trans h.chg.size hl⟩
theorem RX.get (h : RX ok g d s v ws w W) (hs : s.sane) (kind : Int) :
    Calls Try.prog 100 #[.pointer (some ⟨d.g, 0, none⟩), .pointer (some ⟨g, 0, none⟩), .int .i64 kind] W fun e W' => e = .returned (.string (dget ws s kind).1) ∧ TwoPost ok g ⟨d.g, d.gm, v, ws⟩ (dget ws s kind).2.1 (dget ws s kind).2.2 W W' := by
  refine (dicget_calls ⟨d.g, d.gm, v, ws⟩ g s kind W ⟨h.cur, h.dic, Chg.refl _ _, h.ap2⟩ hs).mono ?_
  rintro e w' ⟨h1, h2, h3⟩
  exact ⟨h1, h2, h3⟩
end
section
variable {α : Type} {kd : Kd α} {e base : Nat} {ok ok' : Nat → Prop} {g : Nat} {d : Dic} {s : Cu} {x : Value} {xs : List α} {W W' : World}
theorem two_row (hE : kd.E = []) (h1 : e ≠ 98) (h2 : e ≠ 93) (h3 : e ≠ 9) (hc : CurAt ok g s W) (hd : DicAt d W) (hg : Chg (fun k => k = g ∨ d.F k) W W') (hR : kd.R e W base ok' x xs) : kd.R e W' base ok' x xs := by
  refine Kd.R_mono (Kd.R_step (Kd.R_tight hE hR) (fun k hk hl => hg.block k hl ?_)) (fun k hk => hR.1 k hk.symm)
  obtain ⟨cells, hb⟩ := Kd.R_typed hR k hk.symm
  rintro (e | e)
  · exact hc.nblk hb h1 e
  · exact hd.nblk hb h2 h3 e
theorem two_blk {b t : Nat} {cells : Array Value} (h1 : t ≠ 98) (h2 : t ≠ 93) (h3 : t ≠ 9) (hc : CurAt ok g s W) (hd : DicAt d W) (hg : Chg (fun k => k = g ∨ d.F k) W W') (hb : W.heap[b]? = some (.cells cells t (0, 0))) : W'.heap[b]? = some (.cells cells t (0, 0)) := by
  refine (hg.block b (blk_lt hb) ?_).trans hb
  rintro (e | e)
  · exact hc.nblk hb h1 e
  · exact hd.nblk hb h2 h3 e
theorem cur_row (hE : kd.E = []) (h1 : e ≠ 98) (hc : CurAt ok g s W) (hg : Chg (fun k => k = g) W W') (hR : kd.R e W base ok' x xs) : kd.R e W' base ok' x xs := by
  refine Kd.R_mono (Kd.R_step (Kd.R_tight hE hR) (fun k hk hl => hg.block k hl ?_)) (fun k hk => hR.1 k hk.symm)
  obtain ⟨cells, hb⟩ := Kd.R_typed hR k hk.symm
  exact hc.nblk hb h1
theorem cur_blk {b t : Nat} {cells : Array Value} (h1 : t ≠ 98) (hc : CurAt ok g s W) (hg : Chg (fun k => k = g) W W') (hb : W.heap[b]? = some (.cells cells t (0, 0))) : W'.heap[b]? = some (.cells cells t (0, 0)) :=
  (hg.block b (blk_lt hb) (hc.nblk hb h1)).trans hb
end
end Go.Proofs.Ytclbmdblalgdjaa
