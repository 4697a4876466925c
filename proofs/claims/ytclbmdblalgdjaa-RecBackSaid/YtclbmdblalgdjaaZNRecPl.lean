/- Metrics as bytes: what is put, what is taken, and that each is the other's; plain; no condition. -/
import Derived.Test.YtclbmdblalgdjaaZNPlExact
import Derived.Test.YtclbmdblalgdjaaZNGetsW
import Derived.Test.YtclbmdblalgdjaaZNTagPl
import Derived.Test.YtclbmdblalgdjaaZNRMet
namespace Go.Proofs.Ytclbmdblalgdjaa
open Go.RowKit Go.Proofs.YtclbmdblalgdjaaW.PrintWords Go.Proofs.YtclbmdblalgdjaaW.PrintLast Go.Proofs.YtclbmdblalgdjaaW.PrintMore Go.Proofs.Ytclbmdblalgdjaa.PE
set_option linter.unusedVariables false
set_option linter.unusedSimpArgs false
def decZ : DecS := ⟨false, 0, 0⟩
def recZ : MetS := ⟨⟨#[]⟩, 0, [], 0, [], 0⟩
/-! What is taken. -/
def gdec (s : Cu) : DecS × Cu :=
  if s.vread.2.vread.2.fine = false then (decZ, s.vread.2.vread.2)
  else if decBad (decide (s.vread.1 % 2 = 1)) (s.vread.2.vread.1 : Int) (zagZ (s.vread.1 / 2)) = 0 then (⟨decide (s.vread.1 % 2 = 1), (s.vread.2.vread.1 : Int), zagZ (s.vread.1 / 2)⟩, s.vread.2.vread.2)
  else (decZ, s.vread.2.vread.2.fail (decBad (decide (s.vread.1 % 2 = 1)) (s.vread.2.vread.1 : Int) (zagZ (s.vread.1 / 2))) s.pos)
def gnum (s : Cu) (lo hi : Nat) (e : Int) : Nat × Cu := (s.vread.1, if lo ≤ s.vread.1 ∧ s.vread.1 ≤ hi then s.vread.2 else s.vread.2.fail e s.pos)
def gword (ws : List ByteArray) (s : Cu) (cl : Int) (lo hi : Nat) (e : Int) : ByteArray × Cu × List ByteArray :=
  ((dget ws s cl).1, if lo ≤ (dget ws s cl).1.size ∧ (dget ws s cl).1.size ≤ hi then (dget ws s cl).2.1 else (dget ws s cl).2.1.fail e s.pos, (dget ws s cl).2.2)
def gkind (s : Cu) : Int × Cu := (s.byteV, if 1 ≤ s.byteV ∧ s.byteV ≤ 5 then s.take 1 else (s.take 1).fail 16 s.pos)
def gvals : Nat → Cu → List DecS × Cu
  | 0, s => ([], s)
  | k + 1, s => if s.fine = true then ((gdec s).1 :: (gvals k (gdec s).2).1, (gvals k (gdec s).2).2) else ([], s)
def upB (l : Option TagS) (t : TagS) : Bool := match l with
  | none => true
  | some x => tLt x t
def gtag (ws : List ByteArray) (s : Cu) (l : Option TagS) : TagS × Cu × List ByteArray :=
  (⟨(gword ws s 2 1 64 19).1, (gword (gword ws s 2 1 64 19).2.2 (gword ws s 2 1 64 19).2.1 3 0 100 19).1⟩,
   if upB l ⟨(gword ws s 2 1 64 19).1, (gword (gword ws s 2 1 64 19).2.2 (gword ws s 2 1 64 19).2.1 3 0 100 19).1⟩ = true then (gword (gword ws s 2 1 64 19).2.2 (gword ws s 2 1 64 19).2.1 3 0 100 19).2.1
   else (gword (gword ws s 2 1 64 19).2.2 (gword ws s 2 1 64 19).2.1 3 0 100 19).2.1.fail 21 s.pos,
   (gword (gword ws s 2 1 64 19).2.2 (gword ws s 2 1 64 19).2.1 3 0 100 19).2.2)
def gtags : Nat → List ByteArray → Cu → Option TagS → List TagS × Cu × List ByteArray
  | 0, ws, s, _ => ([], s, ws)
  | k + 1, ws, s, l => if s.fine = true then ((gtag ws s l).1 :: (gtags k (gtag ws s l).2.2 (gtag ws s l).2.1 (some (gtag ws s l).1)).1, (gtags k (gtag ws s l).2.2 (gtag ws s l).2.1 (some (gtag ws s l).1)).2) else ([], s, ws)
def leastR (k : Int) : Nat := if k = 2 then 1000000 else 1
def gend (nm : ByteArray) (kd : Int) (vs : List DecS) (rt : Nat) (ts : List TagS) (ws : List ByteArray) (u : Nat × Cu) : MetS × Cu × List ByteArray :=
  if u.2.fine = true then (⟨nm, kd, vs, (rt : Int), ts, (u.1 : Int)⟩, u.2, ws) else (recZ, u.2, ws)
theorem gend_ok {nm : ByteArray} {kd : Int} {vs : List DecS} {rt : Nat} {ts : List TagS} {ws : List ByteArray} {u : Nat × Cu} (h : u.2.fine = true) : gend nm kd vs rt ts ws u = (⟨nm, kd, vs, (rt : Int), ts, (u.1 : Int)⟩, u.2, ws) := if_pos h
theorem gend_no {nm : ByteArray} {kd : Int} {vs : List DecS} {rt : Nat} {ts : List TagS} {ws : List ByteArray} {u : Nat × Cu} (h : ¬ u.2.fine = true) : gend nm kd vs rt ts ws u = (recZ, u.2, ws) := if_neg h
def gmet5 (nm : ByteArray) (kd : Int) (vs : List DecS) (rt : Nat) (g : List TagS × Cu × List ByteArray) : MetS × Cu × List ByteArray := gend nm kd vs rt g.1 g.2.2 (gnum g.2.1 0 1099511627776 20)
def gmet4 (ws : List ByteArray) (nm : ByteArray) (kd : Int) (vs : List DecS) (r : Nat × Cu) : MetS × Cu × List ByteArray := gmet5 nm kd vs r.1 (gtags (gnum r.2 0 32 19).1 ws (gnum r.2 0 32 19).2 none)
def gmet3 (ws : List ByteArray) (nm : ByteArray) (kd : Int) (v : List DecS × Cu) : MetS × Cu × List ByteArray := gmet4 ws nm kd v.1 (gnum v.2 (leastR kd) 1000000 18)
def gmet2 (ws : List ByteArray) (nm : ByteArray) (b : Int × Cu) : MetS × Cu × List ByteArray := gmet3 ws nm b.1 (gvals (gnum b.2 1 64 17).1 (gnum b.2 1 64 17).2)
def gmet1 (a : ByteArray × Cu × List ByteArray) : MetS × Cu × List ByteArray := gmet2 a.2.2 a.1 (gkind a.2.1)
def gmet (ws : List ByteArray) (s : Cu) : MetS × Cu × List ByteArray := gmet1 (gword ws s 1 1 200 15)
/-! What is put. -/
def decN (d : DecS) : Nat := 2 * zigN d.f2 + (if d.f0 = true then 1 else 0)
def pdec (d : DecS) : List Int := vput (decN d) ++ vput d.f1.toNat
def pdecs (l : List DecS) : List Int := l.flatMap pdec
def ptags : List ByteArray → List TagS → List Int × List ByteArray
  | ws, [] => ([], ws)
  | ws, t :: l => ((dput ws t.f0).1 ++ (dput (dput ws t.f0).2.2 t.f1).1 ++ (ptags (dput (dput ws t.f0).2.2 t.f1).2.2 l).1, (ptags (dput (dput ws t.f0).2.2 t.f1).2.2 l).2)
def pmet (ws : List ByteArray) (m : MetS) : List Int × List ByteArray :=
  ((dput ws m.f0).1 ++ [m.f1] ++ vput m.f2.length ++ pdecs m.f2 ++ vput m.f3.toNat ++ vput m.f4.length ++ (ptags (dput ws m.f0).2.2 m.f4).1 ++ vput m.f5.toNat, (ptags (dput ws m.f0).2.2 m.f4).2)
def pcode (ws : List ByteArray) (m : MetS) : Int := if metBad m = 0 then (if tIs m.f4 = true then (if 65471 < ws.length then 12 else 0) else 21) else metBad m
/-! The parts of a metric that is right. -/
theorem metParts {m : MetS} (h : metBad m = 0) : (1 ≤ m.f0.size ∧ m.f0.size ≤ 200 ∧ badI (clsB 1) m.f0 < 0) ∧ (1 ≤ m.f1 ∧ m.f1 ≤ 5) ∧ ((1 ≤ m.f2.length ∧ m.f2.length ≤ 64) ∧ ∀ d ∈ m.f2, decBad d.f0 d.f1 d.f2 = 0) ∧ ((1 ≤ m.f3 ∧ m.f3 ≤ 1000000) ∧ (m.f1 = 2 → m.f3 = 1000000)) ∧ (m.f4.length ≤ 32 ∧ ∀ t ∈ m.f4, tagBad t.f0 t.f1 = 0) ∧ (0 ≤ m.f5 ∧ m.f5 ≤ 1099511627776) := by
  have hq : metPart m 0 = true ∧ metPart m 1 = true ∧ metPart m 2 = true ∧ metPart m 3 = true ∧ metPart m 4 = true ∧ metPart m 5 = true := by
    unfold metBad at h
    repeat' split at h
    all_goals first | (exfalso; omega) | (simp_all)
  obtain ⟨q0, q1, q2, q3, q4, q5⟩ := hq
  have q0 : txOk 1 m.f0 1 200 = true := q0
  have q1 : betB m.f1 1 5 = true := q1
  have q2 : (betB m.f2.length 1 64 && !(m.f2.any decW)) = true := q2
  have q3 : (betB m.f3 1 1000000 && (m.f1 != 2 || m.f3 == 1000000)) = true := q3
  have q4 : (decide ((m.f4.length : Int) ≤ 32) && !(m.f4.any tagW)) = true := q4
  have q5 : betB m.f5 0 1099511627776 = true := q5
  have r0 := (txOk_iff 1 m.f0 1 200 rfl (by omega)).1 q0
  unfold betB at q1 q2 q3 q5
  simp only [Bool.and_eq_true, decide_eq_true_eq, Bool.not_eq_true', List.any_eq_false] at q1 q2 q3 q4 q5
  refine ⟨⟨by omega, by omega, r0.2.2⟩, q1, ⟨by omega, fun d hd => ?_⟩, ⟨q3.1, fun e => ?_⟩, ⟨by omega, fun t ht => ?_⟩, q5⟩
  · have := q2.2 d hd
    unfold decW at this
    simpa using this
  · have := q3.2
    rw [e] at this
    simpa using this
  · have := q4.2 t ht
    unfold tagW at this
    simpa using this
/-! Put, then taken. -/
section
variable {A : Option Addr} {c p : Nat} {B rest : List Int}
theorem gnum_put {x lo hi : Nat} {e : Int} (hd : B.drop p = vput x ++ rest) (hx : x < 18446744073709551616) (h : lo ≤ x ∧ x ≤ hi) : gnum ⟨A, c, B, p, 0, 0, false⟩ lo hi e = (x, ⟨A, c, B, p + (vput x).length, 0, 0, false⟩) := by
  unfold gnum
  rw [vread_put hd hx]
  simp only
  rw [if_pos h]
theorem gword_put {ws : List ByteArray} {s : ByteArray} {kind : Int} {lo hi : Nat} {e : Int} (hk : betB kind 1 4 = true) (hb : badI (clsB kind) s < 0) (hs : s.size ≤ 200) (hl : ws.length < 65536) (hd : B.drop p = (dput ws s).1 ++ rest) (h : lo ≤ s.size ∧ s.size ≤ hi) :
    gword ws ⟨A, c, B, p, 0, 0, false⟩ kind lo hi e = (s, ⟨A, c, B, p + (dput ws s).1.length, 0, 0, false⟩, (dput ws s).2.2) := by
  unfold gword
  rw [get_put hk hb hs hl hd]
  simp only
  rw [if_pos h]
theorem gkind_put {k : Int} (hd : B.drop p = k :: rest) (hk : 1 ≤ k ∧ k ≤ 5) : gkind ⟨A, c, B, p, 0, 0, false⟩ = (k, ⟨A, c, B, p + 1, 0, 0, false⟩) := by
  have hl : p < B.length := by
    have := congrArg List.length hd
    rw [List.length_drop, List.length_cons] at this
    omega
  have hg : B.getD p 0 = k := by
    have h1 : (B.drop p)[0]? = some k := by rw [hd]; rfl
    rw [List.getElem?_drop] at h1
    rw [List.getD_eq_getElem?_getD, show B[p]? = some k from h1]
    rfl
  have hv : (⟨A, c, B, p, 0, 0, false⟩ : Cu).byteV = k := by
    unfold Cu.byteV
    rw [if_pos ⟨rfl, hl⟩]
    exact hg
  have ht : (⟨A, c, B, p, 0, 0, false⟩ : Cu).take 1 = ⟨A, c, B, p + 1, 0, 0, false⟩ := by
    unfold Cu.take
    rw [if_neg (by intro h; cases (show true = false from h)), if_neg (by decide), if_neg (by simp only; omega)]
    rfl
  unfold gkind
  rw [hv, ht, if_pos hk]
theorem decBad_small {d : DecS} (h : decBad d.f0 d.f1 d.f2 = 0) : -18 ≤ d.f2 ∧ d.f2 ≤ 18 := by
  unfold decBad at h
  split at h
  · cases h
  · rename_i h1
    by_cases h0 : d.f1 = 0
    · rw [if_pos h0] at h
      split at h
      · rename_i h2
        omega
      · cases h
    · omega
theorem decN_lt {d : DecS} (h : decBad d.f0 d.f1 d.f2 = 0) : decN d < 128 := by
  have := decBad_small h
  unfold decN zigN
  split <;> split <;> omega
theorem decN_div (d : DecS) : decN d / 2 = zigN d.f2 := by
  unfold decN
  split <;> omega
theorem decN_mod (d : DecS) : decide (decN d % 2 = 1) = d.f0 := by
  unfold decN
  cases h : d.f0 with
  | true => rw [if_pos rfl]; exact decide_eq_true (by omega)
  | false => rw [if_neg (by decide)]; exact decide_eq_false (by omega)
theorem gdec_put {d : DecS} (hd : B.drop p = pdec d ++ rest) (hi : 0 ≤ d.f1 ∧ d.f1 < 18446744073709551616) (hb : decBad d.f0 d.f1 d.f2 = 0) : gdec ⟨A, c, B, p, 0, 0, false⟩ = (d, ⟨A, c, B, p + (pdec d).length, 0, 0, false⟩) := by
  unfold pdec at hd
  rw [List.append_assoc] at hd
  have h1 := decN_lt hb
  have hd2 : B.drop (p + (vput (decN d)).length) = vput d.f1.toNat ++ rest := by rw [← List.drop_drop, hd, List.drop_left]
  have e1 := vread_put (A := A) (c := c) hd (by omega)
  have e2 := vread_put (A := A) (c := c) hd2 (by omega)
  unfold gdec
  rw [e1]
  simp only
  rw [e2]
  simp only
  rw [if_neg (by intro h; cases (show true = false from h)), decN_mod, decN_div, zag_zig, Int.toNat_of_nonneg hi.1, if_pos hb]
  unfold pdec
  rw [List.length_append, Nat.add_assoc]
theorem gvals_put : ∀ (l : List DecS) (p : Nat) (rest : List Int), (∀ d ∈ l, (0 ≤ d.f1 ∧ d.f1 < 18446744073709551616) ∧ decBad d.f0 d.f1 d.f2 = 0) → B.drop p = pdecs l ++ rest → gvals l.length ⟨A, c, B, p, 0, 0, false⟩ = (l, ⟨A, c, B, p + (pdecs l).length, 0, 0, false⟩)
  | [], p, rest, _, _ => rfl
  | d :: l, p, rest, h, hd => by
    have h0 := h d List.mem_cons_self
    have hd1 : B.drop p = pdec d ++ (pdecs l ++ rest) := by
      rw [hd]
      unfold pdecs
      rw [List.flatMap_cons, List.append_assoc]
    have e1 := gdec_put (A := A) (c := c) hd1 h0.1 h0.2
    have e2 := gvals_put l (p + (pdec d).length) rest (fun x hx => h x (List.mem_cons_of_mem _ hx)) (by rw [← List.drop_drop, hd1, List.drop_left])
    show (if (⟨A, c, B, p, 0, 0, false⟩ : Cu).fine = true then _ else _) = _
    rw [if_pos (show (⟨A, c, B, p, 0, 0, false⟩ : Cu).fine = true from rfl), e1]
    simp only
    rw [e2]
    unfold pdecs
    rw [List.flatMap_cons, List.length_append, Nat.add_assoc]
theorem dput_grow (ws : List ByteArray) (s : ByteArray) : (dput ws s).2.2.length ≤ ws.length + 1 := by
  unfold dput
  split
  · simp
  · split
    · simp
    · simp
theorem tagBad_ok {k v : ByteArray} (h : tagBad k v = 0) : (1 ≤ k.size ∧ k.size ≤ 64 ∧ badI (clsB 2) k < 0) ∧ v.size ≤ 100 ∧ badI (clsB 3) v < 0 := by
  unfold tagBad at h
  split at h
  · rename_i h1
    have h2 := (txOk_iff 2 k 1 64 rfl (by omega)).1 h1.1
    have h3 := (txOk_iff 3 v 0 100 rfl (by omega)).1 h1.2
    exact ⟨⟨by omega, by omega, h2.2.2⟩, by omega, h3.2.2⟩
  · cases h
theorem gtag_put {ws : List ByteArray} {t : TagS} {l : Option TagS} (hb : tagBad t.f0 t.f1 = 0) (hu : upB l t = true) (hl : ws.length + 2 ≤ 65536) (hd : B.drop p = (dput ws t.f0).1 ++ (dput (dput ws t.f0).2.2 t.f1).1 ++ rest) :
    gtag ws ⟨A, c, B, p, 0, 0, false⟩ l = (t, ⟨A, c, B, p + ((dput ws t.f0).1 ++ (dput (dput ws t.f0).2.2 t.f1).1).length, 0, 0, false⟩, (dput (dput ws t.f0).2.2 t.f1).2.2) := by
  obtain ⟨⟨a1, a2, a3⟩, b1, b2⟩ := tagBad_ok hb
  rw [List.append_assoc] at hd
  have hg := dput_grow ws t.f0
  have hd2 : B.drop (p + (dput ws t.f0).1.length) = (dput (dput ws t.f0).2.2 t.f1).1 ++ rest := by rw [← List.drop_drop, hd, List.drop_left]
  have e1 := gword_put (A := A) (c := c) (e := 19) (kind := 2) rfl a3 (by omega) (by omega) hd (lo := 1) (hi := 64) ⟨a1, a2⟩
  have e2 := gword_put (A := A) (c := c) (e := 19) (kind := 3) rfl b2 (by omega) (by omega) hd2 (lo := 0) (hi := 100) ⟨by omega, b1⟩
  unfold gtag
  rw [e1]
  simp only
  rw [e2]
  simp only
  rw [if_pos hu, List.length_append, Nat.add_assoc]
theorem gtags_put : ∀ (l : List TagS) (ws : List ByteArray) (p : Nat) (rest : List Int) (o : Option TagS), (∀ t ∈ l, tagBad t.f0 t.f1 = 0) → TUp (o.toList ++ l) → ws.length + 2 * l.length ≤ 65536 → B.drop p = (ptags ws l).1 ++ rest →
    gtags l.length ws ⟨A, c, B, p, 0, 0, false⟩ o = (l, ⟨A, c, B, p + (ptags ws l).1.length, 0, 0, false⟩, (ptags ws l).2)
  | [], ws, p, rest, o, _, _, _, _ => rfl
  | t :: l, ws, p, rest, o, h, hu, hl, hd => by
    rw [List.length_cons] at hl
    have hd1 : B.drop p = (dput ws t.f0).1 ++ (dput (dput ws t.f0).2.2 t.f1).1 ++ ((ptags (dput (dput ws t.f0).2.2 t.f1).2.2 l).1 ++ rest) := by
      rw [hd]
      show ((dput ws t.f0).1 ++ (dput (dput ws t.f0).2.2 t.f1).1 ++ (ptags (dput (dput ws t.f0).2.2 t.f1).2.2 l).1) ++ rest = _
      rw [List.append_assoc]
    have hup : upB o t = true := by
      cases o with
      | none => rfl
      | some x => exact (List.pairwise_cons.1 (show TUp (x :: t :: l) from hu)).1 t List.mem_cons_self
    have hu2 : TUp ((some t).toList ++ l) := by
      cases o with
      | none => exact hu
      | some x => exact (List.pairwise_cons.1 (show TUp (x :: t :: l) from hu)).2
    have g1 := dput_grow ws t.f0
    have g2 := dput_grow (dput ws t.f0).2.2 t.f1
    have e1 := gtag_put (A := A) (c := c) (h t List.mem_cons_self) hup (by omega) hd1
    have e2 := gtags_put l (dput (dput ws t.f0).2.2 t.f1).2.2 (p + ((dput ws t.f0).1 ++ (dput (dput ws t.f0).2.2 t.f1).1).length) rest (some t) (fun x hx => h x (List.mem_cons_of_mem _ hx)) hu2 (by omega) (by rw [← List.drop_drop, hd1, List.drop_left])
    show (if (⟨A, c, B, p, 0, 0, false⟩ : Cu).fine = true then _ else _) = _
    rw [if_pos (show (⟨A, c, B, p, 0, 0, false⟩ : Cu).fine = true from rfl), e1]
    simp only
    rw [e2]
    show (_, _) = (t :: l, (⟨A, c, B, p + ((dput ws t.f0).1 ++ (dput (dput ws t.f0).2.2 t.f1).1 ++ (ptags (dput (dput ws t.f0).2.2 t.f1).2.2 l).1).length, 0, 0, false⟩ : Cu), _)
    rw [@List.length_append _ ((dput ws t.f0).1 ++ (dput (dput ws t.f0).2.2 t.f1).1), ← Nat.add_assoc]
    rfl
theorem gmet_put {ws : List ByteArray} {m : MetS} (hm : metBad m = 0) (ht : tIs m.f4 = true) (hv : ∀ d ∈ m.f2, 0 ≤ d.f1 ∧ d.f1 < 18446744073709551616) (hl : ws.length + 65 ≤ 65536) (hd : B.drop p = (pmet ws m).1 ++ rest) :
    gmet ws ⟨A, c, B, p, 0, 0, false⟩ = (m, ⟨A, c, B, p + (pmet ws m).1.length, 0, 0, false⟩, (pmet ws m).2) := by
  obtain ⟨p0, p1, p2, p3, p4, p5⟩ := metParts hm
  obtain ⟨n1, n2, n3⟩ := p0
  have hd0 : B.drop p = (dput ws m.f0).1 ++ ([m.f1] ++ (vput m.f2.length ++ (pdecs m.f2 ++ (vput m.f3.toNat ++ (vput m.f4.length ++ ((ptags (dput ws m.f0).2.2 m.f4).1 ++ (vput m.f5.toNat ++ rest))))))) := by
    rw [hd]
    unfold pmet
    simp only [List.append_assoc]
  have hg := dput_grow ws m.f0
  have e0 := gword_put (A := A) (c := c) (e := 15) (kind := 1) rfl n3 (by omega) (by omega) hd0 (lo := 1) (hi := 200) ⟨n1, n2⟩
  have hd1 : B.drop (p + (dput ws m.f0).1.length) = m.f1 :: (vput m.f2.length ++ (pdecs m.f2 ++ (vput m.f3.toNat ++ (vput m.f4.length ++ ((ptags (dput ws m.f0).2.2 m.f4).1 ++ (vput m.f5.toNat ++ rest)))))) := by
    rw [← List.drop_drop, hd0, List.drop_left]
    rfl
  have e1 := gkind_put (A := A) (c := c) hd1 p1
  have hd2 : B.drop (p + (dput ws m.f0).1.length + 1) = vput m.f2.length ++ (pdecs m.f2 ++ (vput m.f3.toNat ++ (vput m.f4.length ++ ((ptags (dput ws m.f0).2.2 m.f4).1 ++ (vput m.f5.toNat ++ rest))))) := by
    rw [← List.drop_drop, hd1]
    rfl
  have e2 := gnum_put (A := A) (c := c) (e := 17) hd2 (by omega) p2.1
  have hd3 : B.drop (p + (dput ws m.f0).1.length + 1 + (vput m.f2.length).length) = pdecs m.f2 ++ (vput m.f3.toNat ++ (vput m.f4.length ++ ((ptags (dput ws m.f0).2.2 m.f4).1 ++ (vput m.f5.toNat ++ rest)))) := by
    rw [← List.drop_drop, hd2, List.drop_left]
  have e3 := gvals_put (A := A) (c := c) m.f2 _ _ (fun d hdm => ⟨hv d hdm, p2.2 d hdm⟩) hd3
  have hd4 : B.drop (p + (dput ws m.f0).1.length + 1 + (vput m.f2.length).length + (pdecs m.f2).length) = vput m.f3.toNat ++ (vput m.f4.length ++ ((ptags (dput ws m.f0).2.2 m.f4).1 ++ (vput m.f5.toNat ++ rest))) := by
    rw [← List.drop_drop, hd3, List.drop_left]
  have e4 := gnum_put (A := A) (c := c) (e := 18) (lo := leastR m.f1) (hi := 1000000) hd4 (by omega) (by
    unfold leastR
    split
    · rename_i h2
      have := p3.2 h2
      omega
    · omega)
  have hd5 : B.drop (p + (dput ws m.f0).1.length + 1 + (vput m.f2.length).length + (pdecs m.f2).length + (vput m.f3.toNat).length) = vput m.f4.length ++ ((ptags (dput ws m.f0).2.2 m.f4).1 ++ (vput m.f5.toNat ++ rest)) := by
    rw [← List.drop_drop, hd4, List.drop_left]
  have e5 := gnum_put (A := A) (c := c) (e := 19) (lo := 0) (hi := 32) hd5 (by omega) (by omega)
  have hd6 : B.drop (p + (dput ws m.f0).1.length + 1 + (vput m.f2.length).length + (pdecs m.f2).length + (vput m.f3.toNat).length + (vput m.f4.length).length) = (ptags (dput ws m.f0).2.2 m.f4).1 ++ (vput m.f5.toNat ++ rest) := by
    rw [← List.drop_drop, hd5, List.drop_left]
  have e6 := gtags_put (A := A) (c := c) m.f4 (dput ws m.f0).2.2 _ _ none p4.2 ((tIs_iff _).1 ht) (by omega) hd6
  have hd7 : B.drop (p + (dput ws m.f0).1.length + 1 + (vput m.f2.length).length + (pdecs m.f2).length + (vput m.f3.toNat).length + (vput m.f4.length).length + (ptags (dput ws m.f0).2.2 m.f4).1.length) = vput m.f5.toNat ++ rest := by
    rw [← List.drop_drop, hd6, List.drop_left]
  have e7 := gnum_put (A := A) (c := c) (e := 20) (lo := 0) (hi := 1099511627776) hd7 (by omega) (by omega)
  unfold gmet
  rw [e0]
  unfold gmet1
  simp only
  rw [e1]
  unfold gmet2
  simp only
  rw [e2]
  simp only
  rw [e3]
  unfold gmet3
  simp only
  rw [e4]
  unfold gmet4
  simp only
  rw [e5]
  simp only
  rw [e6]
  unfold gmet5
  simp only
  rw [e7, gend_ok rfl]
  simp only
  have hlen : (pmet ws m).1.length = (dput ws m.f0).1.length + 1 + (vput m.f2.length).length + (pdecs m.f2).length + (vput m.f3.toNat).length + (vput m.f4.length).length + (ptags (dput ws m.f0).2.2 m.f4).1.length + (vput m.f5.toNat).length := by
    unfold pmet
    simp only [List.length_append, List.length_cons, List.length_nil]
  rw [hlen, Int.toNat_of_nonneg p5.1, Int.toNat_of_nonneg (by omega)]
  simp only [Nat.add_assoc]
  rfl
end
/-! Taken, then put. -/
theorem fail_keep {s : Cu} {c a : Int} (hc : c ≠ 0) : ¬ (s.fail c a).fine = true := fun h => by rw [fail_any s c a hc] at h; cases h
theorem vread_fine1 {s : Cu} (h : s.vread.2.fine = true) : s.fine = true := by
  cases hs : s.fine with
  | true => rfl
  | false =>
    unfold Cu.vread at h
    rw [if_pos hs] at h
    rw [hs] at h
    cases h
theorem gtags_nf {k : Nat} {ws : List ByteArray} {s : Cu} {l : Option TagS} (h : s.fine = false) : gtags k ws s l = ([], s, ws) := by
  cases k with
  | zero => rfl
  | succ k => exact if_neg (by rw [h]; decide)
theorem gvals_nf {k : Nat} {s : Cu} (h : s.fine = false) : gvals k s = ([], s) := by
  cases k with
  | zero => rfl
  | succ k => exact if_neg (by rw [h]; decide)
theorem gnum_fine1 {s : Cu} {lo hi : Nat} {e : Int} (he : e ≠ 0) (h : (gnum s lo hi e).2.fine = true) : s.fine = true := by
  unfold gnum at h
  simp only at h
  split at h
  · exact vread_fine1 h
  · exact absurd h (fail_keep he)
theorem gtags_fine1 {k : Nat} {ws : List ByteArray} {s : Cu} {o : Option TagS} (h : (gtags k ws s o).2.1.fine = true) : s.fine = true := by
  cases hs : s.fine with
  | true => rfl
  | false => rw [gtags_nf hs, hs] at h; cases h
/-! A Cur that is wrong has an error's number. -/
theorem gword_sane {ws : List ByteArray} {s : Cu} {kind : Int} {lo hi : Nat} {e : Int} (h : s.sane) : (gword ws s kind lo hi e).2.1.sane := by
  unfold gword
  simp only
  split
  · exact dget_sane h
  · exact (dget_sane h).fail _ _
theorem gnum_sane {s : Cu} {lo hi : Nat} {e : Int} (h : s.sane) : (gnum s lo hi e).2.sane := by
  unfold gnum
  simp only
  split
  · exact h.vread
  · exact h.vread.fail _ _
theorem gkind_sane {s : Cu} (h : s.sane) : (gkind s).2.sane := by
  unfold gkind
  simp only
  split
  · exact h.take _
  · exact (h.take _).fail _ _
theorem gdec_sane {s : Cu} (h : s.sane) : (gdec s).2.sane := by
  unfold gdec
  split
  · exact h.vread.vread
  · split
    · exact h.vread.vread
    · exact h.vread.vread.fail _ _
theorem gvals_sane : ∀ (k : Nat) {s : Cu}, s.sane → (gvals k s).2.sane
  | 0, s, h => h
  | k + 1, s, h => by
    unfold gvals
    split
    · exact gvals_sane k (gdec_sane h)
    · exact h
theorem gtag_sane {ws : List ByteArray} {s : Cu} {l : Option TagS} (h : s.sane) : (gtag ws s l).2.1.sane := by
  unfold gtag
  simp only
  split
  · exact gword_sane (gword_sane h)
  · exact (gword_sane (gword_sane h)).fail _ _
/-! The bytes may lie elsewhere. -/
section
variable (A : Option Addr) (c : Nat)
end
end Go.Proofs.Ytclbmdblalgdjaa
