/- Package metric: Check; no condition. -/
import Derived.Test.YtclbmdblalgdjaaZMTimes
import Derived.Test.YtclbmdblalgdjaaZMTag
import Derived.Test.YtclbmdblalgdjaaZMPEx0
namespace Go.Proofs.Ytclbmdblalgdjaa
open Go.RowKit Go.Proofs.YtclbmdblalgdjaaW.PrintWords Go.Proofs.YtclbmdblalgdjaaW.PrintLast Go.Proofs.YtclbmdblalgdjaaW.PrintMore Go.Proofs.Ytclbmdblalgdjaa.PE
set_option linter.unusedVariables false
set_option linter.unusedSimpArgs false
abbrev DecS := S48
abbrev TagS := S81
abbrev MetS := S26
abbrev kDec := k48
abbrev kTag := k81
abbrev kMet := k26
def decW (x : DecS) : Bool := decBad x.f0 x.f1 x.f2 != 0
def tagW (x : TagS) : Bool := tagBad x.f0 x.f1 != 0
def metPart (m : MetS) : Nat → Bool
  | 0 => txOk 1 m.f0 1 200
  | 1 => betB m.f1 1 5
  | 2 => betB m.f2.length 1 64 && !(m.f2.any decW)
  | 3 => betB m.f3 1 1000000 && (m.f1 != 2 || m.f3 == 1000000)
  | 4 => decide ((m.f4.length : Int) ≤ 32) && !(m.f4.any tagW)
  | _ => betB m.f5 0 1099511627776
def metBad (m : MetS) : Int := if metPart m 0 = false then 15 else if metPart m 1 = false then 16 else if metPart m 2 = false then 17 else if metPart m 3 = false then 18 else if metPart m 4 = false then 19 else if metPart m 5 = false then 20 else 0
theorem metBad_at (m : MetS) (i : Nat) (hi : i < 6) (hp : ∀ j, j < i → metPart m j = true) (h : metPart m i = false) : metBad m = 15 + (i : Int) := by
  have t : ∀ j, metPart m j = true → ¬ metPart m j = false := fun j h1 h2 => by rw [h1] at h2; exact absurd h2 (by decide)
  unfold metBad
  match i, hi, hp, h with
  | 0, _, _, h => rw [if_pos h]; rfl
  | 1, _, hp, h => rw [if_neg (t 0 (hp 0 (by omega))), if_pos h]; rfl
  | 2, _, hp, h => rw [if_neg (t 0 (hp 0 (by omega))), if_neg (t 1 (hp 1 (by omega))), if_pos h]; rfl
  | 3, _, hp, h => rw [if_neg (t 0 (hp 0 (by omega))), if_neg (t 1 (hp 1 (by omega))), if_neg (t 2 (hp 2 (by omega))), if_pos h]; rfl
  | 4, _, hp, h => rw [if_neg (t 0 (hp 0 (by omega))), if_neg (t 1 (hp 1 (by omega))), if_neg (t 2 (hp 2 (by omega))), if_neg (t 3 (hp 3 (by omega))), if_pos h]; rfl
  | 5, _, hp, h => rw [if_neg (t 0 (hp 0 (by omega))), if_neg (t 1 (hp 1 (by omega))), if_neg (t 2 (hp 2 (by omega))), if_neg (t 3 (hp 3 (by omega))), if_neg (t 4 (hp 4 (by omega))), if_pos h]; rfl
theorem metBad_ok (m : MetS) (hp : ∀ j, j < 6 → metPart m j = true) : metBad m = 0 := by
  have t : ∀ j, j < 6 → ¬ metPart m j = false := fun j h1 h2 => by rw [hp j h1] at h2; exact absurd h2 (by decide)
  unfold metBad
  rw [if_neg (t 0 (by omega)), if_neg (t 1 (by omega)), if_neg (t 2 (by omega)), if_neg (t 3 (by omega)), if_neg (t 4 (by omega)), if_neg (t 5 (by omega))]
structure MetC (m : MetS) (Av : Option Addr) (cv : Nat) (At : Option Addr) (ct : Nat) (w : World) : Prop where
  v : kDec.C w Av m.f2.length m.f2
  vc : m.f2.length ≤ cv
  t : kTag.C w At m.f4.length m.f4
  tc : m.f4.length ≤ ct
  wv : ∀ x ∈ m.f2, 0 ≤ x.f1 ∧ x.f1 < 18446744073709551616
  wt : ∀ x ∈ m.f4, x.f0.size ≤ 9223372036854775807 ∧ x.f1.size ≤ 9223372036854775807
  wn : m.f0.size ≤ 9223372036854775807
theorem MetC.below {m : MetS} {Av At : Option Addr} {cv ct : Nat} {w w' : World} (h : MetC m Av cv At ct w) (hb : Below w.heap.size w w') : MetC m Av cv At ct w' :=
  ⟨Kd.C_below h.v hb, h.vc, Kd.C_below h.t hb, h.tc, h.wv, h.wt, h.wn⟩
set_option maxHeartbeats 1000000 in
set_option maxRecDepth 100000 in
theorem mbet_calls (n lo hi : Int) (w : World) : Calls Try.prog 115 #[.int .i64 n, .int .i64 lo, .int .i64 hi] w fun e w' => e = .returned (.bool (betB n lo hi)) ∧ w = w' := by
  cases h1 : decide (lo ≤ n) with
  | true =>
    have H := Aside0.mk h1
    go_enter Try.func115, Try.ntmps115
    go_wp2
    go_ret
    exact ⟨by unfold betB; rw [H.out]; rfl, rfl⟩
  | false =>
    have H := Aside0.mk h1
    go_enter Try.func115, Try.ntmps115
    go_wp2
    go_ret
    exact ⟨by unfold betB; rw [H.out]; rfl, rfl⟩
set_option maxHeartbeats 1000000 in
set_option maxRecDepth 100000 in
theorem vclos_calls (x : DecS) (w : World) (hc : 0 ≤ x.f1 ∧ x.f1 < 18446744073709551616) : Calls Try.prog 117 #[.agg #[.bool x.f0, .int .u64 x.f1, .int .i64 x.f2]] w fun e w' => e = .returned (.bool (decW x)) ∧ Below w.heap.size w w' := by
  have HC := Aside0.mk hc
  have HE := Aside0.mk (show decW x = (decBad x.f0 x.f1 x.f2 != 0) from rfl)
  clear hc
  go_enter Try.func117, Try.ntmps117
  go_wp2_with fail
  refine (deccheck_calls x.f0 x.f1 x.f2 _ HC.out).mono ?_
  rintro e w1 ⟨rfl, hb⟩
  go_wp2
  go_ret
  exact ⟨by rw [HE.out]; rfl, (below_alloc (Below.refl _ w) _).trans (hb.mono (by simp))⟩
set_option maxHeartbeats 1000000 in
set_option maxRecDepth 100000 in
theorem tclos_calls (x : TagS) (w : World) (hc : x.f0.size ≤ 9223372036854775807 ∧ x.f1.size ≤ 9223372036854775807) : Calls Try.prog 119 #[.agg #[.string x.f0, .string x.f1]] w fun e w' => e = .returned (.bool (tagW x)) ∧ Below w.heap.size w w' := by
  have HC := Aside0.mk hc
  have HE := Aside0.mk (show tagW x = (tagBad x.f0 x.f1 != 0) from rfl)
  clear hc
  go_enter Try.func119, Try.ntmps119
  go_wp2_with fail
  refine (tagcheck_calls x.f0 x.f1 _ HC.out.1 HC.out.2).mono ?_
  rintro e w1 ⟨rfl, hb⟩
  go_wp2
  go_ret
  exact ⟨by rw [HE.out]; rfl, (below_alloc (Below.refl _ w) _).trans (hb.mono (by simp))⟩
theorem rd_memv (xs : List DecS) (i : Int) (h0 : 0 ≤ i) (h1 : i < (xs.length : Int)) : rd_T48 xs i ∈ xs := by
  unfold rd_T48
  rw [List.getD_eq_getElem?_getD, List.getElem?_eq_getElem (by omega)]
  exact List.getElem_mem _
theorem take_anyv (xs : List DecS) (p : DecS → Bool) (i : Int) (h0 : 0 ≤ i) (h1 : i < (xs.length : Int)) (h : (xs.take i.toNat).any p = false) (hp : p (rd_T48 xs i) = false) : (xs.take (i + 1).toNat).any p = false := by
  have e : (i + 1).toNat = i.toNat + 1 := by omega
  rw [e, List.take_succ_eq_append_getElem (by omega), List.any_append, h]
  have : rd_T48 xs i = xs[i.toNat]'(by omega) := by
    unfold rd_T48
    rw [List.getD_eq_getElem?_getD, List.getElem?_eq_getElem (by omega)]
    rfl
  rw [this] at hp
  simp [hp]
set_option maxHeartbeats 4000000 in
set_option maxRecDepth 100000 in
theorem vindex_calls (xs : List DecS) (A : Option Addr) (c : Nat) (w : World) (hC : kDec.C w A xs.length xs) (hw : ∀ x ∈ xs, 0 ≤ x.f1 ∧ x.f1 < 18446744073709551616) : Calls Try.prog 140 #[.slice A xs.length c, .func (.func 117) #[] #[]] w fun e w' => ∃ r : Int, e = .returned (.int .i64 r) ∧ (0 ≤ r ↔ xs.any decW = true) ∧ Below w.heap.size w w' := by
  have HC := Aside0.mk hC
  have HW := Aside0.mk hw
  have HM := Aside0.mk hC.2.1
  clear hC hw
  go_enter Try.func140, Try.ntmps140
  go_wp2
  go_loopw [8] (fun v8 w' => ∃ x : Int, v8 = .int .i64 x ∧ 0 ≤ x ∧ x ≤ (xs.length : Int) ∧ Aside0 ((xs.take x.toNat).any decW = false) ∧ Aside0 (Below w.heap.size w w')) (fun v8 _ => xs.length - (intOf v8).toNat)
  case atStart => exact ⟨0, rfl, by omega, by omega, ⟨by simp⟩, ⟨Below.refl _ _⟩⟩
  case round =>
    obtain ⟨x, rfl, h0, hi, HT, HB⟩ := hrel
    by_cases hlt : x < (xs.length : Int)
    · have hd : decide (x < (xs.length : Int)) = true := decide_eq_true hlt
      have hd0 : decide ((0 : Int) ≤ x) = true := decide_eq_true h0
      obtain ⟨ad, ea, hx0, hx1, hx2⟩ := at_T48 HC.out x h0 hlt
      cases ea
      replace hx0 := (HB.out.cell (World.block_lt_of_cell? w _ hx0)).trans hx0
      replace hx1 := (HB.out.cell (World.block_lt_of_cell? w _ hx1)).trans hx1
      replace hx2 := (HB.out.cell (World.block_lt_of_cell? w _ hx2)).trans hx2
      have HQ := Aside0.mk (HW.out _ (rd_memv xs x h0 hlt))
      have HZ := Aside0.mk (rd_memv xs x h0 hlt)
      have h0' := Aside0.mk h0
      have hlt' := Aside0.mk hlt
      have p8 := eq_true h0
      have q8 := eq_true hlt
      cases hq : decW (rd_T48 xs x) with
      | true =>
        have HP := Aside0.mk hq
        clear hq h0 hlt hi
        go_wp2_with (first | (go_at_call 117; refine (vclos_calls (rd_T48 xs x) _ HQ.out).mono ?_; rintro e w1 ⟨rfl, hb⟩; rw [HP.out]))
        go_ret
        exact ⟨_, rfl, ⟨fun _ => List.any_eq_true.2 ⟨_, HZ.out, HP.out⟩, fun _ => h0'.out⟩, below_step HB.out hb⟩
      | false =>
        have HP := Aside0.mk hq
        clear hq h0 hlt hi
        go_wp2_with (first | (go_at_call 117; refine (vclos_calls (rd_T48 xs x) _ HQ.out).mono ?_; rintro e w1 ⟨rfl, hb⟩; rw [HP.out]; have HB2 := Aside0.mk (below_step HB.out hb); clear hb HB))
        have h0 := h0'.out
        have hlt := hlt'.out
        have hm := HM.out
        have hww := IntWalk.wrap64_in (x + 1) (by omega)
        go_roundw
        case rel => exact ⟨x + 1, by rw [hww], by omega, by omega, ⟨take_anyv xs decW x h0 hlt HT.out HP.out⟩, HB2⟩
        case measure => simp [intOf, hww]; omega
    · have hd : decide (x < (xs.length : Int)) = false := decide_eq_false hlt
      have HE := Aside0.mk (show xs.any decW = false by have h := HT.out; rwa [show xs.take x.toNat = xs from List.take_of_length_le (by omega)] at h)
      clear h0 hi hlt
      go_wp2
      go_ret
      exact ⟨-1, rfl, ⟨fun h => absurd h (by decide), fun h => by rw [HE.out] at h; exact absurd h (by decide)⟩, HB.out⟩
set_option maxHeartbeats 4000000 in
set_option maxRecDepth 100000 in
theorem vhas_calls (xs : List DecS) (A : Option Addr) (c : Nat) (w : World) (hC : kDec.C w A xs.length xs) (hw : ∀ x ∈ xs, 0 ≤ x.f1 ∧ x.f1 < 18446744073709551616) : Calls Try.prog 116 #[.slice A xs.length c, .func (.func 117) #[] #[]] w fun e w' => e = .returned (.bool (xs.any decW)) ∧ Below w.heap.size w w' := by
  have HC := Aside0.mk hC
  have HW := Aside0.mk hw
  clear hC hw
  go_enter Try.func116, Try.ntmps116
  go_wp2_with fail
  refine (vindex_calls xs A c _ HC.out HW.out).mono ?_
  rintro e w1 ⟨r, rfl, hr, hb⟩
  have HR := Aside0.mk hr
  have HB := Aside0.mk hb
  clear hr hb
  go_wp2
  go_ret
  refine ⟨?_, HB.out⟩
  have h := HR.out
  cases hz : xs.any decW with
  | true => rw [hz] at h; rw [show decide (0 ≤ r) = true from decide_eq_true (h.2 rfl)] <;> rfl
  | false => rw [hz] at h; rw [show decide (0 ≤ r) = false from decide_eq_false (fun hh => absurd (h.1 hh) (by decide))] <;> rfl
theorem rd_memt (xs : List TagS) (i : Int) (h0 : 0 ≤ i) (h1 : i < (xs.length : Int)) : rd_T81 xs i ∈ xs := by
  unfold rd_T81
  rw [List.getD_eq_getElem?_getD, List.getElem?_eq_getElem (by omega)]
  exact List.getElem_mem _
theorem take_anyt (xs : List TagS) (p : TagS → Bool) (i : Int) (h0 : 0 ≤ i) (h1 : i < (xs.length : Int)) (h : (xs.take i.toNat).any p = false) (hp : p (rd_T81 xs i) = false) : (xs.take (i + 1).toNat).any p = false := by
  have e : (i + 1).toNat = i.toNat + 1 := by omega
  rw [e, List.take_succ_eq_append_getElem (by omega), List.any_append, h]
  have : rd_T81 xs i = xs[i.toNat]'(by omega) := by
    unfold rd_T81
    rw [List.getD_eq_getElem?_getD, List.getElem?_eq_getElem (by omega)]
    rfl
  rw [this] at hp
  simp [hp]
set_option maxHeartbeats 4000000 in
set_option maxRecDepth 100000 in
theorem tindex_calls (xs : List TagS) (A : Option Addr) (c : Nat) (w : World) (hC : kTag.C w A xs.length xs) (hw : ∀ x ∈ xs, x.f0.size ≤ 9223372036854775807 ∧ x.f1.size ≤ 9223372036854775807) : Calls Try.prog 141 #[.slice A xs.length c, .func (.func 119) #[] #[]] w fun e w' => ∃ r : Int, e = .returned (.int .i64 r) ∧ (0 ≤ r ↔ xs.any tagW = true) ∧ Below w.heap.size w w' := by
  have HC := Aside0.mk hC
  have HW := Aside0.mk hw
  have HM := Aside0.mk hC.2.1
  clear hC hw
  go_enter Try.func141, Try.ntmps141
  go_wp2
  go_loopw [8] (fun v8 w' => ∃ x : Int, v8 = .int .i64 x ∧ 0 ≤ x ∧ x ≤ (xs.length : Int) ∧ Aside0 ((xs.take x.toNat).any tagW = false) ∧ Aside0 (Below w.heap.size w w')) (fun v8 _ => xs.length - (intOf v8).toNat)
  case atStart => exact ⟨0, rfl, by omega, by omega, ⟨by simp⟩, ⟨Below.refl _ _⟩⟩
  case round =>
    obtain ⟨x, rfl, h0, hi, HT, HB⟩ := hrel
    by_cases hlt : x < (xs.length : Int)
    · have hd : decide (x < (xs.length : Int)) = true := decide_eq_true hlt
      have hd0 : decide ((0 : Int) ≤ x) = true := decide_eq_true h0
      obtain ⟨ad, ea, hx0, hx1⟩ := at_T81 HC.out x h0 hlt
      cases ea
      replace hx0 := (HB.out.cell (World.block_lt_of_cell? w _ hx0)).trans hx0
      replace hx1 := (HB.out.cell (World.block_lt_of_cell? w _ hx1)).trans hx1
      have HQ := Aside0.mk (HW.out _ (rd_memt xs x h0 hlt))
      have HZ := Aside0.mk (rd_memt xs x h0 hlt)
      have h0' := Aside0.mk h0
      have hlt' := Aside0.mk hlt
      have p8 := eq_true h0
      have q8 := eq_true hlt
      cases hq : tagW (rd_T81 xs x) with
      | true =>
        have HP := Aside0.mk hq
        clear hq h0 hlt hi
        go_wp2_with (first | (go_at_call 119; refine (tclos_calls (rd_T81 xs x) _ HQ.out).mono ?_; rintro e w1 ⟨rfl, hb⟩; rw [HP.out]))
        go_ret
        exact ⟨_, rfl, ⟨fun _ => List.any_eq_true.2 ⟨_, HZ.out, HP.out⟩, fun _ => h0'.out⟩, below_step HB.out hb⟩
      | false =>
        have HP := Aside0.mk hq
        clear hq h0 hlt hi
        go_wp2_with (first | (go_at_call 119; refine (tclos_calls (rd_T81 xs x) _ HQ.out).mono ?_; rintro e w1 ⟨rfl, hb⟩; rw [HP.out]; have HB2 := Aside0.mk (below_step HB.out hb); clear hb HB))
        have h0 := h0'.out
        have hlt := hlt'.out
        have hm := HM.out
        have hww := IntWalk.wrap64_in (x + 1) (by omega)
        go_roundw
        case rel => exact ⟨x + 1, by rw [hww], by omega, by omega, ⟨take_anyt xs tagW x h0 hlt HT.out HP.out⟩, HB2⟩
        case measure => simp [intOf, hww]; omega
    · have hd : decide (x < (xs.length : Int)) = false := decide_eq_false hlt
      have HE := Aside0.mk (show xs.any tagW = false by have h := HT.out; rwa [show xs.take x.toNat = xs from List.take_of_length_le (by omega)] at h)
      clear h0 hi hlt
      go_wp2
      go_ret
      exact ⟨-1, rfl, ⟨fun h => absurd h (by decide), fun h => by rw [HE.out] at h; exact absurd h (by decide)⟩, HB.out⟩
set_option maxHeartbeats 4000000 in
set_option maxRecDepth 100000 in
theorem thas_calls (xs : List TagS) (A : Option Addr) (c : Nat) (w : World) (hC : kTag.C w A xs.length xs) (hw : ∀ x ∈ xs, x.f0.size ≤ 9223372036854775807 ∧ x.f1.size ≤ 9223372036854775807) : Calls Try.prog 118 #[.slice A xs.length c, .func (.func 119) #[] #[]] w fun e w' => e = .returned (.bool (xs.any tagW)) ∧ Below w.heap.size w w' := by
  have HC := Aside0.mk hC
  have HW := Aside0.mk hw
  clear hC hw
  go_enter Try.func118, Try.ntmps118
  go_wp2_with fail
  refine (tindex_calls xs A c _ HC.out HW.out).mono ?_
  rintro e w1 ⟨r, rfl, hr, hb⟩
  have HR := Aside0.mk hr
  have HB := Aside0.mk hb
  clear hr hb
  go_wp2
  go_ret
  refine ⟨?_, HB.out⟩
  have h := HR.out
  cases hz : xs.any tagW with
  | true => rw [hz] at h; rw [show decide (0 ≤ r) = true from decide_eq_true (h.2 rfl)] <;> rfl
  | false => rw [hz] at h; rw [show decide (0 ≤ r) = false from decide_eq_false (fun hh => absurd (h.1 hh) (by decide))] <;> rfl
end Go.Proofs.Ytclbmdblalgdjaa
