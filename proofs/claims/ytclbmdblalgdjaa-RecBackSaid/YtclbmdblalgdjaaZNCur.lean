/- Package cur: places in bytes: what its functions tell and turn; no condition. -/
import Derived.Test.YtclbmdblalgdjaaZNInjV
import Derived.Test.YtclbmdblalgdjaaZNShelf
namespace Go.Proofs.Ytclbmdblalgdjaa
open Go.RowKit Go.Proofs.YtclbmdblalgdjaaW.PrintWords Go.Proofs.YtclbmdblalgdjaaW.PrintLast Go.Proofs.YtclbmdblalgdjaaW.PrintMore
set_option linter.unusedVariables false
set_option linter.unusedSimpArgs false
theorem clone_calls (A : Option Addr) (n c : Nat) (xs : List Int) (w : World) (hC : (Kd.int .u8).C w A n xs) (hbig : n ≤ 140737488355328) :
  Calls Try.prog 50 #[.slice A n c] w fun e w' => ∃ v, e = .returned v ∧ (Kd.int .u8).R 5 w' w.heap.size (fun _ => True) v xs ∧ Below w.heap.size w w' := by
 have hlen := hC.1
 cases A with
 | none =>
  have hn : n = 0 := by
   rcases Nat.eq_zero_or_pos n with h | h
   ·exact h
   ·obtain ⟨ad, e, _⟩ := hC.2.2 h
    cases e
  subst hn
  have hx : xs = [] := List.eq_nil_of_length_eq_zero hlen
  subst hx
  refine (Try.bytes_Clone_nil 0 c w).mono ?_
  rintro e w' ⟨rfl, rfl⟩
  exact ⟨_, rfl, Kd.R_nil _ _ _ _ _, Below.refl _ _⟩
 | some a =>
  refine (Try.bytes_Clone_at a n c xs w hlen hbig (fun i hi => ?_)).mono ?_
  ·obtain ⟨ad, e, hx⟩ := Kd.at_int hC (i : Int) (by omega) (by omega)
   cases e
   rw [Int.toNat_natCast] at hx
   rw [hx]
   unfold rd
   rw [Int.toNat_natCast]
  ·rintro e w' ⟨v, rfl, ho, _, hb⟩
   subst hlen
   exact ⟨v, rfl, Kd.R_of_own (enc := Value.int .u8) (h1 := fun _ => rfl) ho (fun _ _ => trivial), hb⟩
structure Cu where
 A : Option Addr
 c : Nat
 b : List Int
 pos : Nat
 code : Int
 fat : Int
 tried : Bool
namespace Cu
def fine (s : Cu) : Bool := s.code == 0 && s.fat == 0
def fail (s : Cu) (code fat : Int) : Cu := if s.fine = true ∧ code ≠ 0 then { s with code := code, fat := fat } else s
def adv (s : Cu) (n : Nat) : Cu := { s with pos := s.pos + n }
end Cu
structure CurAt (ok : Nat → Prop) (g : Nat) (s : Cu) (w : World) : Prop where
 blk : w.heap[g]? = some (.cells #[.slice s.A s.b.length s.c, .int .i64 s.pos, .int .i64 s.code, .int .i64 s.fat, .bool s.tried] 98 (0, 0))
 okg : ok g
 row : (Kd.int .u8).R 5 w 0 (fun k => ok k ∧ k ≠ g) (.slice s.A s.b.length s.c) s.b
 le : s.pos ≤ s.b.length
 big : s.b.length ≤ 140737488355328
 bytes : ∀ x ∈ s.b, 0 ≤ x ∧ x < 256
section
variable {ok : Nat → Prop} {g : Nat} {s : Cu} {w w' : World} {S : Nat → Prop}
theorem CurAt.step (h : CurAt ok g s w) (hc : Chg S w w') (hs : ∀ k, ok k → ¬ S k) : CurAt ok g s w' where
 blk := (hc.block g (blk_lt h.blk) (hs g h.okg)).trans h.blk
 okg := h.okg
 row := Kd.R_step h.row (fun k hk hl => hc.block k hl (hs k hk.1))
 le := h.le
 big := h.big
 bytes := h.bytes
theorem CurAt.below (h : CurAt ok g s w) (hb : Below w.heap.size w w') : CurAt ok g s w' := h.step (Chg.of_below hb (fun _ => False)) (fun _ _ h => h)
theorem CurAt.drewN (h : CurAt ok g s w) (n : Nat) : CurAt ok g s (w.drewN n) := h.below (pw_below_drewN (Below.refl _ _) n)
theorem CurAt.read (h : CurAt ok g s w) : (Kd.int .u8).C w s.A s.b.length s.b := by
 obtain ⟨A, c, e, _, hC⟩ := Kd.R_reads h.row
 injection e with e1
 subst e1
 exact hC
theorem CurAt.cap (h : CurAt ok g s w) : s.b.length ≤ s.c := by
 obtain ⟨A, c, e, hc, _⟩ := Kd.R_reads h.row
 injection e with _ _ e3
 subst e3
 exact hc
theorem CurAt.lt (h : CurAt ok g s w) : g < w.heap.size := blk_lt h.blk
theorem CurAt.put {s' : Cu} (h : CurAt ok g s w) (hg : w'.heap[g]? = some (.cells #[.slice s'.A s'.b.length s'.c, .int .i64 s'.pos, .int .i64 s'.code, .int .i64 s'.fat, .bool s'.tried] 98 (0, 0)))
  (hc : Chg (fun k => k = g) w w') (hA : s'.A = s.A) (hcc : s'.c = s.c) (hb : s'.b = s.b) (hp : s'.pos ≤ s'.b.length) : CurAt ok g s' w' where
 blk := hg
 okg := h.okg
 row := by rw [hA, hcc, hb]; exact Kd.R_step h.row (fun k hk hl => hc.block k hl hk.2)
 le := hp
 big := by rw [hb]; exact h.big
 bytes := by rw [hb]; exact h.bytes
theorem Chg.setCell {p : Addr} (h : Chg S w w') (hp : S p.block ∨ w.heap.size ≤ p.block) (u : Value) : Chg S w (w'.setCell p u) :=
 ⟨h.os, h.tape, h.output, by simpa [World.setCell] using h.size, fun k hk hn => (Below.heap_setCell w' p u k (fun e => hp.elim (fun h1 => hn (e ▸ h1)) (fun h1 => by omega))).trans (h.block k hk hn)⟩
end
theorem Chg.set1 {g : Nat} {w w' : World} (h : Chg (fun k => k = g) w w') (i : Nat) (u : Value) : Chg (fun k => k = g) w (w'.setCell ⟨g, i, none⟩ u) := h.setCell (.inl rfl) u
set_option maxHeartbeats 1000000 in
set_option maxRecDepth 100000 in
theorem curok_calls {ok : Nat → Prop} (g : Nat) (s : Cu) (w : World) (h : CurAt ok g s w) : Calls Try.prog 94 #[.pointer (some ⟨g, 0, none⟩)] w fun e w' => e = .returned (.bool s.fine) ∧ Drawn0 w w' := by
 have c2 := (blk_cell h.blk 2).trans rfl
 have c3 := (blk_cell h.blk 3).trans rfl
 clear h
 obtain ⟨A, c, b, pos, code, fat, tried⟩ := s
 simp only at c2 c3
 by_cases h1 : code = 0
 ·by_cases h2 : fat = 0
  ·subst h1; subst h2
   go_enter Try.func94, Try.ntmps94
   go_wp2
   repeat (go_quiet (fail); try go_wp2)
   go_ret
   exact ⟨rfl, by repeat (first | exact Drawn0.refl _ | apply Drawn0.step)⟩
  ·subst h1
   have hf : (fat == 0) = false := beq_eq_false_iff_ne.mpr h2
   have HF := Aside0.mk hf
   go_enter Try.func94, Try.ntmps94
   go_wp2
   repeat (go_quiet (fail); try go_wp2)
   go_ret
   exact ⟨by unfold Cu.fine; simp only [HF.out]; rfl, by repeat (first | exact Drawn0.refl _ | apply Drawn0.step)⟩
 ·have hf : (code == 0) = false := beq_eq_false_iff_ne.mpr h1
  have HF := Aside0.mk hf
  go_enter Try.func94, Try.ntmps94
  go_wp2
  repeat (go_quiet (fail); try go_wp2)
  go_ret
  exact ⟨by unfold Cu.fine; simp only [HF.out]; rfl, by repeat (first | exact Drawn0.refl _ | apply Drawn0.step)⟩
set_option maxHeartbeats 1000000 in
set_option maxRecDepth 100000 in
theorem curfail_calls {ok : Nat → Prop} (g : Nat) (s : Cu) (code fat : Int) (w : World) (h : CurAt ok g s w) : Calls Try.prog 54 #[.pointer (some ⟨g, 0, none⟩), .int .i64 code, .int .i64 fat] w fun e w' => e = .returned (.tuple #[]) ∧ CurAt ok g (s.fail code fat) w' ∧ Chg (fun k => k = g) w w' := by
 have H := Aside0.mk h
 have c2 := (blk_cell h.blk 2).trans rfl
 have c3 := (blk_cell h.blk 3).trans rfl
 have f2 := blk_frozen h.blk 2
 have f3 := blk_frozen h.blk 3
 clear h
 by_cases hf : s.fine = true ∧ code ≠ 0
 ·have e1 : s.fail code fat = { s with code := code, fat := fat } := if_pos hf
  obtain ⟨hf1, hf2⟩ := hf
  have hc : (code != 0) = true := bne_iff_ne.mpr hf2
  have HF := Aside0.mk hf1
  rw [e1]
  clear hf1 hf2 e1
  go_enter Try.func54, Try.ntmps54
  go_wp2_with fail
  with_reducible refine (curok_calls g s _ H.out).mono ?_
  rintro e w_ ⟨rfl, ⟨nd, rfl⟩⟩
  rw [HF.out]
  go_wp2
  go_end0
  have HCh := (((Chg.refl (fun k => k = g) w).drewN nd).set1 2 (.int .i64 code)).set1 3 (.int .i64 fat)
  exact ⟨rfl, H.out.put (blk_put (blk_put (blk_drewN H.out.blk nd) 2 _ rfl) 3 _ rfl) HCh rfl rfl rfl H.out.le, HCh⟩
 ·have e1 : s.fail code fat = s := if_neg hf
  rw [e1]
  clear e1
  cases hs : s.fine with
  | false =>
   have HF := Aside0.mk hs
   clear hs hf
   go_enter Try.func54, Try.ntmps54
   go_wp2_with fail
   with_reducible refine (curok_calls g s _ H.out).mono ?_
   rintro e w_ ⟨rfl, ⟨nd, rfl⟩⟩
   rw [HF.out]
   go_wp2
   go_end0
   exact ⟨rfl, H.out.drewN nd, (Chg.refl _ _).drewN nd⟩
  | true =>
   have hc : (code != 0) = false := by
    by_cases e : code = 0
    ·simp [e]
    ·exact absurd ⟨hs, e⟩ hf
   have HF := Aside0.mk hs
   clear hs hf
   go_enter Try.func54, Try.ntmps54
   go_wp2_with fail
   with_reducible refine (curok_calls g s _ H.out).mono ?_
   rintro e w_ ⟨rfl, ⟨nd, rfl⟩⟩
   rw [HF.out]
   go_wp2
   go_end0
   exact ⟨rfl, H.out.drewN nd, (Chg.refl _ _).drewN nd⟩
set_option maxHeartbeats 1000000 in
set_option maxRecDepth 100000 in
theorem curat_calls {ok : Nat → Prop} (g : Nat) (s : Cu) (w : World) (h : CurAt ok g s w) : Calls Try.prog 25 #[.pointer (some ⟨g, 0, none⟩)] w fun e w' => e = .returned (.int .i64 s.pos) ∧ Drawn0 w w' := by
 have c1 := (blk_cell h.blk 1).trans rfl
 clear h
 go_enter Try.func25, Try.ntmps25
 go_wp2
 repeat (go_quiet (fail); try go_wp2)
 go_ret
 exact ⟨rfl, by repeat (first | exact Drawn0.refl _ | apply Drawn0.step)⟩
set_option maxHeartbeats 1000000 in
set_option maxRecDepth 100000 in
theorem curleft_calls {ok : Nat → Prop} (g : Nat) (s : Cu) (w : World) (h : CurAt ok g s w) : Calls Try.prog 131 #[.pointer (some ⟨g, 0, none⟩)] w fun e w' => e = .returned (.int .i64 ((s.b.length : Int) - (s.pos : Int))) ∧ Drawn0 w w' := by
 have c0 := (blk_cell h.blk 0).trans rfl
 have c1 := (blk_cell h.blk 1).trans rfl
 have hle := h.le
 have hbig := h.big
 clear h
 go_enter Try.func131, Try.ntmps131
 go_wp2
 repeat (go_quiet (fail); try go_wp2)
 go_ret
 exact ⟨rfl, by repeat (first | exact Drawn0.refl _ | apply Drawn0.step)⟩
set_option maxHeartbeats 1000000 in
set_option maxRecDepth 100000 in
theorem curfault_calls {ok : Nat → Prop} (g : Nat) (s : Cu) (w : World) (h : CurAt ok g s w) : Calls Try.prog 24 #[.pointer (some ⟨g, 0, none⟩)] w fun e w' => e = .returned (.agg #[.int .i64 s.code, .int .i64 s.fat]) ∧ Below w.heap.size w w' := by
 have c2 := (blk_cell h.blk 2).trans rfl
 have c3 := (blk_cell h.blk 3).trans rfl
 have hlt := h.lt
 have hne : ¬ g = w.heap.size := by omega
 clear h
 go_enter Try.func24, Try.ntmps24
 go_wp2
 repeat (go_quiet (fail); try go_wp2)
 exact bodyPost_ret (v := .agg #[.int .i64 s.code, .int .i64 s.fat]) (by simp [results, Try.results24, go_sem]) rfl ⟨rfl, below_alloc (Below.refl _ _) _⟩
theorem C_cut {k : IntKind} {w : World} {A : Option Addr} {n : Nat} {xs : List Int} (h : (Kd.int k).C w A n xs) (lo m c : Nat) (hh : lo + m ≤ n) (hc : n ≤ c) : (Kd.int k).C w (if c = lo then A else A.map (fun x => x.add lo)) m ((xs.drop lo).take m) := by
 obtain ⟨h1, h2, h3⟩ := h
 refine ⟨by rw [List.length_take, List.length_drop]; omega, by omega, fun hn => ?_⟩
 obtain ⟨ad, e, hcell⟩ := h3 (by omega)
 subst e
 rw [if_neg (by omega)]
 refine ⟨ad.add lo, rfl, fun i p hp => ?_⟩
 obtain ⟨hl1, hp⟩ := List.getElem?_eq_some_iff.1 hp
 rw [List.length_take, List.length_drop] at hl1
 rw [List.getElem_take, List.getElem_drop] at hp
 obtain ⟨cs, hcl, hK, hcs⟩ := hcell (lo + i) p (by rw [List.getElem?_eq_getElem (by omega), hp])
 refine ⟨cs, hcl, hK, fun j u hj => ?_⟩
 have := hcs j u hj
 rw [Addr.add_add]
 have e1 : (Kd.int k).sz = 1 := rfl
 rw [e1] at this ⊢
 rw [show lo + (i * 1 + j) = (lo + i) * 1 + j from by omega]
 exact this
namespace Cu
def takeL (s : Cu) (n : Int) : List Int := if s.fine = false ∨ n < 0 ∨ (s.b.length : Int) - s.pos < n then [] else (s.b.drop s.pos).take n.toNat
def take (s : Cu) (n : Int) : Cu := if s.fine = false then s else if n < 0 then s.fail 1 s.pos else if (s.b.length : Int) - s.pos < n then s.fail 13 s.b.length else s.adv n.toNat
end Cu
set_option maxHeartbeats 4000000 in
set_option maxRecDepth 100000 in
theorem curtake_calls {ok : Nat → Prop} (g : Nat) (s : Cu) (n : Int) (hn : n ≤ 9223372036854775807) (w : World) (h : CurAt ok g s w) : Calls Try.prog 102 #[.pointer (some ⟨g, 0, none⟩), .int .i64 n] w fun e w' => ∃ v, e = .returned v ∧ (Kd.int .u8).R 5 w' w.heap.size (fun _ => True) v (s.takeL n) ∧ CurAt ok g (s.take n) w' ∧ Chg (fun k => k = g) w w' := by
 have H := Aside0.mk h
 have c0 := (blk_cell h.blk 0).trans rfl
 have c1 := (blk_cell h.blk 1).trans rfl
 have f1 := blk_frozen h.blk 1
 have hbig := h.big
 have hle := h.le
 clear h
 cases hs : s.fine with
 | false =>
  have e1 : s.takeL n = [] := if_pos (.inl hs)
  have e2 : s.take n = s := if_pos hs
  rw [e1, e2]
  have HF := Aside0.mk hs
  clear hs e1 e2
  go_enter Try.func102, Try.ntmps102
  go_wp2_with fail
  with_reducible refine (curok_calls g s _ H.out).mono ?_
  rintro e w_ ⟨rfl, ⟨nd, rfl⟩⟩
  rw [HF.out]
  go_wp2
  go_ret
  exact ⟨_, rfl, Kd.R_nil _ _ _ _ _, H.out.drewN nd, (Chg.refl _ _).drewN nd⟩
 | true =>
  have HF := Aside0.mk hs
  by_cases hn0 : n < 0
  ·have e1 : s.takeL n = [] := if_pos (.inr (.inl hn0))
   have e2 : s.take n = s.fail 1 s.pos := by unfold Cu.take; rw [if_neg (by rw [hs]; simp), if_pos hn0]
   rw [e1, e2]
   clear hs e1 e2
   go_enter Try.func102, Try.ntmps102
   go_wp2_with fail
   with_reducible refine (curok_calls g s _ H.out).mono ?_
   rintro e w_ ⟨rfl, ⟨nd, rfl⟩⟩
   rw [HF.out]
   go_wp2_with fail
   with_reducible refine (curfail_calls g s 1 s.pos _ (H.out.drewN _)).mono ?_
   rintro e w_ ⟨rfl, ⟨hc,hg⟩⟩
   go_wp2
   go_ret
   exact ⟨_, rfl, Kd.R_nil _ _ _ _ _, hc, ((Chg.refl _ _).drewN _).trans hg (fun _ h => .inl h)⟩
  ·by_cases hgt : (s.b.length : Int) - s.pos < n
   ·have e1 : s.takeL n = [] := if_pos (.inr (.inr hgt))
    have e2 : s.take n = s.fail 13 s.b.length := by unfold Cu.take; rw [if_neg (by rw [hs]; simp), if_neg hn0, if_pos hgt]
    rw [e1, e2]
    clear hs e1 e2
    go_enter Try.func102, Try.ntmps102
    go_wp2_with fail
    with_reducible refine (curok_calls g s _ H.out).mono ?_
    rintro e w_ ⟨rfl, ⟨nd, rfl⟩⟩
    rw [HF.out]
    go_wp2_with fail
    with_reducible refine (curleft_calls g s _ (H.out.drewN _)).mono ?_
    rintro e w_ ⟨rfl, ⟨nd, rfl⟩⟩
    go_wp2_with fail
    with_reducible refine (curfail_calls g s 13 s.b.length _ (H.out.drewN _)).mono ?_
    rintro e w_ ⟨rfl, ⟨hc,hg⟩⟩
    go_wp2
    go_ret
    exact ⟨_, rfl, Kd.R_nil _ _ _ _ _, hc, ((Chg.refl _ _).drewN _).trans hg (fun _ h => .inl h)⟩
   ·obtain ⟨n, rfl⟩ := Int.eq_ofNat_of_zero_le (show 0 ≤ n by omega)
    have e1 : s.takeL n = (s.b.drop s.pos).take n := by unfold Cu.takeL; rw [if_neg (by rw [hs]; simp; omega), Int.toNat_natCast]
    have e2 : s.take n = s.adv n := by unfold Cu.take; rw [if_neg (by rw [hs]; simp), if_neg hn0, if_neg hgt, Int.toNat_natCast]
    rw [e1, e2]
    have hcap := H.out.cap
    have hpn : s.pos + n ≤ s.b.length := by omega
    clear hs e1 e2
    go_enter Try.func102, Try.ntmps102
    go_wp2_with fail
    with_reducible refine (curok_calls g s _ H.out).mono ?_
    rintro e w_ ⟨rfl, ⟨nd1, rfl⟩⟩
    rw [HF.out]
    go_wp2_with fail
    with_reducible refine (curleft_calls g s _ (H.out.drewN _)).mono ?_
    rintro e w_ ⟨rfl, ⟨nd2, rfl⟩⟩
    go_wp2_with fail
    have HW := Aside0.mk (blk_put (blk_drewN H.out.blk (nd1 + nd2)) 1 (.int .i64 ((s.pos : Int) + (n : Int))) rfl)
    have HCh := (((Chg.refl (fun k => k = g) w).drewN (nd1 + nd2)).set1 1 (.int .i64 ((s.pos : Int) + (n : Int))))
    have hq0 : 0 ≤ (s.pos : Int) + (n : Int) := by omega
    have hq1 : (s.pos : Int) + (n : Int) ≤ (s.c : Int) := by omega
    have hq2 : (s.pos : Int) ≤ max ((s.pos : Int) + (n : Int)) 0 := by omega
    have hq3 : 0 ≤ (s.pos : Int) := by omega
    have hq4 : ((s.pos : Int) + (n : Int)).toNat = s.pos + n := by omega
    have hq5 : wrap64 (s.pos : Int) = (s.pos : Int) := IntWalk.wrap64_in _ (by omega)
    have H1 := Aside0.mk (H.out.put (s' := s.adv n) HW.out HCh rfl rfl rfl hpn)
    have HRD := Aside0.mk (show (Kd.int .u8).C _ s.A s.b.length s.b from H1.out.read)
    refine start_ (n := 17) (S := fun w' => w'.cell? ⟨g, 0, none⟩ = some (.slice s.A s.b.length s.c) ∧ w'.cell? ⟨g, 1, none⟩ = some (.int .i64 ((s.pos : Int) + (n : Int)))) (ds := []) #[false, false, false, false, false, false, false, false, false, false, false, false, false, false, false, false, false] (by kernel_rfl) rfl rfl ⟨(blk_cell HW.out 0).trans rfl, (blk_cell HW.out 1).trans rfl⟩ (fun hHeld => ?_)
    refine pure_ (i := 0) (N := some 38) (v := ?_) (a' := ?_) #[true, false, false, false, false, false, false, false, false, false, false, false, false, false, false, false, false] rfl rfl (by kernel_rfl) (fun _ _ _ h => h) (Or.inl ⟨by rfl, ?_⟩) ?_ ?_
    rotate_left
    ·intro w'
     go_simp
     with_reducible rfl
    rotate_left
    ·simp only [Act.put, List.setIfInBounds_toArray, List.set_cons_zero, List.set_cons_succ, i64_w, i32_w]
     rfl
    refine pure_ (i := 1) (N := some 39) (v := ?_) (a' := ?_) #[true, true, false, false, false, false, false, false, false, false, false, false, false, false, false, false, false] rfl rfl (by kernel_rfl) (fun _ _ _ h => h) (Or.inl ⟨by rfl, ?_⟩) ?_ ?_
    rotate_left
    ·intro w'
     go_simp
     with_reducible rfl
    rotate_left
    ·simp only [Act.put, List.setIfInBounds_toArray, List.set_cons_zero, List.set_cons_succ, i64_w, i32_w]
     rfl
    refine pure_ (i := 2) (N := some 40) (v := ?_) (a' := ?_) #[true, true, true, false, false, false, false, false, false, false, false, false, false, false, false, false, false] rfl rfl (by kernel_rfl) (fun _ _ _ h => h) (Or.inl ⟨by rfl, ?_⟩) ?_ ?_
    rotate_left
    ·intro w'
     go_simp
     with_reducible rfl
    rotate_left
    ·simp only [Act.put, List.setIfInBounds_toArray, List.set_cons_zero, List.set_cons_succ, i64_w, i32_w]
     rfl
    refine pure_ (i := 4) (N := some 42) (v := ?_) (a' := ?_) #[true, true, true, false, true, false, false, false, false, false, false, false, false, false, false, false, false] rfl rfl (by kernel_rfl) (fun _ _ _ h => h) (Or.inl ⟨by rfl, ?_⟩) ?_ ?_
    rotate_left
    ·intro w'
     go_simp
     with_reducible rfl
    rotate_left
    ·simp only [Act.put, List.setIfInBounds_toArray, List.set_cons_zero, List.set_cons_succ, i64_w, i32_w]
     rfl
    refine pure_ (i := 5) (N := some 43) (v := ?_) (a' := ?_) #[true, true, true, false, true, true, false, false, false, false, false, false, false, false, false, false, false] rfl rfl (by kernel_rfl) (fun _ _ _ h => h) (Or.inl ⟨by rfl, ?_⟩) ?_ ?_
    rotate_left
    ·intro w'
     go_simp
     with_reducible rfl
    rotate_left
    ·simp only [Act.put, List.setIfInBounds_toArray, List.set_cons_zero, List.set_cons_succ, i64_w, i32_w]
     rfl
    refine pure_ (i := 6) (N := some 44) (v := ?_) (a' := ?_) #[true, true, true, false, true, true, true, false, false, false, false, false, false, false, false, false, false] rfl rfl (by kernel_rfl) (fun _ _ _ h => h) (Or.inl ⟨by rfl, ?_⟩) ?_ ?_
    rotate_left
    ·intro w'
     go_simp
     with_reducible rfl
    rotate_left
    ·simp only [Act.put, List.setIfInBounds_toArray, List.set_cons_zero, List.set_cons_succ, i64_w, i32_w]
     rfl
    refine pure_ (i := 8) (N := some 46) (v := ?_) (a' := ?_) #[true, true, true, false, true, true, true, false, true, false, false, false, false, false, false, false, false] rfl rfl (by kernel_rfl) (fun _ _ _ h => h) (Or.inl ⟨by rfl, ?_⟩) ?_ ?_
    rotate_left
    ·intro w'
     go_simp
     with_reducible rfl
    rotate_left
    ·simp only [Act.put, List.setIfInBounds_toArray, List.set_cons_zero, List.set_cons_succ, i64_w, i32_w]
     rfl
    refine pure_ (i := 10) (N := some 48) (v := ?_) (a' := ?_) #[true, true, true, false, true, true, true, false, true, false, true, false, false, false, false, false, false] rfl rfl (by kernel_rfl) (fun _ _ _ h => h) (Or.inl ⟨by rfl, ?_⟩) ?_ ?_
    rotate_left
    ·intro w'
     go_simp
     with_reducible rfl
    rotate_left
    ·simp only [Act.put, List.setIfInBounds_toArray, List.set_cons_zero, List.set_cons_succ, i64_w, i32_w]
     rfl
    refine pure_ (i := 11) (N := some 49) (v := ?_) (a' := ?_) #[true, true, true, false, true, true, true, false, true, false, true, true, false, false, false, false, false] rfl rfl (by kernel_rfl) (fun _ _ _ h => h) (Or.inl ⟨by rfl, ?_⟩) ?_ ?_
    rotate_left
    ·intro w'
     go_simp
     with_reducible rfl
    rotate_left
    ·simp only [Act.put, List.setIfInBounds_toArray, List.set_cons_zero, List.set_cons_succ, i64_w, i32_w]
     rfl
    refine pure_ (i := 12) (N := some 50) (v := ?_) (a' := ?_) #[true, true, true, false, true, true, true, false, true, false, true, true, true, false, false, false, false] rfl rfl (by kernel_rfl) (fun _ _ _ h => h) (Or.inl ⟨by rfl, ?_⟩) ?_ ?_
    rotate_left
    ·intro w'
     go_simp
     with_reducible rfl
    rotate_left
    ·simp only [Act.put, List.setIfInBounds_toArray, List.set_cons_zero, List.set_cons_succ, i64_w, i32_w]
     rfl
    refine take_ (i := 3) (N := some 41) (v := ?_) (a' := ?_) #[true, true, true, true, true, true, true, false, true, false, true, true, true, false, false, false, false] rfl rfl (by kernel_rfl) (fun _ _ _ h => h) (Or.inl ⟨by rfl, ?_⟩) hHeld ?_ ?_
    rotate_left
    ·rintro w' ⟨s0, s1⟩
     go_simp
     with_reducible rfl
    rotate_left
    ·simp only [Act.put, List.setIfInBounds_toArray, List.set_cons_zero, List.set_cons_succ, i64_w, i32_w]
     rfl
    refine take_ (i := 7) (N := some 45) (v := ?_) (a' := ?_) #[true, true, true, true, true, true, true, true, true, false, true, true, true, false, false, false, false] rfl rfl (by kernel_rfl) (fun _ _ _ h => h) (Or.inl ⟨by rfl, ?_⟩) hHeld ?_ ?_
    rotate_left
    ·rintro w' ⟨s0, s1⟩
     go_simp
     with_reducible rfl
    rotate_left
    ·simp only [Act.put, List.setIfInBounds_toArray, List.set_cons_zero, List.set_cons_succ, i64_w, i32_w]
     rfl
    refine pure_ (i := 9) (N := some 47) (v := ?_) (a' := ?_) #[true, true, true, true, true, true, true, true, true, true, true, true, true, false, false, false, false] rfl rfl (by kernel_rfl) (fun _ _ _ h => h) (Or.inl ⟨by rfl, ?_⟩) ?_ ?_
    rotate_left
    ·intro w'
     go_simp
     with_reducible rfl
    rotate_left
    ·simp only [Act.put, List.setIfInBounds_toArray, List.set_cons_zero, List.set_cons_succ, i64_w, i32_w]
     rfl
    refine take_ (i := 13) (N := some 51) (v := ?_) (a' := ?_) #[true, true, true, true, true, true, true, true, true, true, true, true, true, true, false, false, false] rfl rfl (by kernel_rfl) (fun _ _ _ h => h) (Or.inl ⟨by rfl, ?_⟩) hHeld ?_ ?_
    rotate_left
    ·rintro w' ⟨s0, s1⟩
     go_simp
     with_reducible rfl
    rotate_left
    ·simp only [Act.put, List.setIfInBounds_toArray, List.set_cons_zero, List.set_cons_succ, i64_w, i32_w]
     rfl
    refine pure_ (i := 14) (N := some 52) (v := ?_) (a' := ?_) #[true, true, true, true, true, true, true, true, true, true, true, true, true, true, true, false, false] rfl rfl (by kernel_rfl) (fun _ _ _ h => h) (Or.inl ⟨by rfl, ?_⟩) ?_ ?_
    rotate_left
    ·intro w'
     go_simp
     with_reducible rfl
    rotate_left
    ·simp only [Act.put, List.setIfInBounds_toArray, List.set_cons_zero, List.set_cons_succ, i64_w, i32_w]
     rfl
    refine one_ (i := 15) (N := some 53) #[true, true, true, true, true, true, true, true, true, true, true, true, true, true, true, true, false] rfl rfl (by kernel_rfl) (by decide) (fun K hK => ?_)
    refine goes_ Try.func50 (by kernel_rfl) rfl #[.slice (if s.c = s.pos then s.A else Option.map (fun x => x.add s.pos) s.A) n (s.c - s.pos)] (by rfl) rfl rfl (by first | (simp only [List.map_toArray, List.map_cons, List.map_nil]; done) | (simp only [List.map_toArray, List.map_cons, List.map_nil]; rfl) | simp) ?_
    with_reducible refine (clone_calls _ n _ ((s.b.drop s.pos).take n) _ (Kd.C_drew (C_cut HRD.out s.pos n s.c hpn hcap)) (by omega)).mono ?_
    rintro e w3 ⟨v, rfl, hv, hb⟩
    refine ⟨_, rfl, ?_⟩
    refine hK.out _ _ ⟨(blk_cell (blk_below (blk_drew HW.out) hb) 0).trans rfl, (blk_cell (blk_below (blk_drew HW.out) hb) 1).trans rfl⟩ (fun hHeld => ?_)
    clear hK K
    refine norm_ (a' := ?_) ?_ ?_
    rotate_left
    ·show Act.put _ (some 53) _ = _
     simp only [Act.put, List.setIfInBounds_toArray, List.set_cons_zero, List.set_cons_succ, i64_w, i32_w]
     rfl
    refine pure_ (i := 16) (N := some 4) (v := ?_) (a' := ?_) #[true, true, true, true, true, true, true, true, true, true, true, true, true, true, true, true, true] rfl rfl (by kernel_rfl) (fun _ _ _ h => h) (Or.inl ⟨by rfl, ?_⟩) ?_ ?_
    rotate_left
    ·intro w'
     go_simp
     with_reducible rfl
    rotate_left
    ·simp only [Act.put, List.setIfInBounds_toArray, List.set_cons_zero, List.set_cons_succ, i64_w, i32_w]
     rfl
    refine done_ (by kernel_rfl) ?_
    go_wp2
    all_goals
     go_ret
     exact ⟨_, rfl, Kd.R_lower hv (by simp [World.setCell]), (H1.out.below (below_drew1 (Below.refl _ _))).below hb, (HCh.drew).below hb⟩
namespace Cu
def byteV (s : Cu) : Int := if s.fine = true ∧ s.pos < s.b.length then s.b.getD s.pos 0 else 0
end Cu
theorem takeL_one (s : Cu) : (s.takeL 1 = [] ∧ s.byteV = 0) ∨ (s.takeL 1 = [s.byteV] ∧ s.fine = true ∧ s.pos < s.b.length) := by
 unfold Cu.takeL Cu.byteV
 by_cases h : s.fine = true ∧ s.pos < s.b.length
 ·right
  rw [if_neg (by rw [h.1]; simp; omega), if_pos h]
  refine ⟨?_, h⟩
  show (s.b.drop s.pos).take 1 = _
  rw [List.drop_eq_getElem_cons h.2, List.getD_eq_getElem?_getD, List.getElem?_eq_getElem h.2]
  rfl
 ·left
  rw [if_neg h, if_pos]
  ·exact ⟨rfl, rfl⟩
  ·cases hs : s.fine with
   | false => exact .inl rfl
   | true => exact .inr (.inr (by have : ¬ s.pos < s.b.length := fun h2 => h ⟨hs, h2⟩; omega))
set_option maxHeartbeats 1000000 in
set_option maxRecDepth 100000 in
theorem curbyte_calls {ok : Nat → Prop} (g : Nat) (s : Cu) (w : World) (h : CurAt ok g s w) : Calls Try.prog 63 #[.pointer (some ⟨g, 0, none⟩)] w fun e w' => e = .returned (.int .u8 s.byteV) ∧ CurAt ok g (s.take 1) w' ∧ Chg (fun k => k = g) w w' := by
 have H := Aside0.mk h
 clear h
 have HT := Aside0.mk (curtake_calls g s 1 (by omega) w H.out)
 rcases takeL_one s with ⟨h1, h2⟩ | ⟨h1, h2⟩
 ·rw [h1] at HT
  rw [h2]
  clear h1 h2
  go_enter Try.func63, Try.ntmps63
  go_wp2_with fail
  refine HT.out.mono ?_
  rintro e w1 ⟨v, rfl, hv, hc, hg⟩
  obtain ⟨A, c, rfl, _, hC⟩ := Kd.R_reads hv
  go_wp2
  go_ret
  exact ⟨rfl, hc, hg⟩
 ·rw [h1] at HT
  clear h1 h2
  go_enter Try.func63, Try.ntmps63
  go_wp2_with fail
  refine HT.out.mono ?_
  rintro e w1 ⟨v, rfl, hv, hc, hg⟩
  obtain ⟨A, c, rfl, _, hC⟩ := Kd.R_reads hv
  obtain ⟨ad, e, hx⟩ := Kd.at_int hC 0 (by omega) (by simp)
  cases e
  have hx2 : w1.cell? (ad.add 0) = some (.int .u8 s.byteV) := hx
  have hx3 : w1.cell? ad = some (.int .u8 s.byteV) := by rw [show ad.add 0 = ad from rfl] at hx2; exact hx2
  have HC := Aside0.mk hc
  have HG := Aside0.mk hg
  clear hc hg hv hC hx
  go_wp2
  repeat (go_quiet (fail); try go_wp2)
  go_ret
  exact ⟨rfl, HC.out, HG.out⟩
set_option maxHeartbeats 1000000 in
set_option maxRecDepth 100000 in
theorem curnew_calls (A : Option Addr) (n c : Nat) (l : List Int) (w : World) (hC : (Kd.int .u8).C w A n l) (hl : ∀ x ∈ l, 0 ≤ x ∧ x < 256) (hbig : n ≤ 140737488355328) :
  Calls Try.prog 21 #[.slice A n c] w fun e w' => ∃ g A' c', e = .returned (.pointer (some ⟨g, 0, none⟩)) ∧ CurAt (fun k => w.heap.size ≤ k ∧ k < w'.heap.size) g ⟨A', c', l, 0, 0, 0, false⟩ w' ∧ Below w.heap.size w w' := by
 have HC := Aside0.mk hC
 have HL := Aside0.mk hl
 have HN := Aside0.mk hC.1
 clear hC hl
 go_enter Try.func21, Try.ntmps21
 go_wp2_with fail
 refine (clone_calls A n c l _ HC.out hbig).mono ?_
 rintro e w1 ⟨v, rfl, hv, hb⟩
 obtain ⟨A', c', rfl, _, hC⟩ := Kd.R_reads hv
 go_wp2
 go_ret
 refine ⟨w1.heap.size, A', c', rfl, ⟨blk_new _ _, ⟨hb.size, by simp⟩, ?_, Nat.zero_le _, by rw [show l.length = n from HN.out]; exact hbig, HL.out⟩, below_alloc hb _⟩
 refine Kd.R_lower (Kd.R_mono (Kd.R_alloc (Kd.R_bound hv) _) (fun k hk => ⟨⟨hk.2.1, by simp; omega⟩, by omega⟩)) (Nat.zero_le _)
end Go.Proofs.Ytclbmdblalgdjaa
