/- Package dict: fresh and Get: what they tell and turn; no condition. -/
import Derived.Test.YtclbmdblalgdjaaZNDict
namespace Go.Proofs.Ytclbmdblalgdjaa
open Go.RowKit Go.Proofs.YtclbmdblalgdjaaW.PrintWords Go.Proofs.YtclbmdblalgdjaaW.PrintLast Go.Proofs.YtclbmdblalgdjaaW.PrintMore
set_option linter.unusedVariables false
set_option linter.unusedSimpArgs false
/-! A Cur that is wrong has an error's number. -/
def Cu.sane (s : Cu) : Prop := s.fine = true ∨ s.code ≠ 0
theorem Cu.sane.fail {s : Cu} (h : s.sane) (c a : Int) : (s.fail c a).sane := by
 unfold Cu.fail
 split
 ·rename_i h2
  exact .inr h2.2
 ·exact h
theorem Cu.sane.adv {s : Cu} (h : s.sane) (n : Nat) : (s.adv n).sane := h
theorem Cu.sane.take {s : Cu} (h : s.sane) (n : Int) : (s.take n).sane := by
 unfold Cu.take
 split
 ·exact h
 ·split
  ·exact h.fail _ _
  ·split
   ·exact h.fail _ _
   ·exact h.adv _
theorem Cu.sane.vread {s : Cu} (h : s.sane) : s.vread.2.sane := by
 unfold Cu.vread
 split
 ·exact h
 ·split
  ·exact h.adv _
  ·split
   ·exact (h.adv _).fail _ _
   ·exact (h.adv _).fail _ _
theorem Cu.sane.cases {s : Cu} (h : s.sane) : (s.fine = true ∧ s.code = 0 ∧ s.fat = 0) ∨ (s.fine = false ∧ s.code ≠ 0) := by
 rcases h with h | h
 ·refine .inl ⟨h, ?_⟩
  unfold Cu.fine at h
  simpa using h
 ·refine .inr ⟨?_, h⟩
  unfold Cu.fine
  simp [h]
theorem fail_b (s : Cu) (c a : Int) : (s.fail c a).b = s.b := by unfold Cu.fail; split <;> rfl
theorem curfault_ok {ok : Nat → Prop} (g : Nat) (s : Cu) (w : World) (h : CurAt ok g s w) (h1 : s.code = 0) (h2 : s.fat = 0) : Calls Try.prog 24 #[.pointer (some ⟨g, 0, none⟩)] w fun e w' => e = .returned (.agg #[.int .i64 0, .int .i64 0]) ∧ Below w.heap.size w w' := by
 have h3 := curfault_calls g s w h
 rw [h1, h2] at h3
 exact h3
theorem curfault_at {ok : Nat → Prop} (g : Nat) (s : Cu) (a b : Int) (w : World) (h : CurAt ok g s w) (h1 : s.code = a) (h2 : s.fat = b) : Calls Try.prog 24 #[.pointer (some ⟨g, 0, none⟩)] w fun e w' => e = .returned (.agg #[.int .i64 a, .int .i64 b]) ∧ Below w.heap.size w w' := by
 have h3 := curfault_calls g s w h
 rw [h1, h2] at h3
 exact h3
theorem vread2 {ok : Nat → Prop} {s s' : Cu} {x : Nat} (g : Nat) {w : World} (h : CurAt ok g s w) (hv : s.vread = (x, s')) : Calls Try.prog 51 #[.pointer (some ⟨g, 0, none⟩)] w fun e w' => e = .returned (.int .u64 (x : Int)) ∧ CurAt ok g s' w' ∧ Chg (fun k => k = g) w w' := by
 have h2 := vread_calls g s w h
 rw [hv] at h2
 exact h2
theorem curtake_at {ok : Nat → Prop} (g : Nat) (s : Cu) (n n2 : Int) (hn2 : n2 = n) (hn : n ≤ 9223372036854775807) (w : World) (h : CurAt ok g s w) {s3 : Cu} (h3 : s.take n = s3) {t : ByteArray} (ht : strOfNums (s.takeL n) = t) : Calls Try.prog 102 #[.pointer (some ⟨g, 0, none⟩), .int .i64 n2] w fun e w' => ∃ A m c, e = .returned (.slice A m c) ∧ (convert 34 9 (.slice A m c)).run Try.prog w' = .ok (.string t) w' ∧ CurAt ok g s3 w' ∧ Chg (fun k => k = g) w w' := by
 subst hn2
 refine (curtake_calls g s n2 hn w h).mono ?_
 rintro e w' ⟨v, rfl, hv, hc, hg⟩
 obtain ⟨A, c, rfl, _, hC⟩ := Kd.R_reads hv
 rw [h3] at hc
 refine ⟨A, _, c, rfl, ?_, hc, hg⟩
 rw [← ht]
 exact Kd.C_string uB (by kernel_rfl) (by kernel_rfl) hC
structure GD (ok : Nat → Prop) (g : Nat) (d : Dic) (s : Cu) (w W : World) : Prop where
 cur : CurAt ok g s W
 dic : DicAt d W
 chg : Chg (fun k => k = g) w W
 ap : ∀ k, ok k → ¬ d.F k
section
variable {ok : Nat → Prop} {g : Nat} {d : Dic} {s s' : Cu} {w W W' : World}
theorem GD.turn (h : GD ok g d s w W) (hc : CurAt ok g s' W') (hg : Chg (fun k => k = g) W W') : GD ok g d s' w W' :=
 ⟨hc, h.dic.step hg (fun k hk (e : k = g) => h.ap g h.cur.okg (e ▸ hk)), h.chg.trans hg (fun _ h => .inl h), h.ap⟩
theorem GD.below (h : GD ok g d s w W) (hb : Below W.heap.size W W') : GD ok g d s w W' := ⟨h.cur.below hb, h.dic.below hb, h.chg.below hb, h.ap⟩
theorem GD.drew (h : GD ok g d s w W) : GD ok g d s w W.drew := h.below (below_drew1 (Below.refl _ _))
theorem GD.alloc (h : GD ok g d s w W) (o : Obj) : GD ok g d s w (W.alloc o) := h.below (below_alloc (Below.refl _ _) o)
end
def DTurnS (S : Nat → Prop) (d : Dic) (ws' : List ByteArray) (w w' : World) : Prop := ∃ v', DicAt ⟨d.g, d.gm, v', ws'⟩ w' ∧ Chg S w w' ∧ (v'.ownBlock = d.v.ownBlock ∨ ∃ k, v'.ownBlock = some k ∧ w.heap.size ≤ k)
def GetPost (ok : Nat → Prop) (g : Nat) (d : Dic) (r : ByteArray × Cu × List ByteArray) (w : World) (e : Ending) (w' : World) : Prop :=
 e = .returned (.string r.1) ∧ CurAt ok g r.2.1 w' ∧ DTurnS (fun k => k = g ∨ d.F k) d r.2.2 w w'
theorem GD.post {ok : Nat → Prop} {g : Nat} {d : Dic} {s : Cu} {w W : World} (h : GD ok g d s w W) {t : ByteArray} : GetPost ok g d (t, s, d.ws) w (.returned (.string t)) W :=
 ⟨rfl, h.cur, d.v, h.dic, h.chg.mono (fun _ _ h => .inl h), .inl rfl⟩
theorem GD.post_at {ok : Nat → Prop} {g : Nat} {d : Dic} {s : Cu} {w W : World} (h : GD ok g d s w W) {t : ByteArray} {r : ByteArray × Cu × List ByteArray} (hr : r = (t, s, d.ws)) {e : Ending} (he : e = .returned (.string t)) : GetPost ok g d r w e W := by
 subst hr
 subst he
 exact h.post
theorem vrd_lt : ∀ (l : List Int) (i n : Nat), (∀ x ∈ l, 0 ≤ x ∧ x < 256) → n < 128 ^ i → i ≤ 9 → (vrd l i n).1 < 18446744073709551616
 | [], i, n, _, hn, hi => by unfold vrd; show 0 < _; decide
 | b :: t, i, n, hl, hn, hi => by
  have hb := hl b List.mem_cons_self
  unfold vrd
  split
  ·show 0 < _; decide
  ·rename_i h9
   have hbd : n + b.toNat % 128 * 128 ^ i < 128 ^ (i + 1) := vor_bound b.toNat hn
   have hsm : n + b.toNat % 128 * 128 ^ i < 18446744073709551616 := by
    rcases Nat.lt_or_ge i 9 with h | h
    ·exact Nat.lt_of_lt_of_le hbd (Nat.le_trans (Nat.pow_le_pow_right (by decide) (show i + 1 ≤ 9 by omega)) (by decide))
    ·have e : i = 9 := by omega
     subst e
     have hb1 : b.toNat % 128 ≤ 1 := by omega
     have h3 : b.toNat % 128 * 128 ^ 9 ≤ 1 * 128 ^ 9 := Nat.mul_le_mul hb1 (Nat.le_refl _)
     have h4 : n + b.toNat % 128 * 128 ^ 9 < 128 ^ 9 + 1 * 128 ^ 9 := by omega
     exact Nat.lt_of_lt_of_le h4 (by decide)
   split
   ·split
    ·show 0 < _; decide
    ·exact hsm
   ·rename_i hb2
    rcases Nat.lt_or_ge i 9 with h | h
    ·exact vrd_lt t (i + 1) _ (fun x hx => hl x (List.mem_cons_of_mem _ hx)) hbd (by omega)
    ·exact absurd ⟨by omega, by omega⟩ h9
theorem vread_lt (s : Cu) (h : ∀ x ∈ s.b, 0 ≤ x ∧ x < 256) : s.vread.1 < 18446744073709551616 := by
 unfold Cu.vread
 split
 ·show 0 < _; decide
 ·split
  ·exact vrd_lt _ 0 0 (fun x hx => h x (List.mem_of_mem_drop hx)) (by decide) (by decide)
  ·split
   ·show 0 < _; decide
   ·show 0 < _; decide
def dfs2 (s : Cu) : Cu := if 200 < s.vread.1 then s.vread.2.fail 12 s.pos else s.vread.2
def dfT (s : Cu) : ByteArray := strOfNums ((dfs2 s).takeL ((min s.vread.1 200 : Nat) : Int))
def dfs3 (s : Cu) : Cu := (dfs2 s).take ((min s.vread.1 200 : Nat) : Int)
def dfresh (ws : List ByteArray) (s : Cu) (kind first : Int) : ByteArray × Cu × List ByteArray :=
 if 65536 ≤ ws.length then (ByteArray.empty, s.fail 12 first, ws)
 else if (dfs3 s).fine = false then (ByteArray.empty, dfs3 s, ws)
 else if 0 ≤ badI (clsB kind) (dfT s) then (ByteArray.empty, (dfs3 s).fail 14 (((dfs2 s).pos : Int) + badI (clsB kind) (dfT s)), ws)
 else if 0 < findW ws (dfT s) then (ByteArray.empty, (dfs3 s).fail 21 first, ws)
 else (dfT s, dfs3 s, ws ++ [dfT s])
set_option maxHeartbeats 4000000 in
set_option maxRecDepth 100000 in
theorem fresh_full {ok : Nat → Prop} (d : Dic) (g : Nat) (s : Cu) (kind first : Int) (w : World) (h : GD ok g d s w w) (hfull : 65536 ≤ d.ws.length) :
  Calls Try.prog 128 #[.pointer (some ⟨d.g, 0, none⟩), .pointer (some ⟨g, 0, none⟩), .int .i64 kind, .int .i64 first] w (GetPost ok g d (dfresh d.ws s kind first) w) := by
 have HG := Aside0.mk h
 obtain ⟨A, c, hv, hc, hC⟩ := h.dic.slice
 have c0 := (blk_cell h.dic.blk 0).trans rfl
 rw [hv] at c0
 have b1 : decide (65536 ≤ (d.ws.length : Int)) = true := decide_eq_true (by omega)
 have hlen := h.dic.few
 have HE := Aside0.mk (show dfresh d.ws s kind first = (ByteArray.empty, s.fail 12 first, d.ws) from if_pos hfull)
 clear h hv hC hfull
 go_enter Try.func128, Try.ntmps128
 go_wp2_with fail
 with_reducible refine (curfail_calls g s 12 first _ HG.out.cur).mono ?_
 rintro e w_ ⟨rfl, hc, hg⟩
 have n0 := Aside0.mk (GD.turn (by (with_reducible repeat (first | apply GD.alloc | apply GD.drewN | apply GD.drew)); exact HG.out) hc hg)
 clear HG hc hg
 have HG := n0
 clear n0
 go_wp2
 go_ret
 exact HG.out.post_at HE.out rfl
theorem badF_le (f : Int → Bool) (s : ByteArray) : ∀ k i, badF f s k i ≤ (i : Int) + k
 | 0, _ => by unfold badF; omega
 | k + 1, i => by
  unfold badF
  split
  ·have := badF_le f s k (i + 1)
   omega
  ·omega
theorem badI_le (f : Int → Bool) (s : ByteArray) : badI f s ≤ s.size := by
 have := badF_le f s s.size 0
 unfold badI
 omega
theorem strOf_size (l : List Int) : (strOfNums l).size = l.length := by
 unfold strOfNums
 show (Array.mk _).size = _
 simp
theorem str_take_size2 (s : Cu) (n : Nat) (h : n ≤ 200) : (strOfNums (s.takeL n)).size ≤ 200 := by
 rw [strOf_size]
 unfold Cu.takeL
 split
 ·simp
 ·rw [List.length_take]
  omega
theorem str_take_size (s : Cu) (n : Nat) (h : n ≤ 200) : (strOfNums (s.takeL n)).size ≤ 140737488350000 := by
 rw [strOf_size]
 unfold Cu.takeL
 split
 ·simp
 ·rw [List.length_take]
  omega
set_option maxHeartbeats 4000000 in
set_option maxRecDepth 100000 in
theorem fresh_calls {ok : Nat → Prop} (d : Dic) (g : Nat) (s : Cu) (kind first : Int) (w : World) (h : GD ok g d s w w) (hs : s.sane) (hk : betB kind 1 4 = true) :
  Calls Try.prog 128 #[.pointer (some ⟨d.g, 0, none⟩), .pointer (some ⟨g, 0, none⟩), .int .i64 kind, .int .i64 first] w (GetPost ok g d (dfresh d.ws s kind first) w) := by
 by_cases hfull : 65536 ≤ d.ws.length
 ·exact fresh_full d g s kind first w h hfull
 have HG := Aside0.mk h
 have HS := Aside0.mk hs
 have HK := Aside0.mk hk
 obtain ⟨A, c, hv, hc, hC⟩ := h.dic.slice
 have HVS := Aside0.mk hv
 have c0 := (blk_cell h.dic.blk 0).trans rfl
 rw [hv] at c0
 have b1 : decide (65536 ≤ (d.ws.length : Int)) = false := decide_eq_false (by omega)
 have hlen := h.dic.few
 have hlt := h.cur.lt
 obtain ⟨n, hn⟩ : ∃ n, s.vread.1 = n := ⟨_, rfl⟩
 obtain ⟨s1, hs1⟩ : ∃ s1, s.vread.2 = s1 := ⟨_, rfl⟩
 have HR := Aside0.mk (show s.vread = (n, s1) by rw [← hn, ← hs1])
 have HFU := Aside0.mk hfull
 have hsane := hs.vread
 rw [hs1] at hsane
 have HSA := Aside0.mk hsane
 clear h hv hC hs hk hfull hn hs1 hsane
 by_cases h200 : 200 < n
 ·obtain ⟨s2, hs2⟩ : ∃ s2, s1.fail 12 s.pos = s2 := ⟨_, rfl⟩
  have hnf : s2.fine = false := by
   rw [← hs2]
   cases hf : s1.fine with
   | true => exact fail_fine hf (by decide)
   | false => rw [fail_off hf]; exact hf
  have hsane2 := HSA.out.fail 12 s.pos
  rw [hs2] at hsane2
  have HSA2 := Aside0.mk hsane2
  have HE := Aside0.mk (show dfresh d.ws s kind first = (ByteArray.empty, s2, d.ws) by
   have e2 : dfs2 s = s2 := by unfold dfs2; rw [HR.out, if_pos h200]; exact hs2
   have e3 : dfs3 s = s2 := by unfold dfs3; rw [e2, nf_take hnf]
   unfold dfresh
   rw [e3, if_neg HFU.out, if_pos hnf])
  have HT := Aside0.mk (show strOfNums (s2.takeL 200) = ByteArray.empty by unfold Cu.takeL; rw [if_pos (.inl hnf)]; rfl)
  have HS3 := Aside0.mk (nf_take hnf 200)
  have HS2 := Aside0.mk hs2
  have HNF := Aside0.mk hnf
  have HM := Aside0.mk (show min (n : Int) 200 = 200 by omega)
  have hn64 := vread_lt s HG.out.cur.bytes
  rw [HR.out] at hn64
  clear hs2 hnf hsane2
  go_enter Try.func128, Try.ntmps128
  go_wp2_with fail
  with_reducible refine (Calls.dB (curat_calls g s _ HG.out.cur)).mono ?_
  rintro e w_ ⟨rfl, hb⟩
  have n0 := Aside0.mk (GD.below (by (with_reducible repeat (first | apply GD.alloc | apply GD.drewN | apply GD.drew)); exact HG.out) hb)
  clear HG hb
  have HG := n0
  clear n0
  clear c0
  go_wp2_with fail
  with_reducible refine (vread2 g (GD.cur (d := d) (w := w) (by (with_reducible repeat (first | apply GD.alloc | apply GD.drewN | apply GD.drew)); exact HG.out)) HR.out).mono ?_
  rintro e w_ ⟨rfl, hc, hg⟩
  have n0 := Aside0.mk (GD.turn (by (with_reducible repeat (first | apply GD.alloc | apply GD.drewN | apply GD.drew)); exact HG.out) hc hg)
  clear HG hc hg
  have HG := n0
  clear n0
  go_wp2_with fail
  with_reducible refine (curfail_calls g s1 12 s.pos _ HG.out.cur).mono ?_
  rintro e w_ ⟨rfl, hc, hg⟩
  have n0 := Aside0.mk (GD.turn (by (with_reducible repeat (first | apply GD.alloc | apply GD.drewN | apply GD.drew)); exact HG.out) hc hg)
  clear HG hc hg
  have HG := n0
  clear n0
  rw [HS2.out] at HG
  go_wp2_with fail
  with_reducible refine (Calls.dB (curat_calls g s2 _ HG.out.cur)).mono ?_
  rintro e w_ ⟨rfl, hb⟩
  have n0 := Aside0.mk (GD.below (by (with_reducible repeat (first | apply GD.alloc | apply GD.drewN | apply GD.drew)); exact HG.out) hb)
  clear HG hb
  have HG := n0
  clear n0
  go_wp2_with fail
  with_reducible refine (curtake_at g s2 200 _ HM.out (by omega) _ (GD.cur (d := d) (w := w) (by (with_reducible repeat (first | apply GD.alloc | apply GD.drewN | apply GD.drew)); exact HG.out)) HS3.out HT.out).mono ?_
  rintro e w2 ⟨A3, m3, c3, rfl, hcv, hc, hg⟩
  have n0 := Aside0.mk (GD.turn (by (with_reducible repeat (first | apply GD.alloc | apply GD.drewN | apply GD.drew)); exact HG.out) hc hg)
  clear HG hc hg
  have HG := n0
  clear n0
  rcases HSA2.out.cases with ⟨hf1, hf2, hf3⟩ | ⟨hf1, hf2⟩
  ·exact absurd hf1 (by rw [HNF.out]; decide)
  ·obtain ⟨a, ha⟩ : ∃ a, s2.code = a := ⟨_, rfl⟩
   rw [ha] at hf2
   have HA := Aside0.mk ha
   clear hf1 ha
   go_wp2_with fail
   with_reducible refine (curfault_at g s2 a _ _ HG.out.cur HA.out rfl).mono ?_
   rintro e w_ ⟨rfl, hb⟩
   have n0 := Aside0.mk (GD.below (by (with_reducible repeat (first | apply GD.alloc | apply GD.drewN | apply GD.drew)); exact HG.out) hb)
   clear HG hb
   have HG := n0
   clear n0
   go_wp2
   go_ret
   exact HG.out.post_at HE.out rfl
 ·have E2 := Aside0.mk (show dfs2 s = s1 by unfold dfs2; rw [HR.out, if_neg h200])
  have E3 := Aside0.mk (show dfs3 s = s1.take n by unfold dfs3; rw [E2.out, HR.out, Nat.min_eq_left (by omega)])
  have ET := Aside0.mk (show dfT s = strOfNums (s1.takeL n) by unfold dfT; rw [E2.out, HR.out, Nat.min_eq_left (by omega)])
  have h200b : n ≤ 200 := by omega
  clear h200
  go_enter Try.func128, Try.ntmps128
  go_wp2_with fail
  with_reducible refine (Calls.dB (curat_calls g s _ HG.out.cur)).mono ?_
  rintro e w_ ⟨rfl, hb⟩
  have n0 := Aside0.mk (GD.below (by (with_reducible repeat (first | apply GD.alloc | apply GD.drewN | apply GD.drew)); exact HG.out) hb)
  clear HG hb
  have HG := n0
  clear n0
  clear c0
  go_wp2_with fail
  with_reducible refine (vread2 g (GD.cur (d := d) (w := w) (by (with_reducible repeat (first | apply GD.alloc | apply GD.drewN | apply GD.drew)); exact HG.out)) HR.out).mono ?_
  rintro e w_ ⟨rfl, hc, hg⟩
  have n0 := Aside0.mk (GD.turn (by (with_reducible repeat (first | apply GD.alloc | apply GD.drewN | apply GD.drew)); exact HG.out) hc hg)
  clear HG hc hg
  have HG := n0
  clear n0
  go_wp2_with fail
  with_reducible refine (Calls.dB (curat_calls g s1 _ HG.out.cur)).mono ?_
  rintro e w_ ⟨rfl, hb⟩
  have n0 := Aside0.mk (GD.below (by (with_reducible repeat (first | apply GD.alloc | apply GD.drewN | apply GD.drew)); exact HG.out) hb)
  clear HG hb
  have HG := n0
  clear n0
  obtain ⟨s3, hs3⟩ : ∃ s3, s1.take n = s3 := ⟨_, rfl⟩
  obtain ⟨t, ht⟩ : ∃ t, strOfNums (s1.takeL n) = t := ⟨_, rfl⟩
  have HS3 := Aside0.mk hs3
  have HT := Aside0.mk ht
  have HTS := Aside0.mk (show t.size ≤ 140737488350000 by rw [← ht]; exact str_take_size s1 n h200b)
  have hsane := HSA.out.take n
  rw [hs3] at hsane
  rw [hs3] at E3
  rw [ht] at ET
  have HSA3 := Aside0.mk hsane
  have HM := Aside0.mk (show min (n : Int) 200 = (n : Int) by omega)
  have HBX := Aside0.mk (blk_new w_ (.cells #[.int .i64 s1.pos] 3))
  have NEHBX := Aside0.mk (show w_.heap.size ≠ g by have := HG.out.cur.lt; omega)
  have HPB := Aside0.mk (show s1.pos ≤ 140737488355328 from Nat.le_trans HG.out.cur.le HG.out.cur.big)
  obtain ⟨wB, rfl⟩ : ∃ wB : World, wB = w_ := ⟨_, rfl⟩
  clear hs3 ht hsane
  go_wp2_with fail
  with_reducible refine (curtake_at g s1 n _ HM.out (by omega) _ (GD.cur (d := d) (w := w) (by (with_reducible repeat (first | apply GD.alloc | apply GD.drewN | apply GD.drew)); exact HG.out)) HS3.out HT.out).mono ?_
  rintro e w2 ⟨A3, m3, c3, rfl, hcv, hc, hg⟩
  have n0 := Aside0.mk (GD.turn (by (with_reducible repeat (first | apply GD.alloc | apply GD.drewN | apply GD.drew)); exact HG.out) hc hg)
  have n1 := Aside0.mk ((hg.block _ (blk_lt HBX.out) NEHBX.out).trans HBX.out)
  clear HG hc hg HBX
  have HG := n0
  have HBX := n1
  clear n0 n1
  rcases HSA3.out.cases with ⟨hf1, hf2, hf3⟩ | ⟨hf1, hf2⟩
  ·have HF1 := Aside0.mk hf1
   have HF2 := Aside0.mk hf2
   have HF3 := Aside0.mk hf3
   clear hf1 hf2 hf3
   go_wp2_with fail
   with_reducible refine (curfault_ok g s3 _ HG.out.cur HF2.out HF3.out).mono ?_
   rintro e w_ ⟨rfl, hb⟩
   have n0 := Aside0.mk (GD.below (by (with_reducible repeat (first | apply GD.alloc | apply GD.drewN | apply GD.drew)); exact HG.out) hb)
   have n1 := Aside0.mk (blk_below (by with_reducible repeat (first | exact HBX.out | apply blk_alloc | apply blk_drewN | apply blk_drew)) hb)
   clear HBX
   have HBX := n1
   clear n1
   clear HG hb
   have HG := n0
   clear n0
   clear hcv
   by_cases hbad : 0 ≤ badI (clsB kind) t
   ·have HE := Aside0.mk (show dfresh d.ws s kind first = (ByteArray.empty, s3.fail 14 ((s1.pos : Int) + badI (clsB kind) t), d.ws) by unfold dfresh; rw [E3.out, ET.out, E2.out, if_neg HFU.out, if_neg (by rw [HF1.out]; decide), if_pos hbad])
    have hbt := badI_le (clsB kind) t
    have HNB := Aside0.mk (check_no (ok := ok) 148 _ Try.func148 rfl rfl #[.pointer (some ⟨wB.heap.size, 0, none⟩)] g s3 kind t w_ HK.out (by have := HTS.out; omega) hbad ((s1.pos : Int) + badI (clsB kind) t)
     (fun nd => at2_calls wB.heap.size (s1.pos : Int) (badI (clsB kind) t) (w_.drewN nd) (by omega) hbad (by have := HTS.out; have := HPB.out; omega) (blk_drewN HBX.out nd)) HG.out.cur)
    clear hbt hbad
    go_wp2_with fail
    with_reducible refine (HNB.out).mono ?_
    rintro e w_ ⟨rfl, hc, hg⟩
    have n0 := Aside0.mk (GD.turn (by (with_reducible repeat (first | apply GD.alloc | apply GD.drewN | apply GD.drew)); exact HG.out) hc hg)
    clear HG hc hg
    have HG := n0
    clear n0
    go_wp2
    go_ret
    exact HG.out.post_at HE.out rfl
   ·have hbad2 : badI (clsB kind) t < 0 := by omega
    have HBD := Aside0.mk hbad
    have HNB := Aside0.mk (check_yes (ok := ok) 148 #[.pointer (some ⟨wB.heap.size, 0, none⟩)] g s3 kind t w_ HK.out (by have := HTS.out; omega) hbad2)
    clear hbad hbad2
    go_wp2_with fail
    with_reducible refine (Calls.dB HNB.out).mono ?_
    rintro e w_ ⟨rfl, hb⟩
    have n0 := Aside0.mk (GD.below (by (with_reducible repeat (first | apply GD.alloc | apply GD.drewN | apply GD.drew)); exact HG.out) hb)
    clear HG hb
    have HG := n0
    clear n0
    have c1 := (blk_cell HG.out.dic.blk 1).trans rfl
    have HMP := Aside0.mk HG.out.dic.map
    obtain ⟨kf, hkf⟩ : ∃ kf, findW d.ws t = kf := ⟨_, rfl⟩
    have HP := Aside0.mk (find_pos d.ws t)
    rw [hkf] at HP
    have HKF := Aside0.mk hkf
    clear hkf
    have htsz : t.size ≤ 9223372036854775807 := by have := HTS.out; omega
    by_cases h0 : 0 < kf
    ·have HE := Aside0.mk (show dfresh d.ws s kind first = (ByteArray.empty, s3.fail 21 first, d.ws) by unfold dfresh; rw [E3.out, ET.out, E2.out, if_neg HFU.out, if_neg (by rw [HF1.out]; decide), if_neg (by have := HBD.out; omega), HKF.out, if_pos h0])
     have HB0 := Aside0.mk (decide_eq_true h0)
     clear h0
     go_wp2_with (first | (at_lookup; go_must (refine dic_look rfl _ _ rfl rfl rfl htsz HMP.out HKF.out HB0.out ?_)))
     go_wp2_with fail
     with_reducible refine (curfail_calls g s3 21 first _ HG.out.cur).mono ?_
     rintro e w_ ⟨rfl, hc, hg⟩
     have n0 := Aside0.mk (GD.turn (by (with_reducible repeat (first | apply GD.alloc | apply GD.drewN | apply GD.drew)); exact HG.out) hc hg)
     clear HG hc hg
     have HG := n0
     clear n0
     go_wp2
     go_ret
     exact HG.out.post_at HE.out rfl
    ·have HE := Aside0.mk (show dfresh d.ws s kind first = (t, s3, d.ws ++ [t]) by unfold dfresh; rw [E3.out, ET.out, E2.out, if_neg HFU.out, if_neg (by rw [HF1.out]; decide), if_neg (by have := HBD.out; omega), HKF.out, if_neg h0])
     have HB0 := Aside0.mk (decide_eq_false h0)
     have HNW := Aside0.mk (show t ∉ d.ws from fun e => h0 (HP.out.2 e))
     have HT2 := Aside0.mk (show t.size ≤ 200 by rw [← HT.out]; exact str_take_size2 s1 n h200b)
     clear h0
     go_wp2_with (first | (at_lookup; go_must (refine dic_look rfl _ _ rfl rfl rfl htsz HMP.out HKF.out HB0.out ?_)))
     with_reducible refine (dicadd_calls d t _ HG.out.dic HNW.out HT2.out (by have := HFU.out; omega)).mono ?_
     rintro e w5 ⟨rfl, v', hd', hch, hown⟩
     have HD' := Aside0.mk hd'
     have HCH := Aside0.mk hch
     have HOWN := Aside0.mk hown
     clear hd' hch hown c1
     go_wp2
     go_ret
     rw [HE.out]
     have hsz := HG.out.chg.size
     refine ⟨rfl, HG.out.cur.step HCH.out (fun k hk => HG.out.ap k hk), v', HD'.out, ?_, ?_⟩
     ·exact (HG.out.chg.mono (fun k _ h => Or.inl h)).trans (HCH.out.mono (fun k _ h => Or.inr h)) (fun k h => .inl h)
     ·rcases HOWN.out with h | ⟨k, h1, h2⟩
      ·exact .inl h
      ·exact .inr ⟨k, h1, Nat.le_trans hsz h2⟩
  ·obtain ⟨a, ha⟩ : ∃ a, s3.code = a := ⟨_, rfl⟩
   rw [ha] at hf2
   have HA := Aside0.mk ha
   have HE := Aside0.mk (show dfresh d.ws s kind first = (ByteArray.empty, s3, d.ws) by unfold dfresh; rw [E3.out, if_neg HFU.out, if_pos hf1])
   clear hf1 ha
   go_wp2_with fail
   with_reducible refine (curfault_at g s3 a _ _ HG.out.cur HA.out rfl).mono ?_
   rintro e w_ ⟨rfl, hb⟩
   have n0 := Aside0.mk (GD.below (by (with_reducible repeat (first | apply GD.alloc | apply GD.drewN | apply GD.drew)); exact HG.out) hb)
   clear HG hb
   have HG := n0
   clear n0
   go_wp2
   go_ret
   exact HG.out.post_at HE.out rfl
theorem strB_ne {s t : ByteArray} (h : s ≠ t) : (s.toList == t.toList) = false := by
 refine beq_eq_false_iff_ne.mpr (fun e => h ?_)
 rw [Go.Lib.toList_data, Go.Lib.toList_data] at e
 exact Go.WideShapes.bytes_inj e
theorem str_at {w : World} {A : Option Addr} {n : Nat} {xs : List ByteArray} (h : Kd.string.C w A n xs) (i : Int) (h0 : 0 ≤ i) (h1 : i < n) : ∃ ad, A = some ad ∧ w.cell? (ad.add i.toNat) = some (.string (xs.getD i.toNat ByteArray.empty)) := by
 have hr := Kd.reads_of_C (enc := Value.string) (d := ByteArray.empty) (h1 := fun _ => rfl) h
 obtain ⟨ad, e, hx⟩ := hr.2.2 (by omega)
 exact ⟨ad, e, hx i.toNat (by omega)⟩
def dget (ws : List ByteArray) (s : Cu) (kind : Int) : ByteArray × Cu × List ByteArray :=
 if s.fine = false then (ByteArray.empty, s, ws)
 else if betB kind 1 4 = false then (ByteArray.empty, s.fail 1 s.pos, ws)
 else if s.vread.2.fine = false then (ByteArray.empty, s.vread.2, ws)
 else if s.vread.1 = 0 then dfresh ws s.vread.2 kind s.pos
 else if ws.length < s.vread.1 then (ByteArray.empty, s.vread.2.fail 25 s.pos, ws)
 else if 0 ≤ badI (clsB kind) (ws.getD (s.vread.1 - 1) ByteArray.empty) then (ByteArray.empty, s.vread.2.fail 14 s.pos, ws)
 else (ws.getD (s.vread.1 - 1) ByteArray.empty, s.vread.2, ws)
theorem GetPost.after {ok : Nat → Prop} {g : Nat} {d : Dic} {s : Cu} {r : ByteArray × Cu × List ByteArray} {w W W' : World} {e : Ending} (h : GD ok g d s w W) (hp : GetPost ok g d r W e W') : GetPost ok g d r w e W' := by
 obtain ⟨h1, h2, v, h3, h4, h5⟩ := hp
 refine ⟨h1, h2, v, h3, (h.chg.mono (fun k _ h => Or.inl h)).trans h4 (fun k h => .inl h), h5.imp id ?_⟩
 rintro ⟨k, h6, h7⟩
 exact ⟨k, h6, Nat.le_trans h.chg.size h7⟩
theorem GD.start {ok : Nat → Prop} {g : Nat} {d : Dic} {s : Cu} {w W : World} (h : GD ok g d s w W) : GD ok g d s W W := ⟨h.cur, h.dic, Chg.refl _ _, h.ap⟩
set_option maxHeartbeats 8000000 in
set_option maxRecDepth 100000 in
theorem dicget_calls {ok : Nat → Prop} (d : Dic) (g : Nat) (s : Cu) (kind : Int) (w : World) (h : GD ok g d s w w) (hs : s.sane) :
  Calls Try.prog 100 #[.pointer (some ⟨d.g, 0, none⟩), .pointer (some ⟨g, 0, none⟩), .int .i64 kind] w (GetPost ok g d (dget d.ws s kind) w) := by
 have HG := Aside0.mk h
 have HS := Aside0.mk hs
 have HW := Aside0.mk (blk_new w (.cells #[.int .i64 0, .int .i64 0] 56))
 have NEHW := Aside0.mk (show w.heap.size ≠ g by have := h.cur.lt; omega)
 have hlt := h.cur.lt
 have hdlt := blk_lt h.dic.blk
 clear h
 rcases hs.cases with ⟨hf1, hf2, hf3⟩ | ⟨hf1, hf2⟩
 ·have HF1 := Aside0.mk hf1
  have HF2 := Aside0.mk hf2
  have HF3 := Aside0.mk hf3
  clear hf1 hf2 hf3 hs
  go_enter Try.func100, Try.ntmps100
  go_wp2
  refine start_ (n := 4) (S := fun w' => w'.cell? ⟨w.heap.size, 0, none⟩ = some (.int .i64 0) ∧ w'.cell? ⟨w.heap.size, 1, none⟩ = some (.int .i64 0)) (ds := []) #[false, false, false, false] (by kernel_rfl) rfl rfl ⟨(blk_cell (blk_drew HW.out) 0).trans rfl, (blk_cell (blk_drew HW.out) 1).trans rfl⟩ (fun hHeld => ?_)
  refine pure_ (i := 0) (N := some 14) (v := ?_) (a' := ?_) #[true, false, false, false] rfl rfl (by kernel_rfl) (fun _ _ _ h => h) (Or.inl ⟨by rfl, ?_⟩) ?_ ?_
  rotate_left
  ·intro w'
   go_simp
   with_reducible rfl
  rotate_left
  ·simp only [Act.put, List.setIfInBounds_toArray, List.set_cons_zero, List.set_cons_succ, i64_w, i32_w]
   rfl
  refine take_ (i := 2) (N := some 16) (v := ?_) (a' := ?_) #[true, false, true, false] rfl rfl (by kernel_rfl) (fun _ _ _ h => h) (Or.inl ⟨by rfl, ?_⟩) hHeld ?_ ?_
  rotate_left
  ·rintro w' ⟨s0, s1⟩
   go_simp
   with_reducible rfl
  rotate_left
  ·simp only [Act.put, List.setIfInBounds_toArray, List.set_cons_zero, List.set_cons_succ, i64_w, i32_w]
   rfl
  refine one_ (i := 1) (N := some 15) #[true, true, true, false] rfl rfl (by kernel_rfl) (by decide) (fun K hK => ?_)
  refine goes_ Try.func24 (by kernel_rfl) rfl #[.pointer (some ⟨g, 0, none⟩)] (by rfl) rfl rfl (by first | (simp only [List.map_toArray, List.map_cons, List.map_nil]; done) | (simp only [List.map_toArray, List.map_cons, List.map_nil]; rfl) | simp) ?_
  with_reducible refine (curfault_ok g s _ (GD.cur (d := d) (w := w) (by (with_reducible repeat (first | apply GD.alloc | apply GD.drewN | apply GD.drew)); exact HG.out)) HF2.out HF3.out).mono ?_
  rintro e w3 ⟨rfl, hb⟩
  refine ⟨_, rfl, ?_⟩
  refine hK.out _ _ ⟨(blk_cell (blk_below (blk_drew HW.out) hb) 0).trans rfl, (blk_cell (blk_below (blk_drew HW.out) hb) 1).trans rfl⟩ (fun hHeld => ?_)
  clear hK K
  refine norm_ (a' := ?_) ?_ ?_
  rotate_left
  ·show Act.put _ (some 15) _ = _
   simp only [Act.put, List.setIfInBounds_toArray, List.set_cons_zero, List.set_cons_succ, i64_w, i32_w]
   rfl
  refine pure_ (i := 3) (N := some 17) (v := ?_) (a' := ?_) #[true, true, true, true] rfl rfl (by kernel_rfl) (fun _ _ _ h => h) (Or.inl ⟨by rfl, ?_⟩) ?_ ?_
  rotate_left
  ·intro w'
   go_simp
   with_reducible rfl
  rotate_left
  ·simp only [Act.put, List.setIfInBounds_toArray, List.set_cons_zero, List.set_cons_succ, i64_w, i32_w]
   rfl
  refine done_ (by kernel_rfl) ?_
  have n0 := Aside0.mk (GD.below (by (with_reducible repeat (first | apply GD.alloc | apply GD.drewN | apply GD.drew)); exact HG.out) hb)
  have n1 := Aside0.mk (blk_below (blk_drew HW.out) hb)
  clear HG HW hb
  have HG := n0
  have HW := n1
  clear n0 n1
  go_wp2_with fail
  with_reducible refine (Calls.dB (curat_calls g s _ HG.out.cur)).mono ?_
  rintro e w_ ⟨rfl, hb⟩
  have n0 := Aside0.mk (GD.below (by (with_reducible repeat (first | apply GD.alloc | apply GD.drewN | apply GD.drew)); exact HG.out) hb)
  have n1 := Aside0.mk (blk_below (by with_reducible repeat (first | exact HW.out | apply blk_alloc | apply blk_drewN | apply blk_drew)) hb)
  clear HW
  have HW := n1
  clear n1
  clear HG hb
  have HG := n0
  clear n0
  obtain ⟨w4, rfl⟩ : ∃ w4 : World, w4 = w_ := ⟨_, rfl⟩
  have HX := Aside0.mk (blk_new w4 (.cells #[.int .i64 s.pos] 3))
  have NEHX := Aside0.mk (show w4.heap.size ≠ g by have := HG.out.cur.lt; omega)
  have cx := cell_of_one HX.out
  by_cases hk : betB kind 1 4 = true
  ·have HK := Aside0.mk hk
   clear hk
   obtain ⟨n, hn⟩ : ∃ n, s.vread.1 = n := ⟨_, rfl⟩
   obtain ⟨s1, hs1⟩ : ∃ s1, s.vread.2 = s1 := ⟨_, rfl⟩
   have HN := Aside0.mk hn
   have HS1 := Aside0.mk hs1
   have HR := Aside0.mk (show s.vread = (n, s1) by rw [← hn, ← hs1])
   have hn64 := vread_lt s HG.out.cur.bytes
   have hsane1 := HS.out.vread
   rw [hn] at hn64
   rw [hs1] at hsane1
   have HSA := Aside0.mk hsane1
   clear hn hs1 hsane1
   go_wp2_with fail
   with_reducible refine (count_yes kind _ HK.out).mono ?_
   rintro e w5 ⟨nc, rfl, rfl⟩
   go_wp2_with fail
   with_reducible refine (vread2 g (GD.cur (d := d) (w := w) (by (with_reducible repeat (first | apply GD.alloc | apply GD.drewN | apply GD.drew)); exact HG.out)) HR.out).mono ?_
   rintro e w_ ⟨rfl, hc, hg⟩
   have n0 := Aside0.mk (GD.turn (by (with_reducible repeat (first | apply GD.alloc | apply GD.drewN | apply GD.drew)); exact HG.out) hc hg)
   have n1 := Aside0.mk ((hg.block _ (blk_lt (by with_reducible repeat (first | exact HW.out | apply blk_alloc | apply blk_drewN | apply blk_drew))) NEHW.out).trans (by with_reducible repeat (first | exact HW.out | apply blk_alloc | apply blk_drewN | apply blk_drew)))
   clear HW
   have HW := n1
   clear n1
   have n1 := Aside0.mk ((hg.block _ (blk_lt (by with_reducible repeat (first | exact HX.out | apply blk_alloc | apply blk_drewN | apply blk_drew))) NEHX.out).trans (by with_reducible repeat (first | exact HX.out | apply blk_alloc | apply blk_drewN | apply blk_drew)))
   clear HX
   have HX := n1
   clear n1
   clear HG hc hg
   have HG := n0
   clear n0
   clear cx
   rcases HSA.out.cases with ⟨hf1, hf2, hf3⟩ | ⟨hf1, hf2⟩
   ·have HG1 := Aside0.mk hf1
    have HG2 := Aside0.mk hf2
    have HG3 := Aside0.mk hf3
    clear hf1 hf2 hf3
    go_wp2
    refine start_ (n := 5) (S := fun w' => w'.cell? ⟨w.heap.size, 0, none⟩ = some (.int .i64 0) ∧ w'.cell? ⟨w.heap.size, 1, none⟩ = some (.int .i64 0)) (ds := []) #[false, false, false, false, false] (by kernel_rfl) rfl rfl ⟨(blk_cell (blk_drew HW.out) 0).trans rfl, (blk_cell (blk_drew HW.out) 1).trans rfl⟩ (fun hHeld => ?_)
    refine pure_ (i := 0) (N := some 39) (v := ?_) (a' := ?_) #[true, false, false, false, false] rfl rfl (by kernel_rfl) (fun _ _ _ h => h) (Or.inl ⟨by rfl, ?_⟩) ?_ ?_
    rotate_left
    ·intro w'
     go_simp
     with_reducible rfl
    rotate_left
    ·simp only [Act.put, List.setIfInBounds_toArray, List.set_cons_zero, List.set_cons_succ, i64_w, i32_w]
     rfl
    refine take_ (i := 2) (N := some 41) (v := ?_) (a' := ?_) #[true, false, true, false, false] rfl rfl (by kernel_rfl) (fun _ _ _ h => h) (Or.inl ⟨by rfl, ?_⟩) hHeld ?_ ?_
    rotate_left
    ·rintro w' ⟨s0, s1⟩
     go_simp
     with_reducible rfl
    rotate_left
    ·simp only [Act.put, List.setIfInBounds_toArray, List.set_cons_zero, List.set_cons_succ, i64_w, i32_w]
     rfl
    refine one_ (i := 1) (N := some 40) #[true, true, true, false, false] rfl rfl (by kernel_rfl) (by decide) (fun K hK => ?_)
    refine goes_ Try.func24 (by kernel_rfl) rfl #[.pointer (some ⟨g, 0, none⟩)] (by rfl) rfl rfl (by first | (simp only [List.map_toArray, List.map_cons, List.map_nil]; done) | (simp only [List.map_toArray, List.map_cons, List.map_nil]; rfl) | simp) ?_
    with_reducible refine (curfault_ok g s1 _ (GD.cur (d := d) (w := w) (by (with_reducible repeat (first | apply GD.alloc | apply GD.drewN | apply GD.drew)); exact HG.out)) HG2.out HG3.out).mono ?_
    rintro e w3 ⟨rfl, hb⟩
    refine ⟨_, rfl, ?_⟩
    refine hK.out _ _ ⟨(blk_cell (blk_below (blk_drew HW.out) hb) 0).trans rfl, (blk_cell (blk_below (blk_drew HW.out) hb) 1).trans rfl⟩ (fun hHeld => ?_)
    clear hK K
    refine norm_ (a' := ?_) ?_ ?_
    rotate_left
    ·show Act.put _ (some 40) _ = _
     simp only [Act.put, List.setIfInBounds_toArray, List.set_cons_zero, List.set_cons_succ, i64_w, i32_w]
     rfl
    refine pure_ (i := 3) (N := some 42) (v := ?_) (a' := ?_) #[true, true, true, true, false] rfl rfl (by kernel_rfl) (fun _ _ _ h => h) (Or.inl ⟨by rfl, ?_⟩) ?_ ?_
    rotate_left
    ·intro w'
     go_simp
     with_reducible rfl
    rotate_left
    ·simp only [Act.put, List.setIfInBounds_toArray, List.set_cons_zero, List.set_cons_succ, i64_w, i32_w]
     rfl
    refine pure_ (i := 4) (N := some 38) (v := ?_) (a' := ?_) #[true, true, true, true, true] rfl rfl (by kernel_rfl) (fun _ _ _ h => h) (Or.inl ⟨by rfl, ?_⟩) ?_ ?_
    rotate_left
    ·intro w'
     go_simp
     with_reducible rfl
    rotate_left
    ·simp only [Act.put, List.setIfInBounds_toArray, List.set_cons_zero, List.set_cons_succ, i64_w, i32_w]
     rfl
    refine done_ (by kernel_rfl) ?_
    have n0 := Aside0.mk (GD.below (by (with_reducible repeat (first | apply GD.alloc | apply GD.drewN | apply GD.drew)); exact HG.out) hb)
    have n1 := Aside0.mk (blk_below (blk_drew HX.out) hb)
    clear HG HW HX hb
    have HG := n0
    have HX := n1
    clear n0 n1
    have cx := cell_of_one HX.out
    by_cases hn0 : n = 0
    ·have HE := Aside0.mk (show dget d.ws s kind = dfresh d.ws s1 kind s.pos by unfold dget; rw [if_neg (by rw [HF1.out]; decide), if_neg (by rw [HK.out]; decide), HS1.out, if_neg (by rw [HG1.out]; decide), HN.out, if_pos hn0])
     have bz : ((n : Int) == 0) = true := by simp [hn0]
     clear hn0
     go_wp2_with fail
     with_reducible refine (fresh_calls d g s1 kind s.pos _ HG.out.start HSA.out HK.out).mono ?_
     intro e w7 hpost
     obtain ⟨t, ht⟩ : ∃ t, (dfresh d.ws s1 kind s.pos).1 = t := ⟨_, rfl⟩
     have HP := Aside0.mk (GetPost.after HG.out hpost)
     have hpe := hpost.1
     rw [ht] at hpe
     subst hpe
     clear hpost ht
     go_wp2
     go_ret
     rw [HE.out]
     exact HP.out
    ·have bz : ((n : Int) == 0) = false := by simp [hn0]
     obtain ⟨A, c, hv, hc, hC⟩ := HG.out.dic.slice
     have HV := Aside0.mk hv
     have HC := Aside0.mk hC
     have c0 := (blk_cell HG.out.dic.blk 0).trans rfl
     rw [hv] at c0
     have hlen := HG.out.dic.few
     have hlu : IntKind.u64.wrap (d.ws.length : Int) = (d.ws.length : Int) := wrap_u64_nat (by omega)
     have HN0 := Aside0.mk hn0
     clear hv hC
     by_cases hgt : d.ws.length < n
     ·have bg : decide (d.ws.length < n) = true := decide_eq_true hgt
      have HE := Aside0.mk (show dget d.ws s kind = (ByteArray.empty, s1.fail 25 s.pos, d.ws) by unfold dget; rw [if_neg (by rw [HF1.out]; decide), if_neg (by rw [HK.out]; decide), HS1.out, if_neg (by rw [HG1.out]; decide), HN.out, if_neg hn0, if_pos hgt])
      clear hgt hn0
      go_wp2_with fail
      with_reducible refine (curfail_calls g s1 25 s.pos _ (GD.cur (d := d) (w := w) (by (with_reducible repeat (first | apply GD.alloc | apply GD.drewN | apply GD.drew)); exact HG.out))).mono ?_
      rintro e w_ ⟨rfl, hc, hg⟩
      have n0 := Aside0.mk (GD.turn (by (with_reducible repeat (first | apply GD.alloc | apply GD.drewN | apply GD.drew)); exact HG.out) hc hg)
      clear HG hc hg
      have HG := n0
      clear n0
      go_wp2
      go_ret
      exact HG.out.post_at HE.out rfl
     ·have bg : decide (d.ws.length < n) = false := decide_eq_false hgt
      have hle : n ≤ d.ws.length := by omega
      have HGT := Aside0.mk hgt
      obtain ⟨ad, e, hx⟩ := str_at HC.out ((n : Int) - 1) (by omega) (by omega)
      cases e
      rw [show ((n : Int) - 1).toNat = n - 1 by omega] at hx
      obtain ⟨t, ht⟩ : ∃ t, d.ws.getD (n - 1) ByteArray.empty = t := ⟨_, rfl⟩
      rw [ht] at hx
      have HT := Aside0.mk ht
      have HX2 := Aside0.mk hx
      have hwi : IntKind.u64.wrap ((n : Int) - 1) = (n : Int) - 1 := IntWalk.u64_in _ (by omega)
      have hix : ((n : Int) - 1).toNat = n - 1 := by omega
      have hi0 : 0 ≤ (n : Int) - 1 := by omega
      have hi1 : (n : Int) - 1 < (d.ws.length : Int) := by omega
      clear ht hn0 hgt
      have HTS := Aside0.mk (show t.size ≤ 200 by
       have hm : t ∈ d.ws := by
        rw [← HT.out, List.getD_eq_getElem?_getD, List.getElem?_eq_getElem (by have := HGT.out; have := HN0.out; omega)]
        exact List.getElem_mem _
       exact HG.out.dic.short t hm)
      by_cases hbad : 0 ≤ badI (clsB kind) t
      ·have HE := Aside0.mk (show dget d.ws s kind = (ByteArray.empty, s1.fail 14 s.pos, d.ws) by unfold dget; rw [if_neg (by rw [HF1.out]; decide), if_neg (by rw [HK.out]; decide), HS1.out, if_neg (by rw [HG1.out]; decide), HN.out, if_neg HN0.out, if_neg (by have := HGT.out; omega), HT.out, if_pos hbad])
       have HNB := Aside0.mk (check_no (ok := ok) 130 _ Try.func130 rfl rfl #[.pointer (some ⟨w4.heap.size, 0, none⟩)] g s1 kind t w3 HK.out (by have := HTS.out; omega) hbad (s.pos : Int)
        (fun nd => at1_calls w4.heap.size (s.pos : Int) (badI (clsB kind) t) (w3.drewN nd) (blk_drewN HX.out nd)) HG.out.cur)
       clear hbad
       go_wp2_with fail
       with_reducible refine (HNB.out).mono ?_
       rintro e w_ ⟨rfl, hc, hg⟩
       have n0 := Aside0.mk (GD.turn (by (with_reducible repeat (first | apply GD.alloc | apply GD.drewN | apply GD.drew)); exact HG.out) hc hg)
       clear HG hc hg
       have HG := n0
       clear n0
       go_wp2
       go_ret
       exact HG.out.post_at HE.out rfl
      ·have hbad2 : badI (clsB kind) t < 0 := by omega
       have HE := Aside0.mk (show dget d.ws s kind = (t, s1, d.ws) by unfold dget; rw [if_neg (by rw [HF1.out]; decide), if_neg (by rw [HK.out]; decide), HS1.out, if_neg (by rw [HG1.out]; decide), HN.out, if_neg HN0.out, if_neg (by have := HGT.out; omega), HT.out, if_neg hbad])
       have HNB := Aside0.mk (check_yes (ok := ok) 130 #[.pointer (some ⟨w4.heap.size, 0, none⟩)] g s1 kind t w3 HK.out (by have := HTS.out; omega) hbad2)
       clear hbad hbad2
       go_wp2_with fail
       with_reducible refine (Calls.dB HNB.out).mono ?_
       rintro e w_ ⟨rfl, hb⟩
       have n0 := Aside0.mk (GD.below (by (with_reducible repeat (first | apply GD.alloc | apply GD.drewN | apply GD.drew)); exact HG.out) hb)
       clear HG hb
       have HG := n0
       clear n0
       go_wp2
       go_ret
       exact HG.out.post_at HE.out rfl
   ·obtain ⟨a, ha⟩ : ∃ a, s1.code = a := ⟨_, rfl⟩
    rw [ha] at hf2
    have HA := Aside0.mk ha
    have HE := Aside0.mk (show dget d.ws s kind = (ByteArray.empty, s1, d.ws) by unfold dget; rw [if_neg (by rw [HF1.out]; decide), if_neg (by rw [HK.out]; decide), HS1.out, if_pos hf1])
    clear hf1 ha
    go_wp2
    refine start_ (n := 5) (S := fun w' => w'.cell? ⟨w.heap.size, 0, none⟩ = some (.int .i64 0) ∧ w'.cell? ⟨w.heap.size, 1, none⟩ = some (.int .i64 0)) (ds := []) #[false, false, false, false, false] (by kernel_rfl) rfl rfl ⟨(blk_cell (blk_drew HW.out) 0).trans rfl, (blk_cell (blk_drew HW.out) 1).trans rfl⟩ (fun hHeld => ?_)
    refine pure_ (i := 0) (N := some 39) (v := ?_) (a' := ?_) #[true, false, false, false, false] rfl rfl (by kernel_rfl) (fun _ _ _ h => h) (Or.inl ⟨by rfl, ?_⟩) ?_ ?_
    rotate_left
    ·intro w'
     go_simp
     with_reducible rfl
    rotate_left
    ·simp only [Act.put, List.setIfInBounds_toArray, List.set_cons_zero, List.set_cons_succ, i64_w, i32_w]
     rfl
    refine take_ (i := 2) (N := some 41) (v := ?_) (a' := ?_) #[true, false, true, false, false] rfl rfl (by kernel_rfl) (fun _ _ _ h => h) (Or.inl ⟨by rfl, ?_⟩) hHeld ?_ ?_
    rotate_left
    ·rintro w' ⟨s0, s1⟩
     go_simp
     with_reducible rfl
    rotate_left
    ·simp only [Act.put, List.setIfInBounds_toArray, List.set_cons_zero, List.set_cons_succ, i64_w, i32_w]
     rfl
    refine one_ (i := 1) (N := some 40) #[true, true, true, false, false] rfl rfl (by kernel_rfl) (by decide) (fun K hK => ?_)
    refine goes_ Try.func24 (by kernel_rfl) rfl #[.pointer (some ⟨g, 0, none⟩)] (by rfl) rfl rfl (by first | (simp only [List.map_toArray, List.map_cons, List.map_nil]; done) | (simp only [List.map_toArray, List.map_cons, List.map_nil]; rfl) | simp) ?_
    with_reducible refine (curfault_at g s1 a _ _ (GD.cur (d := d) (w := w) (by (with_reducible repeat (first | apply GD.alloc | apply GD.drewN | apply GD.drew)); exact HG.out)) HA.out rfl).mono ?_
    rintro e w3 ⟨rfl, hb⟩
    refine ⟨_, rfl, ?_⟩
    refine hK.out _ _ ⟨(blk_cell (blk_below (blk_drew HW.out) hb) 0).trans rfl, (blk_cell (blk_below (blk_drew HW.out) hb) 1).trans rfl⟩ (fun hHeld => ?_)
    clear hK K
    refine norm_ (a' := ?_) ?_ ?_
    rotate_left
    ·show Act.put _ (some 40) _ = _
     simp only [Act.put, List.setIfInBounds_toArray, List.set_cons_zero, List.set_cons_succ, i64_w, i32_w]
     rfl
    refine pure_ (i := 3) (N := some 42) (v := ?_) (a' := ?_) #[true, true, true, true, false] rfl rfl (by kernel_rfl) (fun _ _ _ h => h) (Or.inl ⟨by rfl, ?_⟩) ?_ ?_
    rotate_left
    ·intro w'
     go_simp
     with_reducible rfl
    rotate_left
    ·simp only [Act.put, List.setIfInBounds_toArray, List.set_cons_zero, List.set_cons_succ, i64_w, i32_w]
     rfl
    refine pure_ (i := 4) (N := some 38) (v := ?_) (a' := ?_) #[true, true, true, true, true] rfl rfl (by kernel_rfl) (fun _ _ _ h => h) (Or.inl ⟨by rfl, ?_⟩) ?_ ?_
    rotate_left
    ·intro w'
     go_simp
     with_reducible rfl
    rotate_left
    ·simp only [Act.put, List.setIfInBounds_toArray, List.set_cons_zero, List.set_cons_succ, i64_w, i32_w]
     rfl
    refine done_ (by kernel_rfl) ?_
    have n0 := Aside0.mk (GD.below (by (with_reducible repeat (first | apply GD.alloc | apply GD.drewN | apply GD.drew)); exact HG.out) hb)
    go_wp2
    go_ret
    exact n0.out.post_at HE.out rfl
  ·have HK := Aside0.mk (show betB kind 1 4 = false by simpa using hk)
   have HE := Aside0.mk (show dget d.ws s kind = (ByteArray.empty, s.fail 1 s.pos, d.ws) by unfold dget; rw [if_neg (by rw [HF1.out]; decide), if_pos HK.out])
   clear hk
   go_wp2_with fail
   with_reducible refine Calls.stepEq (count_no kind _ HK.out) ?_
   go_wp2_with fail
   with_reducible refine (curfail_calls g s 1 s.pos _ (GD.cur (d := d) (w := w) (by (with_reducible repeat (first | apply GD.alloc | apply GD.drewN | apply GD.drew)); exact HG.out))).mono ?_
   rintro e w_ ⟨rfl, hc, hg⟩
   have n0 := Aside0.mk (GD.turn (by (with_reducible repeat (first | apply GD.alloc | apply GD.drewN | apply GD.drew)); exact HG.out) hc hg)
   clear HG hc hg
   have HG := n0
   clear n0
   go_wp2
   go_ret
   exact HG.out.post_at HE.out rfl
 ·obtain ⟨a, ha⟩ : ∃ a, s.code = a := ⟨_, rfl⟩
  rw [ha] at hf2
  have HA := Aside0.mk ha
  have HE := Aside0.mk (show dget d.ws s kind = (ByteArray.empty, s, d.ws) by unfold dget; rw [if_pos hf1])
  clear hf1 ha hs
  go_enter Try.func100, Try.ntmps100
  go_wp2
  refine start_ (n := 4) (S := fun w' => w'.cell? ⟨w.heap.size, 0, none⟩ = some (.int .i64 0) ∧ w'.cell? ⟨w.heap.size, 1, none⟩ = some (.int .i64 0)) (ds := []) #[false, false, false, false] (by kernel_rfl) rfl rfl ⟨(blk_cell (blk_drew HW.out) 0).trans rfl, (blk_cell (blk_drew HW.out) 1).trans rfl⟩ (fun hHeld => ?_)
  refine pure_ (i := 0) (N := some 14) (v := ?_) (a' := ?_) #[true, false, false, false] rfl rfl (by kernel_rfl) (fun _ _ _ h => h) (Or.inl ⟨by rfl, ?_⟩) ?_ ?_
  rotate_left
  ·intro w'
   go_simp
   with_reducible rfl
  rotate_left
  ·simp only [Act.put, List.setIfInBounds_toArray, List.set_cons_zero, List.set_cons_succ, i64_w, i32_w]
   rfl
  refine take_ (i := 2) (N := some 16) (v := ?_) (a' := ?_) #[true, false, true, false] rfl rfl (by kernel_rfl) (fun _ _ _ h => h) (Or.inl ⟨by rfl, ?_⟩) hHeld ?_ ?_
  rotate_left
  ·rintro w' ⟨s0, s1⟩
   go_simp
   with_reducible rfl
  rotate_left
  ·simp only [Act.put, List.setIfInBounds_toArray, List.set_cons_zero, List.set_cons_succ, i64_w, i32_w]
   rfl
  refine one_ (i := 1) (N := some 15) #[true, true, true, false] rfl rfl (by kernel_rfl) (by decide) (fun K hK => ?_)
  refine goes_ Try.func24 (by kernel_rfl) rfl #[.pointer (some ⟨g, 0, none⟩)] (by rfl) rfl rfl (by first | (simp only [List.map_toArray, List.map_cons, List.map_nil]; done) | (simp only [List.map_toArray, List.map_cons, List.map_nil]; rfl) | simp) ?_
  with_reducible refine (curfault_at g s a _ _ (GD.cur (d := d) (w := w) (by (with_reducible repeat (first | apply GD.alloc | apply GD.drewN | apply GD.drew)); exact HG.out)) HA.out rfl).mono ?_
  rintro e w3 ⟨rfl, hb⟩
  refine ⟨_, rfl, ?_⟩
  refine hK.out _ _ ⟨(blk_cell (blk_below (blk_drew HW.out) hb) 0).trans rfl, (blk_cell (blk_below (blk_drew HW.out) hb) 1).trans rfl⟩ (fun hHeld => ?_)
  clear hK K
  refine norm_ (a' := ?_) ?_ ?_
  rotate_left
  ·show Act.put _ (some 15) _ = _
   simp only [Act.put, List.setIfInBounds_toArray, List.set_cons_zero, List.set_cons_succ, i64_w, i32_w]
   rfl
  refine pure_ (i := 3) (N := some 17) (v := ?_) (a' := ?_) #[true, true, true, true] rfl rfl (by kernel_rfl) (fun _ _ _ h => h) (Or.inl ⟨by rfl, ?_⟩) ?_ ?_
  rotate_left
  ·intro w'
   go_simp
   with_reducible rfl
  rotate_left
  ·simp only [Act.put, List.setIfInBounds_toArray, List.set_cons_zero, List.set_cons_succ, i64_w, i32_w]
   rfl
  refine done_ (by kernel_rfl) ?_
  have n0 := Aside0.mk (GD.below (by (with_reducible repeat (first | apply GD.alloc | apply GD.drewN | apply GD.drew)); exact HG.out) hb)
  go_wp2
  go_ret
  exact n0.out.post_at HE.out rfl
end Go.Proofs.Ytclbmdblalgdjaa
