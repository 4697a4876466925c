/- Words that are put are got: plain lists; no condition. -/
import Derived.Test.YtclbmdblalgdjaaZLPutsW
import Derived.Test.YtclbmdblalgdjaaZLPlRows
import Derived.Test.YtclbmdblalgdjaaZLVar
import Derived.Test.YtclbmdblalgdjaaZLDictGet
import Derived.Test.YtclbmdblalgdjaaZLLawDec
import Derived.Test.YtclbmdblalgdjaaZLLaw15B
import Derived.Test.YtclbmdblalgdjaaZLPEx0
import Derived.Test.YtclbmdblalgdjaaZLPEx5
import Derived.Test.YtclbmdblalgdjaaZLPEx7
import Derived.Test.YtclbmdblalgdjaaZLPlVar
import Derived.Laws.EntriesVeiled
namespace Go.Proofs.Ytclbmdblalgdjaa
open Go.RowKit Go.Proofs.YtclbmdblalgdjaaW.PrintWords
set_option linter.unusedVariables false
theorem find_none {ws : List ByteArray} {s : ByteArray} (h : s ∉ ws) : findW ws s = 0 := by
 have := find_pos ws s
 apply Classical.byContradiction
 intro hn
 exact h (this.1 (by omega))
theorem dput_old {ws : List ByteArray} {s : ByteArray} (h : s ∈ ws) : dput ws s = (vput (findW ws s), 0, ws) := by
 unfold dput
 rw [if_pos ((find_pos _ _).2 h)]
theorem dput_fresh {ws : List ByteArray} {s : ByteArray} (h : s ∉ ws) (hs : s.size ≤ 200) (hl : ws.length < 65536) : dput ws s = (vput 0 ++ vput s.size ++ bytesOf s, 0, ws ++ [s]) := by
 unfold dput
 rw [find_none h, if_neg (by omega), if_neg (by omega)]
theorem dput_long {ws : List ByteArray} {s : ByteArray} (h : s ∉ ws) (hs : 200 < s.size) : dput ws s = ([], 12, ws) := by
 unfold dput
 rw [find_none h, if_neg (by omega), if_pos (.inl hs)]
theorem dput_ok {ws : List ByteArray} {s : ByteArray} (hs : s.size ≤ 200) (hl : ws.length < 65536) : (dput ws s).2.1 = 0 := by
 by_cases h : s ∈ ws
 ·rw [dput_old h]
 ·rw [dput_fresh h hs hl]
def bytesP (ws : List ByteArray) : List ByteArray → List Int
 | [] => []
 | s :: t => (dput ws s).1 ++ bytesP (dput ws s).2.2 t
theorem dput_len1 (ws : List ByteArray) (s : ByteArray) (hl : ws.length < 65536) : (dput ws s).1.length ≤ 220 := by
 by_cases h : s ∈ ws
 ·rw [dput_old h]
  have := vput_len10 (findW ws s) (by have := find_le ws s; omega)
  show (vput (findW ws s)).length ≤ 220
  omega
 ·by_cases h2 : s.size ≤ 200
  ·rw [dput_fresh h h2 hl]
   have h3 := vput_len10 s.size (by omega)
   show (vput 0 ++ vput s.size ++ bytesOf s).length ≤ 220
   rw [List.length_append, List.length_append, bytesOf_length, vput_lt (by decide)]
   simp only [List.length_cons, List.length_nil]
   omega
  ·rw [dput_long h (by omega)]
   show 0 ≤ 220
   omega
end Go.Proofs.Ytclbmdblalgdjaa
/- forebayref02.Put: what it tells; no condition. -/
namespace Go.Proofs.Ytclbmdblalgdjaa
open Go.RowKit Go.Proofs.YtclbmdblalgdjaaW.PrintWords Go.Proofs.YtclbmdblalgdjaaW.PrintLast Go.Proofs.YtclbmdblalgdjaaW.PrintMore
set_option linter.unusedVariables false
set_option maxHeartbeats 1000000 in
set_option maxRecDepth 100000 in
theorem refput_calls (n : Nat) (hn : n < 18446744073709551616) (w : World) :
  Calls Try.prog 46 #[.int .u64 n] w fun e w' => ∃ v, e = .returned v ∧ (Kd.int .u8).R 5 w' w.heap.size (fun _ => True) v (vput n) ∧ Below w.heap.size w w' := by
 have HN := Aside0.mk hn
 clear hn
 have HB := Aside0.mk (Below.refl w.heap.size w)
 go_enter Try.func46, Try.ntmps46
 go_wp2
 go_loopw [0, 3] (fun v0 v3 w' => ∃ (m : Nat) (done : List Int), v0 = .int .u64 m ∧ Aside0 (m < 18446744073709551616) ∧ Aside0 (done ++ vput m = vput n) ∧ Aside0 ((Kd.int .u8).R 5 w' w.heap.size (fun _ => True) v3 done) ∧ Aside0 (Below w.heap.size w w')) (fun v0 _ _ => (intOf v0).toNat)
 case atStart => exact ⟨n, [], rfl, HN, ⟨rfl⟩, ⟨R_lit_u8 5 (Nat.le_refl _) [] (by simp)⟩, ⟨below_alloc (Below.refl _ _) _⟩⟩
 case round =>
  obtain ⟨m, done, rfl, HM, HD, HV, HB⟩ := hrel
  have HL := Aside0.mk (vput_done HD.out HN.out)
  have HW := Aside0.mk (wrap_u64_div128 HM.out)
  by_cases hlt : m < 128
  ·have hlt2 : ¬ 127 < (m : Int) := by omega
   go_wp2_with (first | ((with_reducible refine gate_dst (N := 20) rfl ?_); at_builtin; go_must (refine R_app_u8 rfl rfl rfl rfl uB iB HV HB HL ?_); intro v1 w1 ho hb; clear HB HV; have HB := hb; have HV := ho; clear ho hb))
   go_ret
   refine ⟨_, rfl, ?_, HB.out⟩
   have e : done ++ [(m : Int)] = vput n := by rw [← HD.out, vput_lt hlt]
   rw [← e]
   exact HV.out
  ·have hlt2 : 127 < (m : Int) := by omega
   go_wp2_with (first | ((with_reducible refine gate_dst (N := 13) rfl ?_); at_builtin; go_must (refine R_app_u8 rfl rfl rfl rfl uB iB HV HB HL ?_); intro v1 w1 ho hb; clear HB HV; have HB := hb; have HV := ho; clear ho hb))
   go_roundw
   case rel => 
    exact ⟨m / 128, done ++ [_], by rw [HW.out], ⟨by have := HM.out; omega⟩, ⟨vput_round2 HD.out hlt⟩, HV, HB⟩
   case measure => have h := HW.out; simp [intOf]; omega
end Go.Proofs.Ytclbmdblalgdjaa
/- forebayref02.Get: what it tells; no condition. -/
namespace Go.Proofs.Ytclbmdblalgdjaa
open Go.RowKit Go.Proofs.YtclbmdblalgdjaaW.PrintWords Go.Proofs.YtclbmdblalgdjaaW.PrintLast Go.Proofs.YtclbmdblalgdjaaW.PrintMore
set_option linter.unusedVariables false
set_option maxHeartbeats 2000000 in
set_option maxRecDepth 100000 in
theorem refget_calls (A : Option Addr) (c : Nat) (l : List Int) (w : World) (hC : (Kd.int .u8).C w A l.length l) (hl : ∀ x ∈ l, 0 ≤ x ∧ x < 256) :
  Calls Try.prog 95 #[.slice A l.length c] w fun e w' => e = .returned (.tuple #[.int .u64 ((vrd l 0 0).1 : Nat), .int .i64 ((vrd l 0 0).2.1 : Nat), .int .i64 (vrd l 0 0).2.2]) ∧ Drawn0 w w' := by
 have HR0 := Aside0.mk hC
 have HL := Aside0.mk hl
 have hm0 : l.length ≤ 9223372036854775807 := hC.2.1
 clear hC hl
 go_enter Try.func95, Try.ntmps95
 go_wp2
 go_loopw [5, 6, 7] (fun v5 v6 v7 w' => ∃ (i n p : Nat), v5 = .int .u64 n ∧ v6 = .int .u64 p ∧ v7 = .int .i64 i ∧ Aside0 (vrd (l.drop i) i n = vrd l 0 0) ∧ i ≤ l.length ∧ Aside0 (n < 128^i) ∧ Aside0 (p = 128 ^ i) ∧ i ≤ 9 ∧ Drawn0 w w') (fun _ _ v7 _ => l.length - (intOf v7).toNat)
 case atStart => exact ⟨0, 0, 1, rfl, rfl, rfl, ⟨rfl⟩, Nat.zero_le _, ⟨by decide⟩, ⟨rfl⟩, by omega, by repeat (first | exact Drawn0.refl _ | apply Drawn0.step)⟩
 case round =>
  obtain ⟨i, n, p, rfl, rfl, rfl, HD, hi, HN, HP, hi9, ⟨m1, rfl⟩⟩ := hrel
  by_cases hlt : i < l.length
  ·obtain ⟨b, hbe⟩ : ∃ b : Int, b = l.getD i 0 := ⟨_, rfl⟩
   obtain ⟨hb0, hb1⟩ : 0 ≤ b ∧ b < 256 := by
    rw [hbe, List.getD_eq_getElem?_getD, List.getElem?_eq_getElem hlt]
    exact HL.out _ (List.getElem_mem hlt)
   have HV := Aside0.mk (vrd_at (n := n) hlt hbe)
   obtain ⟨ad, e, hx⟩ := Kd.at_int HR0.out (i : Int) (by omega) (by omega)
   cases e
   rw [← getD_rd, ← hbe, Int.toNat_natCast] at hx
   clear hbe
   by_cases h9 : i = 9 ∧ 1 < b
   ·have hd : vrd l 0 0 = (0, i + 1, 10) := by rw [← HD.out, HV.out, if_pos h9]
    have HD2 := Aside0.mk hd
    clear hd HD HV
    obtain ⟨h9, hb9⟩ := h9
    have h9b : ((i : Int) == 9) = true := by simp; omega
    have H9 := Aside0.mk h9
    clear h9
    go_wp2
    repeat (go_quiet (fail); try go_wp2)
    go_ret3
    exact ⟨by rw [HD2.out]; rfl, by repeat (first | exact Drawn0.refl _ | apply Drawn0.step)⟩
   ·have hd : vrd l 0 0 = (if b < 128 then (if b = 0 ∧ 0 < i then (0, i + 1, 21) else (n + b.toNat % 128 * 128 ^ i, i + 1, 0)) else vrd (l.drop (i + 1)) (i + 1) (n + b.toNat % 128 * 128 ^ i)) := by rw [← HD.out, HV.out, if_neg h9]
    have HVS := Aside0.mk (vref_step (p := p) HN.out HP.out hi9 hb0 hb1 (fun e => by omega))
    have HVB := Aside0.mk (vor_bound b.toNat HN.out)
    have HD2 := Aside0.mk hd
    clear hd HD HV
    have H9 := Aside0.mk h9
    clear h9
    have hi10 : ((i : Int) == 9) = true ∧ ¬ 1 < b ∨ ((i : Int) == 9) = false := by
     by_cases e : i = 9
     ·exact .inl ⟨by simp; omega, fun h => H9.out ⟨e, h⟩⟩
     ·exact .inr (by simp; omega)
    by_cases h128 : b < 128
    ·have hd : vrd l 0 0 = (if b = 0 ∧ 0 < i then (0, i + 1, 21) else (n + b.toNat % 128 * 128 ^ i, i + 1, 0)) := by rw [HD2.out, if_pos h128]
     have HD3 := Aside0.mk hd
     clear hd HD2
     by_cases hz : b = 0 ∧ 0 < i
     ·have hd : vrd l 0 0 = (0, i + 1, 21) := by rw [HD3.out, if_pos hz]
      have HD4 := Aside0.mk hd
      clear hd HD3
      obtain ⟨hz1, hz2⟩ := hz
      have hz3 : (b == 0) = true := by simp [hz1]
      have HZ := Aside0.mk hz1
      clear hz1
      rcases hi10 with ⟨hi10, hb2⟩ | hi10
      all_goals
       go_wp2
       repeat (go_quiet (fail); try go_wp2)
       go_ret3
       exact ⟨by rw [HD4.out]; rfl, by repeat (first | exact Drawn0.refl _ | apply Drawn0.step)⟩
     ·have hd : vrd l 0 0 = (n + b.toNat % 128 * 128 ^ i, i + 1, 0) := by rw [HD3.out, if_neg hz]
      have HD4 := Aside0.mk hd
      clear hd HD3
      have hz3 : (b == 0) = true ∧ ¬ 0 < (i : Int) ∨ (b == 0) = false := by
       by_cases e : b = 0
       ·exact .inl ⟨by simp [e], fun h => hz ⟨e, by omega⟩⟩
       ·exact .inr (by simp [e])
      have HZ := Aside0.mk hz
      clear hz
      rcases hi10 with ⟨hi10, hb2⟩ | hi10
      all_goals rcases hz3 with ⟨hz3, hz4⟩ | hz3
      all_goals
       go_wp2
       repeat (go_quiet (fail); try go_wp2)
       go_ret3
       exact ⟨by rw [HD4.out, HVS.out]; rfl, by repeat (first | exact Drawn0.refl _ | apply Drawn0.step)⟩
    ·have hd : vrd l 0 0 = vrd (l.drop (i + 1)) (i + 1) (n + b.toNat % 128 * 128 ^ i) := by rw [HD2.out, if_neg h128]
     have HD3 := Aside0.mk hd
     clear hd HD2
     have h9 : i < 9 := by
      by_cases e : i = 9
      ·exact absurd ⟨e, by omega⟩ H9.out
      ·omega
     have HPS := Aside0.mk (vref_pow HP.out h9)
     have h9b : ((i : Int) == 9) = false := by simp; omega
     clear hi10
     go_wp2
     repeat (go_quiet (fail); try go_wp2)
     go_roundw
     case rel => exact ⟨i + 1, n + b.toNat % 128 * 128 ^ i, 128 ^ (i + 1), by rw [← HVS.out], by rw [← HPS.out], by go_num, ⟨HD3.out.symm⟩, by omega, ⟨HVB.out⟩, ⟨rfl⟩, by omega, by repeat (first | exact Drawn0.refl _ | apply Drawn0.step)⟩
     case measure => simp [intOf]; omega
  ·have hd : vrd l 0 0 = (0, i, 13) := by rw [← HD.out, vrd_end l i n (by omega)]
   have HD2 := Aside0.mk hd
   clear hd HD
   have he : l.length = i := by omega
   have HE := Aside0.mk he
   clear he
   go_wp2
   repeat (go_quiet (fail); try go_wp2)
   go_ret3
   exact ⟨by rw [HD2.out, ← HE.out]; rfl, by repeat (first | exact Drawn0.refl _ | apply Drawn0.step)⟩
theorem refget_n (A : Option Addr) (n c : Nat) (l : List Int) (w : World) (hC : (Kd.int .u8).C w A n l) (hl : ∀ x ∈ l, 0 ≤ x ∧ x < 256) :
  Calls Try.prog 95 #[.slice A n c] w fun e w' => e = .returned (.tuple #[.int .u64 ((vrd l 0 0).1 : Nat), .int .i64 ((vrd l 0 0).2.1 : Nat), .int .i64 (vrd l 0 0).2.2]) ∧ Drawn0 w w' := by
 obtain rfl := hC.1
 exact refget_calls A c l w hC hl
end Go.Proofs.Ytclbmdblalgdjaa
/- The document's dictionary: Find and Put: what they tell and turn; no condition. -/
namespace Go.Proofs.Ytclbmdblalgdjaa
open Go.RowKit Go.Proofs.YtclbmdblalgdjaaW.PrintWords Go.Proofs.YtclbmdblalgdjaaW.PrintLast Go.Proofs.YtclbmdblalgdjaaW.PrintMore
set_option linter.unusedVariables false
set_option linter.unusedSimpArgs false
structure RDic where
 g : Nat
 v : Value
 ws : List ByteArray
section
variable {d : RDic} {w w' : World} {S : Nat → Prop}
end
end Go.Proofs.Ytclbmdblalgdjaa
/- The document's Cur: Fail, Take; and the document's Number; no condition. -/
namespace Go.Proofs.Ytclbmdblalgdjaa
open Go.RowKit Go.Proofs.YtclbmdblalgdjaaW.PrintWords Go.Proofs.YtclbmdblalgdjaaW.PrintLast Go.Proofs.YtclbmdblalgdjaaW.PrintMore
set_option linter.unusedVariables false
set_option linter.unusedSimpArgs false
theorem C_belowB {k : IntKind} {w w' : World} {A : Option Addr} {n B : Nat} {xs : List Int} (h : (Kd.int k).C w A n xs) (hA : ∀ ad, A = some ad → 0 < n → ad.block < B) (hb : Below B w w') : (Kd.int k).C w' A n xs := by
 obtain ⟨h1, h2, h3⟩ := h
 refine ⟨h1, h2, fun hn => ?_⟩
 obtain ⟨ad, e, hc⟩ := h3 hn
 refine ⟨ad, e, fun j p hj => ?_⟩
 obtain ⟨cs, hl, hK, hcs⟩ := hc j p hj
 refine ⟨cs, hl, hK, fun i u hi => ?_⟩
 have h4 := hcs i u hi
 rw [Below.cell (p := ad.add (j * (Kd.int k).sz + i)) hb (by rw [add_block]; exact hA ad e hn)]
 exact h4
structure RCuAt (B g : Nat) (s : Cu) (w : World) : Prop where
 blk : w.heap[g]? = some (.cells #[.slice s.A s.b.length s.c, .int .i64 s.pos, .int .i64 s.code, .int .i64 s.fat] 58 (0, 0))
 read : (Kd.int .u8).C w s.A s.b.length s.b
 low : ∀ ad, s.A = some ad → 0 < s.b.length → ad.block < B
 up : B ≤ g
 cap : s.b.length ≤ s.c
 le : s.pos ≤ s.b.length
 big : s.b.length ≤ 140737488355328
 bytes : ∀ x ∈ s.b, 0 ≤ x ∧ x < 256
section
variable {B g : Nat} {s s' : Cu} {w w' : World} {S : Nat → Prop}
theorem Chg.belowB (hc : Chg S w w') (hs : ∀ k, S k → B ≤ k) (hB : B ≤ w.heap.size) : Below B w w' := hc.to_below hs hB
theorem RCuAt.step (h : RCuAt B g s w) (hc : Chg S w w') (hs : ∀ k, S k → B ≤ k) (hg : ¬ S g) : RCuAt B g s w' where
 blk := (hc.block _ (blk_lt h.blk) hg).trans h.blk
 read := C_belowB h.read h.low (hc.belowB hs (Nat.le_trans h.up (Nat.le_of_lt (blk_lt h.blk))))
 low := h.low
 up := h.up
 cap := h.cap
 le := h.le
 big := h.big
 bytes := h.bytes
theorem RCuAt.below (h : RCuAt B g s w) (hb : Below w.heap.size w w') : RCuAt B g s w' := h.step (Chg.of_below hb (fun _ => False)) (fun _ h => h.elim) (fun h => h)
theorem RCuAt.drewN (h : RCuAt B g s w) (n : Nat) : RCuAt B g s (w.drewN n) := h.below (pw_below_drewN (Below.refl _ _) n)
theorem RCuAt.drew (h : RCuAt B g s w) : RCuAt B g s w.drew := h.below (below_drew1 (Below.refl _ _))
theorem RCuAt.lt (h : RCuAt B g s w) : g < w.heap.size := blk_lt h.blk
theorem RCuAt.put (h : RCuAt B g s w) (hg : w'.heap[g]? = some (.cells #[.slice s'.A s'.b.length s'.c, .int .i64 s'.pos, .int .i64 s'.code, .int .i64 s'.fat] 58 (0, 0)))
  (hc : Chg (fun k => k = g) w w') (hA : s'.A = s.A) (hcc : s'.c = s.c) (hb : s'.b = s.b) (hp : s'.pos ≤ s'.b.length) : RCuAt B g s' w' where
 blk := hg
 read := by rw [hA, hb]; exact C_belowB h.read h.low (hc.belowB (fun k hk => by rw [hk]; exact h.up) (Nat.le_trans h.up (Nat.le_of_lt (blk_lt h.blk))))
 low := by rw [hA, hb]; exact h.low
 up := h.up
 cap := by rw [hb, hcc]; exact h.cap
 le := hp
 big := by rw [hb]; exact h.big
 bytes := by rw [hb]; exact h.bytes
end
set_option maxHeartbeats 2000000 in
set_option maxRecDepth 100000 in
theorem rfail_calls {B : Nat} (g : Nat) (s : Cu) (code fat : Int) (w : World) (h : RCuAt B g s w) (hs : s.sane) : Calls Try.prog 58 #[.pointer (some ⟨g, 0, none⟩), .int .i64 code, .int .i64 fat] w fun e w' => e = .returned (.tuple #[]) ∧ RCuAt B g (s.fail code fat) w' ∧ Chg (fun k => k = g) w w' := by
 have H := Aside0.mk h
 have c2 := (blk_cell h.blk 2).trans rfl
 have c3 := (blk_cell h.blk 3).trans rfl
 have f2 := blk_frozen h.blk 2
 have f3 := blk_frozen h.blk 3
 clear h
 rcases hs.cases with ⟨h1, h2, h3⟩ | ⟨h1, h2⟩
 ·by_cases hc0 : code = 0
  ·have e1 : s.fail code fat = s := by unfold Cu.fail; rw [if_neg (fun h => h.2 hc0)]
   rw [e1]
   have hcb : (code != 0) = false := by simp [hc0]
   have hsb : (s.code == 0) = true := by simp [h2]
   clear e1 h1 h3 hs h2 hc0
   go_enter Try.func58, Try.ntmps58
   go_wp2
   go_end0
   exact ⟨rfl, H.out, Chg.refl _ _⟩
  ·have e1 : s.fail code fat = { s with code := code, fat := fat } := if_pos ⟨h1, hc0⟩
   rw [e1]
   have hcb : (code != 0) = true := bne_iff_ne.mpr hc0
   have hsb : (s.code == 0) = true := by simp [h2]
   clear e1 h1 h3 hs h2 hc0
   go_enter Try.func58, Try.ntmps58
   go_wp2
   go_end0
   have HCh := ((Chg.refl (fun k => k = g) w).set1 2 (.int .i64 code)).set1 3 (.int .i64 fat)
   exact ⟨rfl, H.out.put (blk_put (blk_put H.out.blk 2 _ rfl) 3 _ rfl) HCh rfl rfl rfl H.out.le, HCh⟩
 ·have e1 : s.fail code fat = s := by unfold Cu.fail; rw [if_neg (fun h => by rw [h1] at h; cases h.1)]
  rw [e1]
  have hsb : (s.code == 0) = false := beq_eq_false_iff_ne.mpr h2
  clear e1 h1 hs h2
  go_enter Try.func58, Try.ntmps58
  go_wp2
  go_end0
  exact ⟨rfl, H.out, Chg.refl _ _⟩
theorem vrd_wrong : ∀ (l : List Int) (i n : Nat), (vrd l i n).2.2 ≠ 0 → (vrd l i n).1 = 0
 | [], i, n, _ => rfl
 | b :: t, i, n, h => by
  unfold vrd at h ⊢
  split
  ·rfl
  ·rename_i h9
   rw [if_neg h9] at h
   split
   ·rename_i h128
    rw [if_pos h128] at h
    split
    ·rfl
    ·rename_i hz
     rw [if_neg hz] at h
     exact absurd rfl h
   ·rename_i h128
    rw [if_neg h128] at h
    exact vrd_wrong t (i + 1) _ h
theorem vrd_short : ∀ (l : List Int) (i n : Nat), (vrd l i n).2.2 = 13 → (vrd l i n).2.1 = i + l.length
 | [], i, n, _ => rfl
 | b :: t, i, n, h => by
  unfold vrd at h ⊢
  split
  ·rename_i h9
   rw [if_pos h9] at h
   exact absurd h (show ¬ (10 : Int) = 13 by decide)
  ·rename_i h9
   rw [if_neg h9] at h
   split
   ·rename_i h128
    rw [if_pos h128] at h
    split
    ·rename_i hz
     rw [if_pos hz] at h
     exact absurd h (show ¬ (21 : Int) = 13 by decide)
    ·rename_i hz
     rw [if_neg hz] at h
     exact absurd h (show ¬ (0 : Int) = 13 by decide)
   ·rename_i h128
    rw [if_neg h128] at h
    rw [vrd_short t (i + 1) _ h, List.length_cons]
    omega
theorem vrd_asked : ∀ (l : List Int) (i n : Nat), (vrd l i n).2.1 ≤ i + l.length
 | [], i, n => by unfold vrd; simp
 | b :: t, i, n => by
  unfold vrd
  rw [List.length_cons]
  split
  ·show i + 1 ≤ _; omega
  ·split
   ·split
    ·show i + 1 ≤ _; omega
    ·show i + 1 ≤ _; omega
   ·have := vrd_asked t (i + 1) (n + b.toNat % 128 * 128 ^ i)
    omega
theorem vread_fin {s : Cu} (hs : s.fine = true) {n k : Nat} {er : Int} (hv : vrd (s.b.drop s.pos) 0 0 = (n, k, er)) (hle : s.pos ≤ s.b.length) :
  (er = 0 ∧ s.vread = (n, s.adv k)) ∨ (er = 13 ∧ n = 0 ∧ s.vread = (0, (s.adv k).fail 13 s.b.length)) ∨ (er ≠ 0 ∧ er ≠ 13 ∧ n = 0 ∧ s.vread = (0, (s.adv k).fail er ((s.pos : Int) + k - 1))) := by
 unfold Cu.vread
 rw [if_neg (by rw [hs]; decide), hv]
 simp only
 by_cases h0 : er = 0
 ·left
  exact ⟨h0, if_pos h0⟩
 ·right
  have hn : n = 0 := by
   have := vrd_wrong (s.b.drop s.pos) 0 0 (by rw [hv]; exact h0)
   rw [hv] at this
   exact this
  rw [if_neg h0]
  by_cases h13 : er = 13
  ·left
   have hk := vrd_short (s.b.drop s.pos) 0 0 (by rw [hv]; exact h13)
   rw [hv, List.length_drop] at hk
   simp only at hk
   exact ⟨h13, hn, by rw [if_pos h13, show s.b.length - s.pos = k by omega]⟩
  ·right
   exact ⟨h0, h13, hn, by rw [if_neg h13]⟩
set_option maxHeartbeats 4000000 in
set_option maxRecDepth 100000 in
theorem number_calls {B : Nat} (g : Nat) (s : Cu) (w : World) (h : RCuAt B g s w) (hs : s.sane) : Calls Try.prog 55 #[.pointer (some ⟨g, 0, none⟩)] w fun e w' => e = .returned (.int .u64 (s.vread.1 : Nat)) ∧ RCuAt B g s.vread.2 w' ∧ Chg (fun k => k = g) w w' := by
 have H := Aside0.mk h
 have c0 := (blk_cell h.blk 0).trans rfl
 have c1 := (blk_cell h.blk 1).trans rfl
 have c2 := (blk_cell h.blk 2).trans rfl
 have f1 := blk_frozen h.blk 1
 have hcap := h.cap
 have hle := h.le
 have hbig := h.big
 clear h
 rcases hs.cases with ⟨h1, h2, h3⟩ | ⟨h1, h2⟩
 ·have hsb : (s.code == 0) = true := by simp [h2]
  have hsb2 : (s.code != 0) = false := by simp [h2]
  obtain ⟨n, k, er, hv⟩ : ∃ n k er, vrd (s.b.drop s.pos) 0 0 = (n, k, er) := ⟨_, _, _, rfl⟩
  have hk := vrd_asked (s.b.drop s.pos) 0 0
  rw [hv, List.length_drop] at hk
  have hk2 : k ≤ s.b.length - s.pos := by simpa using hk
  have HC := vread_fin h1 hv hle
  have HF := Aside0.mk (show (s.adv k).fine = true from h1)
  have HV := Aside0.mk hv
  have HG := Aside0.mk (fun (W : World) (hb : Below w.heap.size w W) => refget_n (if s.c = s.pos then s.A else Option.map (fun x => x.add s.pos) s.A) (s.b.length - s.pos) (s.c - s.pos) (s.b.drop s.pos) W (Kd.C_below (C_from H.out.read s.pos s.c hle hcap) hb) (fun x hx => H.out.bytes x (List.mem_of_mem_drop hx)))
  rw [hv] at HG
  clear h1 h2 h3 hs hv hk
  go_enter Try.func55, Try.ntmps55
  go_wp2
  refine start_ (n := 17) (S := fun w' => w'.cell? ⟨g, 0, none⟩ = some (.slice s.A s.b.length s.c) ∧ w'.cell? ⟨g, 1, none⟩ = some (.int .i64 (s.pos : Int))) (ds := []) #[false, false, false, false, false, false, false, false, false, false, false, false, false, false, false, false, false] (by kernel_rfl) rfl rfl ⟨(blk_cell (blk_drew H.out.blk) 0).trans rfl, (blk_cell (blk_drew H.out.blk) 1).trans rfl⟩ (fun hHeld => ?_)
  refine pure_ (i := 0) (N := some 13) (v := ?_) (a' := ?_) #[true, false, false, false, false, false, false, false, false, false, false, false, false, false, false, false, false] rfl rfl (by kernel_rfl) (fun _ _ _ h => h) (Or.inl ⟨by rfl, ?_⟩) ?_ ?_
  rotate_left
  ·intro w'
   go_simp
   with_reducible rfl
  rotate_left
  ·simp only [Act.put, List.setIfInBounds_toArray, List.set_cons_zero, List.set_cons_succ, i64_w, i32_w]
   rfl
  refine pure_ (i := 1) (N := some 14) (v := ?_) (a' := ?_) #[true, true, false, false, false, false, false, false, false, false, false, false, false, false, false, false, false] rfl rfl (by kernel_rfl) (fun _ _ _ h => h) (Or.inl ⟨by rfl, ?_⟩) ?_ ?_
  rotate_left
  ·intro w'
   go_simp
   with_reducible rfl
  rotate_left
  ·simp only [Act.put, List.setIfInBounds_toArray, List.set_cons_zero, List.set_cons_succ, i64_w, i32_w]
   rfl
  refine pure_ (i := 2) (N := some 15) (v := ?_) (a' := ?_) #[true, true, true, false, false, false, false, false, false, false, false, false, false, false, false, false, false] rfl rfl (by kernel_rfl) (fun _ _ _ h => h) (Or.inl ⟨by rfl, ?_⟩) ?_ ?_
  rotate_left
  ·intro w'
   go_simp
   with_reducible rfl
  rotate_left
  ·simp only [Act.put, List.setIfInBounds_toArray, List.set_cons_zero, List.set_cons_succ, i64_w, i32_w]
   rfl
  refine pure_ (i := 4) (N := some 17) (v := ?_) (a' := ?_) #[true, true, true, false, true, false, false, false, false, false, false, false, false, false, false, false, false] rfl rfl (by kernel_rfl) (fun _ _ _ h => h) (Or.inl ⟨by rfl, ?_⟩) ?_ ?_
  rotate_left
  ·intro w'
   go_simp
   with_reducible rfl
  rotate_left
  ·simp only [Act.put, List.setIfInBounds_toArray, List.set_cons_zero, List.set_cons_succ, i64_w, i32_w]
   rfl
  refine pure_ (i := 5) (N := some 18) (v := ?_) (a' := ?_) #[true, true, true, false, true, true, false, false, false, false, false, false, false, false, false, false, false] rfl rfl (by kernel_rfl) (fun _ _ _ h => h) (Or.inl ⟨by rfl, ?_⟩) ?_ ?_
  rotate_left
  ·intro w'
   go_simp
   with_reducible rfl
  rotate_left
  ·simp only [Act.put, List.setIfInBounds_toArray, List.set_cons_zero, List.set_cons_succ, i64_w, i32_w]
   rfl
  refine pure_ (i := 6) (N := some 19) (v := ?_) (a' := ?_) #[true, true, true, false, true, true, true, false, false, false, false, false, false, false, false, false, false] rfl rfl (by kernel_rfl) (fun _ _ _ h => h) (Or.inl ⟨by rfl, ?_⟩) ?_ ?_
  rotate_left
  ·intro w'
   go_simp
   with_reducible rfl
  rotate_left
  ·simp only [Act.put, List.setIfInBounds_toArray, List.set_cons_zero, List.set_cons_succ, i64_w, i32_w]
   rfl
  refine take_ (i := 3) (N := some 16) (v := ?_) (a' := ?_) #[true, true, true, true, true, true, true, false, false, false, false, false, false, false, false, false, false] rfl rfl (by kernel_rfl) (fun _ _ _ h => h) (Or.inl ⟨by rfl, ?_⟩) hHeld ?_ ?_
  rotate_left
  ·rintro w' ⟨s0, s1⟩
   go_simp
   with_reducible rfl
  rotate_left
  ·simp only [Act.put, List.setIfInBounds_toArray, List.set_cons_zero, List.set_cons_succ, i64_w, i32_w]
   rfl
  refine take_ (i := 7) (N := some 20) (v := ?_) (a' := ?_) #[true, true, true, true, true, true, true, true, false, false, false, false, false, false, false, false, false] rfl rfl (by kernel_rfl) (fun _ _ _ h => h) (Or.inl ⟨by rfl, ?_⟩) hHeld ?_ ?_
  rotate_left
  ·rintro w' ⟨s0, s1⟩
   go_simp
   with_reducible rfl
  rotate_left
  ·simp only [Act.put, List.setIfInBounds_toArray, List.set_cons_zero, List.set_cons_succ, i64_w, i32_w]
   rfl
  refine pure_ (i := 8) (N := some 21) (v := ?_) (a' := ?_) #[true, true, true, true, true, true, true, true, true, false, false, false, false, false, false, false, false] rfl rfl (by kernel_rfl) (fun _ _ _ h => h) (Or.inl ⟨by rfl, ?_⟩) ?_ ?_
  rotate_left
  ·intro w'
   go_simp
   with_reducible rfl
  rotate_left
  ·simp only [Act.put, List.setIfInBounds_toArray, List.set_cons_zero, List.set_cons_succ, i64_w, i32_w]
   rfl
  refine one_ (i := 9) (N := some 22) #[true, true, true, true, true, true, true, true, true, true, false, false, false, false, false, false, false] rfl rfl (by kernel_rfl) (by decide) (fun K hK => ?_)
  refine goes_ Try.func95 (by kernel_rfl) rfl #[.slice (if s.c = s.pos then s.A else Option.map (fun x => x.add s.pos) s.A) (s.b.length - s.pos) (s.c - s.pos)] (by rfl) rfl rfl (by first | (simp only [List.map_toArray, List.map_cons, List.map_nil]; done) | (simp only [List.map_toArray, List.map_cons, List.map_nil]; rfl) | simp) ?_
  with_reducible refine (HG.out _ (below_drew1 (Below.refl _ _))).mono ?_
  rintro e w3 ⟨rfl, ⟨nd3, rfl⟩⟩
  refine ⟨_, rfl, ?_⟩
  refine hK.out _ _ ⟨(blk_cell (blk_drewN (blk_drew H.out.blk) nd3) 0).trans rfl, (blk_cell (blk_drewN (blk_drew H.out.blk) nd3) 1).trans rfl⟩ (fun hHeld => ?_)
  clear hK K
  refine norm_ (a' := ?_) ?_ ?_
  rotate_left
  ·show Act.put _ (some 22) _ = _
   simp only [Act.put, List.setIfInBounds_toArray, List.set_cons_zero, List.set_cons_succ, i64_w, i32_w]
   rfl
  refine pure_ (i := 10) (N := some 12) (v := ?_) (a' := ?_) #[true, true, true, true, true, true, true, true, true, true, true, false, false, false, false, false, false] rfl rfl (by kernel_rfl) (fun _ _ _ h => h) (Or.inl ⟨by rfl, ?_⟩) ?_ ?_
  rotate_left
  ·intro w'
   go_simp
   with_reducible rfl
  rotate_left
  ·simp only [Act.put, List.setIfInBounds_toArray, List.set_cons_zero, List.set_cons_succ, i64_w, i32_w]
   rfl
  refine pure_ (i := 11) (N := some 23) (v := ?_) (a' := ?_) #[true, true, true, true, true, true, true, true, true, true, true, true, false, false, false, false, false] rfl rfl (by kernel_rfl) (fun _ _ _ h => h) (Or.inl ⟨by rfl, ?_⟩) ?_ ?_
  rotate_left
  ·intro w'
   go_simp
   with_reducible rfl
  rotate_left
  ·simp only [Act.put, List.setIfInBounds_toArray, List.set_cons_zero, List.set_cons_succ, i64_w, i32_w]
   rfl
  refine pure_ (i := 12) (N := some 24) (v := ?_) (a' := ?_) #[true, true, true, true, true, true, true, true, true, true, true, true, true, false, false, false, false] rfl rfl (by kernel_rfl) (fun _ _ _ h => h) (Or.inl ⟨by rfl, ?_⟩) ?_ ?_
  rotate_left
  ·intro w'
   go_simp
   with_reducible rfl
  rotate_left
  ·simp only [Act.put, List.setIfInBounds_toArray, List.set_cons_zero, List.set_cons_succ, i64_w, i32_w]
   rfl
  refine pure_ (i := 13) (N := some 25) (v := ?_) (a' := ?_) #[true, true, true, true, true, true, true, true, true, true, true, true, true, true, false, false, false] rfl rfl (by kernel_rfl) (fun _ _ _ h => h) (Or.inl ⟨by rfl, ?_⟩) ?_ ?_
  rotate_left
  ·intro w'
   go_simp
   with_reducible rfl
  rotate_left
  ·simp only [Act.put, List.setIfInBounds_toArray, List.set_cons_zero, List.set_cons_succ, i64_w, i32_w]
   rfl
  refine pure_ (i := 14) (N := some 3) (v := ?_) (a' := ?_) #[true, true, true, true, true, true, true, true, true, true, true, true, true, true, true, false, false] rfl rfl (by kernel_rfl) (fun _ _ _ h => h) (Or.inl ⟨by rfl, ?_⟩) ?_ ?_
  rotate_left
  ·intro w'
   go_simp
   with_reducible rfl
  rotate_left
  ·simp only [Act.put, List.setIfInBounds_toArray, List.set_cons_zero, List.set_cons_succ, i64_w, i32_w]
   rfl
  refine pure_ (i := 15) (N := some 4) (v := ?_) (a' := ?_) #[true, true, true, true, true, true, true, true, true, true, true, true, true, true, true, true, false] rfl rfl (by kernel_rfl) (fun _ _ _ h => h) (Or.inl ⟨by rfl, ?_⟩) ?_ ?_
  rotate_left
  ·intro w'
   go_simp
   with_reducible rfl
  rotate_left
  ·simp only [Act.put, List.setIfInBounds_toArray, List.set_cons_zero, List.set_cons_succ, i64_w, i32_w]
   rfl
  refine pure_ (i := 16) (N := some 5) (v := ?_) (a' := ?_) #[true, true, true, true, true, true, true, true, true, true, true, true, true, true, true, true, true] rfl rfl (by kernel_rfl) (fun _ _ _ h => h) (Or.inl ⟨by rfl, ?_⟩) ?_ ?_
  rotate_left
  ·intro w'
   go_simp
   with_reducible rfl
  rotate_left
  ·simp only [Act.put, List.setIfInBounds_toArray, List.set_cons_zero, List.set_cons_succ, i64_w, i32_w]
   rfl
  refine done_ (by kernel_rfl) ?_
  have HD := Aside0.mk (blk_drewN (blk_drew H.out.blk) nd3)
  have HCh0 := Aside0.mk (((Chg.refl (fun k => k = g) w).drew).drewN nd3)
  obtain ⟨wd, hwd⟩ : ∃ wd, w.drew.drewN nd3 = wd := ⟨_, rfl⟩
  rw [hwd] at HD HCh0
  have HRD := Aside0.mk (show RCuAt B g s wd from by rw [← hwd]; exact (H.out.drew).drewN nd3)
  have d0 := (blk_cell HD.out 0).trans rfl
  have d1 := (blk_cell HD.out 1).trans rfl
  have g1 := blk_frozen HD.out 1
  have hpk : (s.pos : Int) + (k : Int) ≤ 140737488355328 := by omega
  have HBP := Aside0.mk ((blk_put HD.out 1 (.int .i64 ((s.pos : Int) + (k : Int))) rfl).trans rfl)
  have HCh := Aside0.mk (HCh0.out.set1 1 (.int .i64 ((s.pos : Int) + (k : Int))))
  have HRP := Aside0.mk (show RCuAt B g (s.adv k) (wd.setCell ⟨g, 1, none⟩ (.int .i64 ((s.pos : Int) + (k : Int)))) from HRD.out.put (s' := s.adv k) HBP.out ((Chg.refl (fun k => k = g) wd).set1 1 _) rfl rfl rfl (by show s.pos + k ≤ s.b.length; omega))
  have e0 := (blk_cell HBP.out 0).trans rfl
  have e1 := (blk_cell HBP.out 1).trans rfl
  clear c0 c1 c2 f1 hHeld
  try clear hHeld
  rcases HC with ⟨rfl, hv⟩ | ⟨rfl, rfl, hv⟩ | ⟨he0, he13, rfl, hv⟩
  ·have HV2 := Aside0.mk hv
   clear hv
   go_wp2
   all_goals
    go_ret
    rw [HV2.out]
    exact ⟨rfl, HRP.out, HCh.out⟩
  ·have HV2 := Aside0.mk hv
   have HFL := Aside0.mk (fun W (h : RCuAt B g (s.adv k) W) => rfail_calls g (s.adv k) 13 (s.b.length : Int) W h (Or.inl HF.out))
   clear hv
   go_wp2_with fail
   all_goals
    with_reducible refine (HFL.out _ HRP.out).mono ?_
    rintro e w8 ⟨rfl, hr8, hc8⟩
    have HR8 := Aside0.mk hr8
    have HC8 := Aside0.mk hc8
    clear hr8 hc8
    go_wp2
    go_ret
    rw [HV2.out]
    exact ⟨rfl, HR8.out, HCh.out.trans HC8.out (fun _ h => .inl h)⟩
  ·have HV2 := Aside0.mk hv
   have b0 : (er == 13) = false := beq_eq_false_iff_ne.mpr he13
   have b1 : (er != 0) = true := bne_iff_ne.mpr he0
   have HFL := Aside0.mk (fun W (h : RCuAt B g (s.adv k) W) => rfail_calls g (s.adv k) er ((s.pos : Int) + (k : Int) - 1) W h (Or.inl HF.out))
   clear hv he0 he13
   go_wp2_with fail
   all_goals
    with_reducible refine (HFL.out _ HRP.out).mono ?_
    rintro e w8 ⟨rfl, hr8, hc8⟩
    have HR8 := Aside0.mk hr8
    have HC8 := Aside0.mk hc8
    clear hr8 hc8
    go_wp2
    go_ret
    rw [HV2.out]
    exact ⟨rfl, HR8.out, HCh.out.trans HC8.out (fun _ h => .inl h)⟩
 ·have HE := Aside0.mk (show s.vread = (0, s) by unfold Cu.vread; rw [if_pos h1])
  have hsb : (s.code == 0) = false := beq_eq_false_iff_ne.mpr h2
  have hsb2 : (s.code != 0) = true := bne_iff_ne.mpr h2
  clear h1 h2 hs
  go_enter Try.func55, Try.ntmps55
  go_wp2
  go_ret
  rw [HE.out]
  exact ⟨rfl, H.out, Chg.refl _ _⟩
end Go.Proofs.Ytclbmdblalgdjaa
/- The document's dictionary: Get: what it tells and turns; no condition. -/
namespace Go.Proofs.Ytclbmdblalgdjaa
open Go.RowKit Go.Proofs.YtclbmdblalgdjaaW.PrintWords Go.Proofs.YtclbmdblalgdjaaW.PrintLast Go.Proofs.YtclbmdblalgdjaaW.PrintMore
set_option linter.unusedVariables false
set_option linter.unusedSimpArgs false
section
variable {B g : Nat} {d : RDic} {s s' : Cu} {w W W' : World}
end
theorem number2 {B : Nat} (g : Nat) {s s' : Cu} {n : Nat} {w : World} (h : RCuAt B g s w) (hs : s.sane) (hv : s.vread = (n, s')) : Calls Try.prog 55 #[.pointer (some ⟨g, 0, none⟩)] w fun e w' => e = .returned (.int .u64 (n : Nat)) ∧ RCuAt B g s' w' ∧ Chg (fun k => k = g) w w' := by
 have h2 := number_calls g s w h hs
 rw [hv] at h2
 exact h2
end Go.Proofs.Ytclbmdblalgdjaa
/- DictGets: what its walk leans on; no condition. -/
namespace Go.Proofs.Ytclbmdblalgdjaa
open Go.RowKit Go.Proofs.YtclbmdblalgdjaaW.PrintWords Go.Proofs.YtclbmdblalgdjaaW.PrintLast Go.Proofs.YtclbmdblalgdjaaW.PrintMore
set_option linter.unusedVariables false
set_option linter.unusedSimpArgs false
/-! A Cur whose bytes lie elsewhere. -/
def Cu.re (A : Option Addr) (c : Nat) (s : Cu) : Cu := { s with A := A, c := c }
section
variable (A : Option Addr) (c : Nat)
theorem re_fine (s : Cu) : (s.re A c).fine = s.fine := rfl
theorem re_b (s : Cu) : (s.re A c).b = s.b := rfl
theorem re_pos (s : Cu) : (s.re A c).pos = s.pos := rfl
theorem re_adv (s : Cu) (n : Nat) : (s.re A c).adv n = (s.adv n).re A c := rfl
theorem re_fail (s : Cu) (e a : Int) : (s.re A c).fail e a = (s.fail e a).re A c := by
 unfold Cu.fail
 rw [re_fine]
 split <;> rfl
theorem re_vread (s : Cu) : (s.re A c).vread = (s.vread.1, s.vread.2.re A c) := by
 unfold Cu.vread
 rw [re_fine, re_b, re_pos]
 simp only [re_adv, re_fail]
 split
 ·rfl
 ·split
  ·rfl
  ·split
   ·rfl
   ·rfl
end
theorem vread_b (s : Cu) : s.vread.2.b = s.b := by
 unfold Cu.vread
 split
 ·rfl
 ·split
  ·rfl
  ·split
   ·exact fail_b _ _ _
   ·exact fail_b _ _ _
section
variable {ok : Nat → Prop} {gc gp : Nat} {s s' s2 s2' : Cu} {d : Dic} {r : RDic} {w W W' : World}
end
end Go.Proofs.Ytclbmdblalgdjaa
/- Tags in order, each once: the plain laws; no condition. -/
namespace Go.Proofs.Ytclbmdblalgdjaa
open Go.RowKit Go.Proofs.YtclbmdblalgdjaaW.PrintWords Go.Proofs.YtclbmdblalgdjaaW.PrintLast Go.Proofs.YtclbmdblalgdjaaW.PrintMore Go.Proofs.Ytclbmdblalgdjaa.PE
set_option linter.unusedVariables false
set_option linter.unusedSimpArgs false
def sLt (a b : ByteArray) : Bool := Op.bytesLess a.toList b.toList
def sEq (a b : ByteArray) : Bool := a.toList == b.toList
def tLt (x y : S81) : Bool := if sEq x.f0 y.f0 = true then sLt x.f1 y.f1 else sLt x.f0 y.f0
def tEq (x y : S81) : Bool := sEq x.f0 y.f0 && sEq x.f1 y.f1
def TUp (l : List S81) : Prop := l.Pairwise fun x y => tLt x y = true
def ddFrom (t : S81) : List S81 → List S81
 | [] => []
 | x :: l => if tEq x t = true then ddFrom t l else x :: ddFrom x l
def dd : List S81 → List S81
 | [] => []
 | x :: l => x :: ddFrom x l
def tIs : List S81 → Bool
 | [] => true
 | [_] => true
 | x :: y :: l => tLt x y && tIs (y :: l)
end Go.Proofs.Ytclbmdblalgdjaa
/- The document's answer for numbers tells what package dec's Check tells; plain; no condition. -/
namespace Go.Proofs.Ytclbmdblalgdjaa.PE
open Go.RowKit Go.Proofs.YtclbmdblalgdjaaW.PrintWords Go.Proofs.YtclbmdblalgdjaaW.PrintLast Go.Proofs.YtclbmdblalgdjaaW.PrintMore Go.Proofs.Ytclbmdblalgdjaa
set_option linter.unusedVariables false
set_option linter.unusedSimpArgs false
def dgS (n : Nat) : ByteArray := ⟨(dg n).toArray⟩
theorem dgS_size (n : Nat) : (dgS n).size = (dg n).length := by simp [dgS, ByteArray.size]
theorem dgS_list (n : Nat) : (dgS n).toList = dg n := by rw [ByteArray.toList_eq]; simp [dgS]
theorem dg1_fin : ∀ d : Fin 10, (⟨#[48, 49, 50, 51, 52, 53, 54, 55, 56, 57]⟩ : ByteArray).extract d.val (d.val + 1) = ⟨#[UInt8.ofNat (48 + d.val)]⟩ := by decide +kernel
theorem dg1 (d : Nat) (h : d < 10) : (⟨#[48, 49, 50, 51, 52, 53, 54, 55, 56, 57]⟩ : ByteArray).extract d (d + 1) = ⟨#[UInt8.ofNat (48 + d)]⟩ := dg1_fin ⟨d, h⟩
theorem u64_id (x : Int) (h : 0 ≤ x ∧ x < 18446744073709551616) : IntKind.u64.wrap x = x := IntWalk.u64_in _ (by omega)
theorem digits_ev : ∀ (m n : Nat), n ≤ m → n < 18446744073709551616 → Ev (fun k => forebayref03_Digits.f k (n : Int)) (dgS n) := by
 intro m
 induction m with
 | zero =>
  intro n hn hb
  obtain rfl : n = 0 := by omega
  refine Ev.step (f := fun _ => some (dgS 0)) (fun k => ?_) (Ev.now _)
  simp only [forebayref03_Digits.f]
  rw [if_pos (by decide), if_pos (by decide), if_pos (by decide), if_pos (by decide)]
  decide +kernel
 | succ m ih =>
  intro n hn hb
  by_cases h : n < 10
  ·refine Ev.step (f := fun _ => some (dgS n)) (fun k => ?_) (Ev.now _)
   simp only [forebayref03_Digits.f]
   rw [u64_id ((n : Int) + 1) (by omega), if_pos (by omega), if_pos (by omega), if_pos (by omega), if_pos (by omega), show ((n : Int)).toNat = n by omega, show ((n : Int) + 1).toNat = n + 1 by omega, dg1 n h]
   unfold dgS
   rw [dg_small h]
  ·have h1 := ih (n / 10) (by omega) (by omega)
   have e1 : Int.tdiv (n : Int) 10 = ((n / 10 : Nat) : Int) := by rw [Int.tdiv_eq_ediv_of_nonneg (by omega)]; omega
   have e2 : Int.tmod (n : Int) 10 = ((n % 10 : Nat) : Int) := by rw [Int.tmod_eq_emod_of_nonneg (by omega)]; omega
   have hm : n % 10 < 10 := Nat.mod_lt _ (by omega)
   have hl := dg_len 19 (n / 10) (by omega)
   refine Ev.step (f := fun k => (forebayref03_Digits.f k ((n / 10 : Nat) : Int)).bind fun t => if t.size + (⟨#[UInt8.ofNat (48 + n % 10)]⟩ : ByteArray).size ≤ 9223372036854775807 then some (t ++ ⟨#[UInt8.ofNat (48 + n % 10)]⟩) else none) (fun k => ?_) ?_
   ·simp only [forebayref03_Digits.f]
    rw [if_neg (by omega), e1, e2, u64_id ((n / 10 : Nat) : Int) (by omega), u64_id (((n % 10 : Nat) : Int) + 1) (by omega)]
    simp only [if_pos (show (0 : Int) ≤ ((n % 10 : Nat) : Int) by omega), if_pos (show ((n % 10 : Nat) : Int) ≤ ((n % 10 : Nat) : Int) + 1 by omega), if_pos (show ((n % 10 : Nat) : Int) + 1 ≤ 10 by omega), show (((n % 10 : Nat) : Int)).toNat = n % 10 by omega, show (((n % 10 : Nat) : Int) + 1).toNat = n % 10 + 1 by omega, dg1 (n % 10) hm]
   ·refine Ev.bind h1 ?_
    have e : dgS (n / 10) ++ (⟨#[UInt8.ofNat (48 + n % 10)]⟩ : ByteArray) = dgS n := by
     unfold dgS
     rw [dg_big (show 10 ≤ n by omega)]
     apply ByteArray.ext
     simp
    simp only [if_pos (show (dgS (n / 10)).size + (⟨#[UInt8.ofNat (48 + n % 10)]⟩ : ByteArray).size ≤ 9223372036854775807 by rw [dgS_size]; show _ + 1 ≤ _; omega), e]
    exact Ev.now _
theorem dgS_last (n : Nat) : bt (dgS n) (((dgS n).size : Int) - 1) = 48 + ((n % 10 : Nat) : Int) := by
 obtain ⟨l, hl⟩ := dg_last n
 have hs : (dgS n).size = l.length + 1 := by rw [dgS_size, hl]; simp
 have hm : n % 10 < 10 := Nat.mod_lt _ (by omega)
 unfold bt
 rw [dif_pos (show (((dgS n).size : Int) - 1).toNat < (dgS n).size by omega)]
 have hlt : (((dgS n).size : Int) - 1).toNat < (dgS n).size := by omega
 have e : (dgS n)[(((dgS n).size : Int) - 1).toNat]'hlt = UInt8.ofNat (48 + n % 10) := by
  have h1 : (((dgS n).size : Int) - 1).toNat = l.length := by omega
  have hx : (dg n)[(((dgS n).size : Int) - 1).toNat]? = some ((dgS n)[(((dgS n).size : Int) - 1).toNat]'hlt) := by
   rw [List.getElem?_eq_getElem (by rw [← dgS_size]; exact hlt)]
   rfl
  have hy : (dg n)[l.length]? = some (UInt8.ofNat (48 + n % 10)) := by rw [hl]; simp
  rw [← h1] at hy
  exact Option.some.inj (hx.symm.trans hy)
 rw [e]
 simp only [UInt8.toNat_ofNat']
 omega
theorem dgS_first (n : Nat) (h : 1 ≤ n) : bt (dgS n) 0 ≠ 48 := by
 have hs : 0 < (dgS n).size := by rw [dgS_size]; exact dg_pos n
 unfold bt
 rw [dif_pos (show ((0 : Int)).toNat < (dgS n).size by simpa using hs)]
 intro hh
 have hx : (dg n)[0]? = some ((dgS n)[(0 : Int).toNat]'(by simpa using hs)) := by
  rw [List.getElem?_eq_getElem (by rw [← dgS_size]; exact hs)]
  rfl
 exact dg_head n n (Nat.le_refl _) h _ hx (by omega)
theorem dgS_cut (n : Nat) (h : 10 ≤ n) : (dgS n).extract 0 (((dgS n).size : Int) - 1).toNat = dgS (n / 10) := by
 have e := dg_big h
 have hs : (dgS n).size = (dg (n / 10)).length + 1 := by rw [dgS_size, e]; simp
 rw [show (((dgS n).size : Int) - 1).toNat = (dg (n / 10)).length by omega]
 apply ByteArray.ext
 unfold dgS
 rw [e]
 simp
theorem bt_dg (n i : Nat) (h : i < (dg n).length) : bt (dgS n) (i : Int) = (((dg n)[i]'h).toNat : Int) := by
 unfold bt
 rw [dif_pos (show ((i : Int)).toNat < (dgS n).size by rw [dgS_size]; simpa using h)]
 rfl
theorem dval_mono (xs : List UInt8) : ∀ ys : List UInt8, dval xs ≤ dval (xs ++ ys) := by
 intro ys
 induction ys generalizing xs with
 | nil => rw [List.append_nil]; exact Nat.le_refl _
 | cons y ys ih =>
  have h1 := ih (xs ++ [y])
  rw [List.append_assoc] at h1
  have h2 := dval_app xs y
  exact Nat.le_trans (by omega) h1
theorem dval_take (n i : Nat) : dval ((dg n).take i) ≤ n := by
 have h := dval_mono ((dg n).take i) ((dg n).drop i)
 rw [List.take_append_drop, dval_dg n n (Nat.le_refl _)] at h
 exact h
theorem value_l0 (n : Nat) (hn : n < 18446744073709551616) : ∀ (d i : Nat), i + d = (dg n).length → Ev (fun k => forebayref03_Value.l0 k (dgS n) ((dval ((dg n).take i) : Nat) : Int) (i : Int)) (n : Int) := by
 have hl := dg_len 19 n (by omega)
 intro d
 induction d with
 | zero =>
  intro i hi
  have e : dval ((dg n).take i) = n := by rw [List.take_of_length_le (by omega)]; exact dval_dg n n (Nat.le_refl _)
  rw [e]
  refine Ev.step (f := fun _ => some (n : Int)) (fun k => ?_) (Ev.now _)
  simp only [forebayref03_Value.l0]
  rw [if_neg (by rw [dgS_size]; omega)]
 | succ d ih =>
  intro i hi
  have hlt : i < (dg n).length := by omega
  have h1 := ih (i + 1) (by omega)
  have ht : (dg n).take (i + 1) = (dg n).take i ++ [(dg n)[i]'hlt] := by rw [List.take_succ_eq_append_getElem hlt]
  have hd := dg_digit n n (Nat.le_refl _) ((dg n)[i]'hlt) (List.getElem_mem _)
  have hv := dval_app ((dg n).take i) ((dg n)[i]'hlt)
  rw [← ht] at hv
  have hb := dval_take n (i + 1)
  refine Ev.step (f := fun k => forebayref03_Value.l0 k (dgS n) ((dval ((dg n).take (i + 1)) : Nat) : Int) ((i + 1 : Nat) : Int)) (fun k => ?_) h1
  simp only [forebayref03_Value.l0]
  rw [if_pos (by rw [dgS_size]; omega), if_pos (by omega), bt_dg n i hlt, u64_id (10 * ((dval ((dg n).take i) : Nat) : Int)) (by omega), show ((((dg n)[i]'hlt).toNat : Int) - 48) % 256 = (((dg n)[i]'hlt).toNat : Int) - 48 by omega, u64_id _ (by omega)]
  congr 1
  ·omega
  ·have := IntWalk.wrap64_in ((i : Int) + 1) (by omega)
   rw [this]
   omega
theorem value_ev (n : Nat) (hn : n < 18446744073709551616) : Ev (fun k => forebayref03_Value.f k (dgS n)) (n : Int) := by
 have h := value_l0 n hn (dg n).length 0 (by omega)
 exact h
theorem dgmax : dg 18446744073709551615 = [49, 56, 52, 52, 54, 55, 52, 52, 48, 55, 51, 55, 48, 57, 53, 53, 49, 54, 49, 53] := by
 rw [dg_big (by decide), dg_big (by decide), dg_big (by decide), dg_big (by decide), dg_big (by decide), dg_big (by decide), dg_big (by decide), dg_big (by decide), dg_big (by decide), dg_big (by decide), dg_big (by decide), dg_big (by decide), dg_big (by decide), dg_big (by decide), dg_big (by decide), dg_big (by decide), dg_big (by decide), dg_big (by decide), dg_big (by decide), dg_small (by decide)]
 decide +kernel
theorem fits_ok (n : Nat) (hn : n < 18446744073709551616) : forebayref03_Fits.f (dgS n) = some true := by
 have hs := dgS_size n
 unfold forebayref03_Fits.f
 rcases dg_fits n hn with h | ⟨h1, h2⟩
 ·rw [if_pos (by omega)]
 ·rw [if_neg (by omega), if_pos (by omega), dgS_list, ← dgmax, ← bytes_leq, h2]
theorem l2_ev (g : Bool) (n : Nat) (e : Int) (hn : n < 18446744073709551616) (he : -18 ≤ e ∧ e ≤ 18) : Ev (fun k => forebayref03_Make.l2 k g (dgS n) e) (g, (n : Int), e, true) := by
 refine Ev.step (f := fun k => (forebayref03_Value.f k (dgS n)).bind fun t => some (g, t, e, true)) (fun k => ?_) (Ev.bind (value_ev n hn) (Ev.now _))
 simp only [forebayref03_Make.l2]
 rw [if_neg (by omega), if_neg (by omega), fits_ok n hn]
 rfl
theorem l1_ev (g : Bool) : ∀ (d : Nat) (n : Nat) (e : Int), 1 ≤ n → n < 18446744073709551616 → -18 ≤ e → e ≤ 18 → (18 - e).toNat = d →
  ∃ (n' : Nat) (e' : Int), Ev (fun k => forebayref03_Make.l1 k g (dgS n) e) (g, (n' : Int), e', true) ∧ e ≤ e' ∧ ((n % 10 = 0 ∧ e < 18) → e < e') ∧ (¬ (n % 10 = 0 ∧ e < 18) → n' = n ∧ e' = e) := by
 intro d
 induction d with
 | zero =>
  intro n e h1 hn he1 he2 hd
  refine ⟨n, e, ?_, Int.le_refl _, fun h => by omega, fun _ => ⟨rfl, rfl⟩⟩
  refine Ev.step (f := fun k => forebayref03_Make.j4 k g (dgS n) e) (fun k => ?_) (Ev.step (f := fun k => forebayref03_Make.l2 k g (dgS n) e) (fun k => by simp only [forebayref03_Make.j4]) (l2_ev g n e hn ⟨he1, he2⟩))
  simp only [forebayref03_Make.l1]
  rw [if_neg (by omega)]
 | succ d ih =>
  intro n e h1 hn he1 he2 hd
  have hp := dg_pos n
  have hl := dg_len 19 n (by omega)
  have hs := dgS_size n
  have hw : wrap64 (((dgS n).size : Int) - 1) = ((dgS n).size : Int) - 1 := IntWalk.wrap64_in _ (by omega)
  have hlast := dgS_last n
  by_cases hz : n % 10 = 0
  ·obtain ⟨n', e', hev, h2, h3, h4⟩ := ih (n / 10) (e + 1) (by omega) (by omega) (by omega) (by omega) (by omega)
   refine ⟨n', e', ?_, by omega, fun _ => by omega, fun h => absurd ⟨hz, by omega⟩ h⟩
   refine Ev.step (f := fun k => forebayref03_Make.l1 k g (dgS (n / 10)) (e + 1)) (fun k => ?_) hev
   simp only [forebayref03_Make.l1]
   rw [hw, if_pos (show e < 18 by omega), if_pos (by omega), if_pos (by omega), hlast, hz, if_pos (by decide), if_pos (by omega), dgS_cut n (by omega), IntWalk.wrap64_in (e + 1) (by omega)]
  ·refine ⟨n, e, ?_, Int.le_refl _, fun h => absurd h.1 hz, fun _ => ⟨rfl, rfl⟩⟩
   refine Ev.step (f := fun k => forebayref03_Make.j4 k g (dgS n) e) (fun k => ?_) (Ev.step (f := fun k => forebayref03_Make.l2 k g (dgS n) e) (fun k => by simp only [forebayref03_Make.j4]) (l2_ev g n e hn ⟨he1, he2⟩))
   simp only [forebayref03_Make.l1]
   rw [hw, if_pos (show e < 18 by omega), if_pos (by omega), if_pos (by omega), hlast, if_neg (by omega)]
theorem make_ev (g : Bool) (n : Nat) (e : Int) (h1 : 1 ≤ n) (hn : n < 18446744073709551616) (he1 : -18 ≤ e) (he2 : e ≤ 18) :
  ∃ (n' : Nat) (e' : Int), Ev (fun k => forebayref03_Make.f k g (dgS n) e) (g, (n' : Int), e', true) ∧ ((n % 10 = 0 ∧ e < 18) → e < e') ∧ (¬ (n % 10 = 0 ∧ e < 18) → n' = n ∧ e' = e) := by
 obtain ⟨n', e', hev, h2, h3, h4⟩ := l1_ev g (18 - e).toNat n e h1 hn he1 he2 rfl
 refine ⟨n', e', ?_, h3, h4⟩
 have hp := dg_pos n
 have hs := dgS_size n
 show Ev (fun k => forebayref03_Make.l0 k g (dgS n) e) _
 refine Ev.step (f := fun k => forebayref03_Make.j1 k g (dgS n) e) (fun k => ?_) (Ev.step (f := fun k => forebayref03_Make.j2 k g (dgS n) e false) (fun k => ?_) (Ev.step (f := fun k => forebayref03_Make.l1 k g (dgS n) e) (fun k => ?_) hev))
 ·simp only [forebayref03_Make.l0]
  rw [if_pos (by omega), if_pos (by omega), if_neg (dgS_first n h1)]
 ·simp only [forebayref03_Make.j1]
  rw [if_neg (show ¬ (dgS n).toList = [] by rw [dgS_list]; intro h; rw [h] at hp; simp at hp), if_neg (by omega), decide_eq_false (by omega)]
 ·simp only [forebayref03_Make.j2]
  rw [if_neg (by decide)]
theorem make0_ev (g : Bool) (e : Int) : Ev (fun k => forebayref03_Make.f k g (dgS 0) e) (false, 0, 0, true) := by
 have e0 : dgS 0 = ⟨#[48]⟩ := by unfold dgS; rw [dg_small (by decide)]; rfl
 rw [e0]
 show Ev (fun k => forebayref03_Make.l0 k g ⟨#[48]⟩ e) _
 refine Ev.step (f := fun k => forebayref03_Make.l0 k g ⟨#[]⟩ e) (fun k => ?_) (Ev.step (f := fun k => forebayref03_Make.j1 k g ⟨#[]⟩ e) (fun k => ?_) (Ev.step (f := fun k => some (false, 0, 0, true)) (fun k => ?_) (Ev.now _)))
 ·simp only [forebayref03_Make.l0]
  rw [if_pos (by decide), if_pos (by decide), if_pos (by decide), if_pos (by decide)]
  rfl
 ·simp only [forebayref03_Make.l0]
  rw [if_neg (by decide)]
 ·simp only [forebayref03_Make.j1]
  rw [if_pos (by rw [ByteArray.toList_eq])]
theorem refdec_ev (g : Bool) (c e : Int) (hc : 0 ≤ c ∧ c < 18446744073709551616) : Ev (fun k => forebayref03_Check.f k g c e) (decBad g c e) := by
 obtain ⟨n, rfl⟩ : ∃ n : Nat, c = (n : Int) := ⟨c.toNat, by omega⟩
 have hn : n < 18446744073709551616 := by omega
 have hdig := digits_ev n n (Nat.le_refl _) hn
 by_cases h0 : n = 0
 ·subst h0
  refine Ev.congr (f := fun k => forebayref03_Check.j0 k false g ((0 : Nat) : Int) e) (fun k => by unfold forebayref03_Check.f; rw [if_pos (show ((0 : Nat) : Int) = 0 from rfl)]) ?_
  refine Ev.step (f := fun k => (forebayref03_Digits.f k ((0 : Nat) : Int)).bind fun t106 => ((forebayref03_Make.f k g t106 e).bind fun bt107 => (if bt107.2.2.2 = true then (if (!(bt107.1 == g) || (!(bt107.2.1 == ((0 : Nat) : Int)) || (!(bt107.2.2.1 == e)))) = true then (some 21) else (some 0)) else (some 21)))) (fun k => ?_) ?_
  ·simp only [forebayref03_Check.j0]
   rw [if_neg (by decide)]
  ·refine Ev.bind hdig (Ev.bind (make0_ev g e) ?_)
   have : (if (true : Bool) = true then (if (!(false == g) || (!((0 : Int) == ((0 : Nat) : Int)) || (!((0 : Int) == e)))) = true then (some (21 : Int)) else (some 0)) else (some 21)) = some (decBad g ((0 : Nat) : Int) e) := by
    have hb0 : decBad g ((0 : Nat) : Int) e = if g = false ∧ e = 0 then 0 else 21 := by
     show decBad g 0 e = _
     unfold decBad
     rw [if_neg (fun h => h.1 rfl), if_pos rfl]
    rw [hb0, if_pos rfl]
    cases g with
    | true => rw [if_pos (by simp), if_neg (fun h => by cases h.1)]
    | false =>
     by_cases he : e = 0
     ·subst he
      rw [if_neg (by decide), if_pos ⟨rfl, rfl⟩]
     ·rw [if_pos (by simp; omega), if_neg (fun h => he h.2)]
   show Ev (fun _ => if (true : Bool) = true then (if (!(false == g) || (!((0 : Int) == ((0 : Nat) : Int)) || (!((0 : Int) == e)))) = true then (some (21 : Int)) else (some 0)) else (some 21)) _
   rw [this]
   exact Ev.now _
 ·have hb : decBad g (n : Int) e = if e < -18 ∨ 18 < e then 10 else if (n : Int) % 10 = 0 ∧ e < 18 then 21 else 0 := by
   unfold decBad
   by_cases h : e < -18 ∨ 18 < e
   ·rw [if_pos ⟨by omega, h⟩, if_pos h]
   ·rw [if_neg (fun hh => h hh.2), if_neg (by omega), if_neg h]
  have hf : ∀ k, forebayref03_Check.f k g (n : Int) e = forebayref03_Check.j0 k (decide (e < -18 ∨ 18 < e)) g (n : Int) e := by
   intro k
   unfold forebayref03_Check.f
   rw [if_neg (by omega)]
   by_cases h1 : e < -18
   ·rw [if_pos h1, decide_eq_true (.inl h1)]
   ·rw [if_neg h1]
    by_cases h2 : 18 < e
    ·rw [decide_eq_true (show e > 18 from h2), decide_eq_true (.inr h2)]
    ·rw [decide_eq_false (show ¬ e > 18 from h2), decide_eq_false (by omega)]
  refine Ev.congr hf ?_
  rw [hb]
  by_cases h : e < -18 ∨ 18 < e
  ·rw [if_pos h, decide_eq_true h]
   refine Ev.step (f := fun _ => some 10) (fun k => ?_) (Ev.now _)
   simp only [forebayref03_Check.j0]
   exact if_pos trivial
  ·rw [if_neg h, decide_eq_false h]
   obtain ⟨n', e', hev, h3, h4⟩ := make_ev g n e (by omega) hn (by omega) (by omega)
   refine Ev.step (f := fun k => (forebayref03_Digits.f k (n : Int)).bind fun t106 => ((forebayref03_Make.f k g t106 e).bind fun bt107 => (if bt107.2.2.2 = true then (if (!(bt107.1 == g) || (!(bt107.2.1 == (n : Int)) || (!(bt107.2.2.1 == e)))) = true then (some 21) else (some 0)) else (some 21)))) (fun k => ?_) ?_
   ·simp only [forebayref03_Check.j0]
    rw [if_neg (by decide)]
   ·refine Ev.bind hdig (Ev.bind hev ?_)
    have : (if (true : Bool) = true then (if (!(g == g) || (!((n' : Int) == (n : Int)) || (!(e' == e)))) = true then (some (21 : Int)) else (some 0)) else (some 21)) = some (if (n : Int) % 10 = 0 ∧ e < 18 then 21 else 0) := by
     rw [if_pos rfl]
     by_cases hz : n % 10 = 0 ∧ e < 18
     ·have := h3 hz
      rw [if_pos (show (!(g == g) || (!((n' : Int) == (n : Int)) || (!(e' == e)))) = true by rw [show (e' == e) = false from beq_eq_false_iff_ne.mpr (by omega)]; simp), if_pos (by omega)]
     ·obtain ⟨rfl, rfl⟩ := h4 hz
      rw [if_neg (by simp), if_neg (by omega)]
    show Ev (fun _ => if (true : Bool) = true then (if (!(g == g) || (!((n' : Int) == (n : Int)) || (!(e' == e)))) = true then (some (21 : Int)) else (some 0)) else (some 21)) _
    rw [this]
    exact Ev.now _
end Go.Proofs.Ytclbmdblalgdjaa.PE
/- The document's answer for metrics tells what package metric's Check tells; plain; no condition. -/
namespace Go.Proofs.Ytclbmdblalgdjaa.PE
open Go.RowKit Go.Proofs.YtclbmdblalgdjaaW.PrintWords Go.Proofs.YtclbmdblalgdjaaW.PrintLast Go.Proofs.YtclbmdblalgdjaaW.PrintMore Go.Proofs.Ytclbmdblalgdjaa
set_option linter.unusedVariables false
set_option linter.unusedSimpArgs false
theorem txOk_iff (c : Int) (s : ByteArray) (lo hi : Int) (hc : betB c 1 4 = true) (hl : 0 ≤ lo ∧ lo ≤ hi) : txOk c s lo hi = true ↔ lo ≤ (s.size : Int) ∧ (s.size : Int) ≤ hi ∧ badI (clsB c) s < 0 := by
 unfold txOk textW
 rw [if_neg (by rw [hc]; simp; omega)]
 by_cases h1 : (s.size : Int) < lo
 ·rw [if_pos h1]
  simp
  omega
 ·rw [if_neg h1]
  by_cases h2 : hi < (s.size : Int)
  ·rw [if_pos h2]
   simp
   omega
  ·rw [if_neg h2]
   by_cases h3 : 0 ≤ badI (clsB c) s
   ·rw [if_pos h3]
    simp
    omega
   ·rw [if_neg h3]
    simp
    omega
theorem reftag (k v : ByteArray) (hk : k.size ≤ 9223372036854775807) (hv : v.size ≤ 9223372036854775807) : forebayref06_Check.f k v = some (tagBad k v) := by
 have h1 : forebayref04_Text.f 2 k 1 64 = some (textW 2 k 1 64) := by unfold forebayref04_Text.f; rw [if_pos ⟨by decide, by omega, hk⟩]
 have h2 : forebayref04_Text.f 3 v 0 100 = some (textW 3 v 0 100) := by unfold forebayref04_Text.f; rw [if_pos ⟨by decide, by omega, hv⟩]
 unfold forebayref06_Check.f forebayref06_Right.f
 rw [h1, h2]
 simp only [Option.bind_some]
 unfold tagBad
 have e1 : ((textW 2 k 1 64).1 == 0 && ((textW 2 k 1 64).2 == 0)) = txOk 2 k 1 64 := rfl
 have e2 : ((textW 3 v 0 100).1 == 0 && ((textW 3 v 0 100).2 == 0)) = txOk 3 v 0 100 := rfl
 rw [e1, e2]
 generalize txOk 2 k 1 64 = x
 generalize txOk 3 v 0 100 = y
 cases x <;> cases y <;> rfl
theorem cls1 (b : Int) : clsB 1 b = nameB b := by unfold clsB; simp
theorem nameB_iff (b : Int) : nameB b = true ↔ (65 ≤ b ∧ b ≤ 90) ∨ (97 ≤ b ∧ b ≤ 122) ∨ b = 95 ∨ b = 46 ∨ b = 45 ∨ (48 ≤ b ∧ b ≤ 57) := by
 unfold nameB betB
 simp [or_assoc]
theorem name_ev (s : ByteArray) (hs : s.size ≤ 9223372036854775807) : ∀ (d i : Nat), i + d = s.size → Ev (fun k => forebayref07_Name.l0 k s (i : Int)) (decide (badF (clsB 1) s (s.size - i) i < 0) && (decide (1 ≤ s.size) && decide (s.size ≤ 200))) := by
 intro d
 induction d with
 | zero =>
  intro i hi
  have hz : s.size - i = 0 := by omega
  rw [hz, show badF (clsB 1) s 0 i = -1 from rfl]
  refine Ev.step (f := fun _ => some (decide (1 ≤ s.size) && decide (s.size ≤ 200))) (fun k => ?_) (by simpa using Ev.now _)
  simp only [forebayref07_Name.l0]
  rw [if_neg (by omega)]
  by_cases h1 : 1 ≤ s.size
  ·rw [if_pos (by omega), decide_eq_true h1]
   by_cases h2 : s.size ≤ 200
   ·rw [decide_eq_true h2, decide_eq_true (by omega)]
    rfl
   ·rw [decide_eq_false h2, decide_eq_false (by omega)]
    rfl
  ·rw [if_neg (by omega), decide_eq_false h1]
   rfl
 | succ d ih =>
  intro i hi
  have h1 := ih (i + 1) (by omega)
  rw [badF_succ (clsB 1) s i (by omega), cls1]
  by_cases hb : nameB (bt s (i : Nat)) = true
  ·rw [if_pos hb]
   refine Ev.step (f := fun k => forebayref07_Name.l0 k s ((i + 1 : Nat) : Int)) (fun k => ?_) h1
   simp only [forebayref07_Name.l0]
   rw [if_pos (by omega), if_pos (by omega), IntWalk.wrap64_in ((i : Int) + 1) (by omega), show (i : Int) + 1 = ((i + 1 : Nat) : Int) by omega]
   have hp := (nameB_iff _).1 hb
   generalize bt s (i : Int) = b at hp
   generalize forebayref07_Name.l0 k s ((i + 1 : Nat) : Int) = R
   repeat' split
   all_goals first | rfl | (exfalso; omega)
  ·rw [if_neg hb]
   refine Ev.step (f := fun k => some false) (fun k => ?_) (by rw [show decide (((i : Nat) : Int) < 0) = false from decide_eq_false (by omega)]; exact Ev.now _)
   simp only [forebayref07_Name.l0]
   rw [if_pos (by omega), if_pos (by omega)]
   have hp : ¬ _ := fun h => hb ((nameB_iff _).2 h)
   generalize bt s (i : Int) = b at hp
   generalize forebayref07_Name.l0 k s (wrap64 ((i : Int) + 1)) = R
   repeat' split
   all_goals first | rfl | (exfalso; omega)
theorem name_eq (m : S26) (hs : m.f0.size ≤ 9223372036854775807) : Ev (fun k => forebayref07_Name.f k m.f0) (metPart m 0) := by
 have h := name_ev m.f0 hs m.f0.size 0 (by omega)
 have e : metPart m 0 = (decide (badF (clsB 1) m.f0 (m.f0.size - 0) 0 < 0) && (decide (1 ≤ m.f0.size) && decide (m.f0.size ≤ 200))) := by
  show txOk 1 m.f0 1 200 = _
  rw [Bool.eq_iff_iff, txOk_iff 1 m.f0 1 200 (by decide) (by omega)]
  simp only [Bool.and_eq_true, decide_eq_true_eq]
  unfold badI
  rw [Nat.sub_zero]
  omega
 rw [e]
 exact h
def restTail (m : S26) : Int := if metPart m 5 = true then 0 else 20
theorem tags_ev (m : S26) (hm : metIn m = true) (hl : m.f4.length ≤ 1000) : ∀ (d i : Nat), i + d = m.f4.length →
  Ev (fun k => forebayref07_Rest.l0 k (i : Int) m.f0 m.f1 m.f2 m.f3 m.f4 m.f5) (if (m.f4.drop i).any tagW = true then 19 else restTail m) := by
 intro d
 induction d with
 | zero =>
  intro i hi
  rw [List.drop_of_length_le (by omega)]
  refine Ev.step (f := fun _ => some (restTail m)) (fun k => ?_) (Ev.now _)
  simp only [forebayref07_Rest.l0]
  rw [if_neg (by omega)]
  unfold restTail
  show _ = some (if betB m.f5 0 1099511627776 = true then 0 else 20)
  unfold betB
  by_cases h1 : m.f5 < 0
  ·rw [if_pos h1, if_neg (by simp; omega)]
  ·rw [if_neg h1]
   by_cases h2 : m.f5 > 1099511627776
   ·rw [if_pos h2, if_neg (by simp; omega)]
   ·rw [if_neg h2, if_pos (by simp; omega)]
 | succ d ih =>
  intro i hi
  have hlt : i < m.f4.length := by omega
  have h1 := ih (i + 1) (by omega)
  have hx : rd_T81 m.f4 (i : Int) = m.f4[i]'hlt := by
   unfold rd_T81
   rw [Int.toNat_natCast, List.getD_eq_getElem?_getD, List.getElem?_eq_getElem hlt]
   rfl
  have hin : tagIn (m.f4[i]'hlt) = true := by
   unfold metIn at hm
   simp only [Bool.and_eq_true, List.all_eq_true] at hm
   exact hm.2.2 _ (List.getElem_mem _)
  unfold tagIn at hin
  simp only [Bool.and_eq_true, decide_eq_true_eq] at hin
  rw [List.drop_eq_getElem_cons hlt, List.any_cons]
  have hr := reftag (m.f4[i]'hlt).f0 (m.f4[i]'hlt).f1 hin.1 hin.2
  by_cases ht : tagBad (m.f4[i]'hlt).f0 (m.f4[i]'hlt).f1 = 0
  ·rw [show tagW (m.f4[i]'hlt) = false from by unfold tagW; rw [ht]; rfl, Bool.false_or]
   refine Ev.step (f := fun k => forebayref07_Rest.l0 k ((i + 1 : Nat) : Int) m.f0 m.f1 m.f2 m.f3 m.f4 m.f5) (fun k => ?_) h1
   simp only [forebayref07_Rest.l0]
   rw [if_pos (by omega), if_pos (by omega), hx, hr, Option.bind_some, if_pos ht, IntWalk.wrap64_in ((i : Int) + 1) (by omega), show (i : Int) + 1 = ((i + 1 : Nat) : Int) by omega]
  ·rw [show tagW (m.f4[i]'hlt) = true from by unfold tagW; exact bne_iff_ne.mpr ht, Bool.true_or, if_pos rfl]
   refine Ev.step (f := fun _ => some 19) (fun k => ?_) (Ev.now _)
   simp only [forebayref07_Rest.l0]
   rw [if_pos (by omega), if_pos (by omega), hx, hr, Option.bind_some, if_neg ht]
def restBad (m : S26) (b : Bool) : Int :=
 if metPart m 0 = false then 15 else if metPart m 1 = false then 16 else if (b && betB m.f2.length 1 64) = false then 17 else if metPart m 3 = false then 18 else if metPart m 4 = false then 19 else restTail m
theorem rest_ev (m : S26) (b : Bool) (hm : metIn m = true) : Ev (fun k => forebayref07_Rest.f k m.f0 m.f1 m.f2 m.f3 m.f4 m.f5 b) (restBad m b) := by
 have hs : m.f0.size ≤ 9223372036854775807 := by
  unfold metIn at hm
  simp only [Bool.and_eq_true, decide_eq_true_eq] at hm
  exact hm.1
 unfold forebayref07_Rest.f restBad
 refine Ev.bind (name_eq m hs) ?_
 cases h0 : metPart m 0 with
 | false => exact Ev.now _
 | true =>
  rw [if_neg (by decide)]
  -- the tail behind the rate
  have hj2 : ∀ x : Bool, Ev (fun k => forebayref07_Rest.j2 k x m.f0 m.f1 m.f2 m.f3 m.f4 m.f5) (if x = true then 18 else if metPart m 4 = false then 19 else restTail m) := by
   intro x
   cases x with
   | true => exact Ev.step (f := fun _ => some 18) (fun k => by simp only [forebayref07_Rest.j2]; rfl) (Ev.now _)
   | false =>
    rw [if_neg (by decide)]
    have e4 : metPart m 4 = (decide ((m.f4.length : Int) ≤ 32) && !(m.f4.any tagW)) := rfl
    by_cases hl : (m.f4.length : Int) ≤ 32
    ·have h4 := tags_ev m hm (by omega) m.f4.length 0 (by omega)
     rw [List.drop_zero] at h4
     have e5 : (if metPart m 4 = false then 19 else restTail m) = (if m.f4.any tagW = true then 19 else restTail m) := by
      rw [e4, decide_eq_true hl]
      cases m.f4.any tagW <;> rfl
     rw [e5]
     refine Ev.step (fun k => ?_) h4
     simp only [forebayref07_Rest.j2]
     rw [if_neg (by decide), if_neg (by omega)]
     rfl
    ·rw [e4, decide_eq_false hl, Bool.false_and, if_pos rfl]
     refine Ev.step (f := fun _ => some 19) (fun k => ?_) (Ev.now _)
     simp only [forebayref07_Rest.j2]
     rw [if_neg (by decide), if_pos (by omega)]
  have hrate : Ev (fun k => forebayref07_Rest.j1 k false m.f0 m.f1 m.f2 m.f3 m.f4 m.f5) (if metPart m 3 = false then 18 else if metPart m 4 = false then 19 else restTail m) := by
   have e3 : metPart m 3 = (betB m.f3 1 1000000 && (m.f1 != 2 || m.f3 == 1000000)) := rfl
   by_cases h1 : m.f3 < 1
   ·have e := hj2 true
    rw [if_pos rfl] at e
    rw [e3, show betB m.f3 1 1000000 = false from by unfold betB; rw [decide_eq_false (by omega)]; rfl, Bool.false_and, if_pos rfl]
    exact Ev.step (fun k => by simp only [forebayref07_Rest.j1]; rw [if_neg (by decide), if_pos h1]) e
   ·by_cases h2 : m.f3 > 1000000
    ·have e := hj2 true
     rw [if_pos rfl] at e
     rw [e3, show betB m.f3 1 1000000 = false from by unfold betB; rw [decide_eq_false (show ¬ m.f3 ≤ 1000000 by omega), Bool.and_false], Bool.false_and, if_pos rfl]
     exact Ev.step (fun k => by simp only [forebayref07_Rest.j1]; rw [if_neg (by decide), if_neg h1, if_pos h2]) e
    ·have eb : betB m.f3 1 1000000 = true := by unfold betB; rw [decide_eq_true (show 1 ≤ m.f3 by omega), decide_eq_true (show m.f3 ≤ 1000000 by omega)]; rfl
     by_cases h3 : m.f1 = 2
     ·have e := hj2 (m.f3 != 1000000)
      have e6 : (if (m.f3 != 1000000) = true then 18 else if metPart m 4 = false then 19 else restTail m) = (if metPart m 3 = false then 18 else if metPart m 4 = false then 19 else restTail m) := by
       rw [e3, eb, h3]
       cases hq : (m.f3 == 1000000) with
       | true => rw [show (m.f3 != 1000000) = false from by simp [bne, hq]]; rfl
       | false => rw [show (m.f3 != 1000000) = true from by simp [bne, hq]]; rfl
      rw [← e6]
      exact Ev.step (fun k => by simp only [forebayref07_Rest.j1]; rw [if_neg (by decide), if_neg h1, if_neg h2, if_pos h3]) e
     ·have e := hj2 false
      rw [if_neg (by decide)] at e
      rw [e3, eb, show (m.f1 != 2) = true from bne_iff_ne.mpr h3, Bool.true_or, Bool.true_and, if_neg (by decide)]
      exact Ev.step (fun k => by simp only [forebayref07_Rest.j1]; rw [if_neg (by decide), if_neg h1, if_neg h2, if_neg h3]) e
  have hj1 : ∀ x : Bool, Ev (fun k => forebayref07_Rest.j1 k x m.f0 m.f1 m.f2 m.f3 m.f4 m.f5) (if x = true then 17 else if metPart m 3 = false then 18 else if metPart m 4 = false then 19 else restTail m) := by
   intro x
   cases x with
   | true => exact Ev.step (f := fun _ => some 17) (fun k => by simp only [forebayref07_Rest.j1]; rfl) (Ev.now _)
   | false =>
    rw [if_neg (by decide)]
    exact hrate
  have hvals : Ev (fun k => forebayref07_Rest.j0 k b false m.f0 m.f1 m.f2 m.f3 m.f4 m.f5) (if (b && betB m.f2.length 1 64) = false then 17 else if metPart m 3 = false then 18 else if metPart m 4 = false then 19 else restTail m) := by
   cases b with
   | false =>
    have e := hj1 true
    rw [if_pos rfl] at e
    exact Ev.step (fun k => by simp only [forebayref07_Rest.j0]; rw [if_neg (by decide), if_neg (by decide)]) e
   | true =>
    rw [Bool.true_and]
    by_cases h1 : (m.f2.length : Int) < 1
    ·have e := hj1 true
     rw [if_pos rfl] at e
     rw [show betB m.f2.length 1 64 = false from by unfold betB; rw [decide_eq_false (by omega)]; rfl, if_pos rfl]
     exact Ev.step (fun k => by simp only [forebayref07_Rest.j0]; rw [if_neg (by decide), if_pos trivial, if_pos h1]) e
    ·have e := hj1 (decide ((m.f2.length : Int) > 64))
     have e7 : (if decide ((m.f2.length : Int) > 64) = true then 17 else if metPart m 3 = false then 18 else if metPart m 4 = false then 19 else restTail m) = (if betB m.f2.length 1 64 = false then 17 else if metPart m 3 = false then 18 else if metPart m 4 = false then 19 else restTail m) := by
      by_cases h2 : (m.f2.length : Int) > 64
      ·rw [if_pos (decide_eq_true h2), if_pos (by unfold betB; rw [decide_eq_false (show ¬ (m.f2.length : Int) ≤ 64 by omega), Bool.and_false])]
      ·have hb64 : betB m.f2.length 1 64 = true := by unfold betB; rw [decide_eq_true (show 1 ≤ (m.f2.length : Int) by omega), decide_eq_true (show (m.f2.length : Int) ≤ 64 by omega)]; rfl
       rw [hb64, decide_eq_false h2]
       rfl
     rw [← e7]
     exact Ev.step (fun k => by simp only [forebayref07_Rest.j0]; rw [if_neg (by decide), if_pos trivial, if_neg h1]) e
  have hj0 : ∀ x : Bool, Ev (fun k => forebayref07_Rest.j0 k b x m.f0 m.f1 m.f2 m.f3 m.f4 m.f5) (if x = true then 16 else if (b && betB m.f2.length 1 64) = false then 17 else if metPart m 3 = false then 18 else if metPart m 4 = false then 19 else restTail m) := by
   intro x
   cases x with
   | true => exact Ev.step (f := fun _ => some 16) (fun k => by simp only [forebayref07_Rest.j0]; rfl) (Ev.now _)
   | false =>
    rw [if_neg (by decide)]
    exact hvals
  have e1 : metPart m 1 = betB m.f1 1 5 := rfl
  by_cases h1 : m.f1 < 1
  ·have e := hj0 true
   rw [if_pos rfl] at e
   rw [e1, show betB m.f1 1 5 = false from by unfold betB; rw [decide_eq_false (by omega)]; rfl, if_pos rfl]
   exact Ev.congr (fun k => by rw [if_pos rfl, if_pos h1]) e
  ·have e := hj0 (decide (m.f1 > 5))
   have e8 : (if decide (m.f1 > 5) = true then 16 else if (b && betB m.f2.length 1 64) = false then 17 else if metPart m 3 = false then 18 else if metPart m 4 = false then 19 else restTail m) = (if metPart m 1 = false then 16 else if (b && betB m.f2.length 1 64) = false then 17 else if metPart m 3 = false then 18 else if metPart m 4 = false then 19 else restTail m) := by
    rw [e1]
    by_cases h2 : m.f1 > 5
    ·rw [if_pos (decide_eq_true h2), if_pos (by unfold betB; rw [decide_eq_false (show ¬ m.f1 ≤ 5 by omega), Bool.and_false])]
    ·have hb5 : betB m.f1 1 5 = true := by unfold betB; rw [decide_eq_true (show 1 ≤ m.f1 by omega), decide_eq_true (show m.f1 ≤ 5 by omega)]; rfl
     rw [hb5, decide_eq_false h2]
     rfl
   rw [← e8]
   exact Ev.congr (fun k => by rw [if_pos rfl, if_neg h1]) e
theorem restBad_met (m : S26) : restBad m (!(m.f2.any decW)) = metBad m := by
 unfold restBad metBad restTail
 have e2 : metPart m 2 = (betB m.f2.length 1 64 && !(m.f2.any decW)) := rfl
 rw [e2, Bool.and_comm]
 cases metPart m 5 <;> rfl
theorem check_l0 (m : S26) (hm : metIn m = true) (hl : m.f2.length ≤ 140737488355328) : ∀ (d i : Nat), i + d = m.f2.length →
  Ev (fun k => forebayref07_Check.l0 k (!((m.f2.take i).any decW)) (i : Int) m.f0 m.f1 m.f2 m.f3 m.f4 m.f5) (metBad m) := by
 intro d
 induction d with
 | zero =>
  intro i hi
  rw [List.take_of_length_le (by omega), ← restBad_met]
  refine Ev.step (f := fun k => (forebayref07_Rest.f k m.f0 m.f1 m.f2 m.f3 m.f4 m.f5 (!(m.f2.any decW))).bind fun t => some t) (fun k => ?_) (Ev.bind (rest_ev m _ hm) (Ev.now _))
  simp only [forebayref07_Check.l0]
  rw [if_neg (by omega)]
 | succ d ih =>
  intro i hi
  have hlt : i < m.f2.length := by omega
  have h1 := ih (i + 1) (by omega)
  have hx : rd_T48 m.f2 (i : Int) = m.f2[i]'hlt := by
   unfold rd_T48
   rw [Int.toNat_natCast, List.getD_eq_getElem?_getD, List.getElem?_eq_getElem hlt]
   rfl
  have hin : decIn (m.f2[i]'hlt) = true := by
   unfold metIn at hm
   simp only [Bool.and_eq_true, List.all_eq_true] at hm
   exact hm.2.1 _ (List.getElem_mem _)
  unfold decIn at hin
  simp only [Bool.and_eq_true, decide_eq_true_eq] at hin
  have ht : (m.f2.take (i + 1)).any decW = ((m.f2.take i).any decW || decW (m.f2[i]'hlt)) := by
   rw [List.take_succ_eq_append_getElem hlt, List.any_append]
   simp
  have hw : wrap64 ((i : Int) + 1) = ((i + 1 : Nat) : Int) := by rw [IntWalk.wrap64_in ((i : Int) + 1) (by omega)]; omega
  rw [ht] at h1
  cases hp : (m.f2.take i).any decW with
  | true =>
   rw [hp, Bool.true_or] at h1
   refine Ev.step (fun k => ?_) h1
   simp only [forebayref07_Check.l0]
   rw [if_pos (by omega), if_neg (by decide), hw]
   rfl
  | false =>
   rw [hp, Bool.false_or] at h1
   refine Ev.step (f := fun k => (forebayref03_Check.f k (m.f2[i]'hlt).f0 (m.f2[i]'hlt).f1 (m.f2[i]'hlt).f2).bind fun t => forebayref07_Check.l0 k (t == 0) ((i + 1 : Nat) : Int) m.f0 m.f1 m.f2 m.f3 m.f4 m.f5) (fun k => ?_) (Ev.bind (refdec_ev _ _ _ hin.1) ?_)
   ·simp only [forebayref07_Check.l0]
    rw [if_pos (by omega), if_pos (by decide), if_pos (by omega), hx, hw]
   ·have e : (decBad (m.f2[i]'hlt).f0 (m.f2[i]'hlt).f1 (m.f2[i]'hlt).f2 == 0) = !decW (m.f2[i]'hlt) := by
     unfold decW
     rw [bne, Bool.not_not]
    rw [e]
    exact h1
theorem refmet_ev (m : S26) (hm : metIn m = true) (hl : m.f2.length ≤ 140737488355328) : Ev (fun k => forebayref07_Check.f k m.f0 m.f1 m.f2 m.f3 m.f4 m.f5) (metBad m) := by
 have h := check_l0 m hm hl m.f2.length 0 (by omega)
 exact h
end Go.Proofs.Ytclbmdblalgdjaa.PE
/- Metrics as bytes: what is put, what is taken, and that each is the other's; plain; no condition. -/
namespace Go.Proofs.Ytclbmdblalgdjaa
open Go.RowKit Go.Proofs.YtclbmdblalgdjaaW.PrintWords Go.Proofs.YtclbmdblalgdjaaW.PrintLast Go.Proofs.YtclbmdblalgdjaaW.PrintMore Go.Proofs.Ytclbmdblalgdjaa.PE
set_option linter.unusedVariables false
set_option linter.unusedSimpArgs false
def decZ : DecS := ⟨false, 0, 0⟩
/-! What is taken. -/
def gdec (s : Cu) : DecS × Cu :=
 if s.vread.2.vread.2.fine = false then (decZ, s.vread.2.vread.2)
 else if decBad (decide (s.vread.1 % 2 = 1)) (s.vread.2.vread.1 : Int) (zagZ (s.vread.1 / 2)) = 0 then (⟨decide (s.vread.1 % 2 = 1), (s.vread.2.vread.1 : Int), zagZ (s.vread.1 / 2)⟩, s.vread.2.vread.2)
 else (decZ, s.vread.2.vread.2.fail (decBad (decide (s.vread.1 % 2 = 1)) (s.vread.2.vread.1 : Int) (zagZ (s.vread.1 / 2))) s.pos)
/-! What is put. -/
def decN (d : DecS) : Nat := 2 * zigN d.f2 + (if d.f0 = true then 1 else 0)
def pdec (d : DecS) : List Int := vput (decN d) ++ vput d.f1.toNat
def pdecs (l : List DecS) : List Int := l.flatMap pdec
def ptags : List ByteArray → List TagS → List Int × List ByteArray
 | ws, [] => ([], ws)
 | ws, t :: l => ((dput ws t.f0).1 ++ (dput (dput ws t.f0).2.2 t.f1).1 ++ (ptags (dput (dput ws t.f0).2.2 t.f1).2.2 l).1, (ptags (dput (dput ws t.f0).2.2 t.f1).2.2 l).2)
def pmet (ws : List ByteArray) (m : MetS) : List Int × List ByteArray :=
 ((dput ws m.f0).1 ++ [m.f1] ++ vput m.f2.length ++ pdecs m.f2 ++ vput m.f3.toNat ++ vput m.f4.length ++ (ptags (dput ws m.f0).2.2 m.f4).1 ++ vput m.f5.toNat, (ptags (dput ws m.f0).2.2 m.f4).2)
def pcode (ws : List ByteArray) (m : MetS) : Int := if metBad m = 0 then (if tIs m.f4 = true then (if 65471 < ws.length then 12 else 0) else 21) else metBad m
/-! The parts of a metric that is right. -/
theorem metParts {m : MetS} (h : metBad m = 0) : (1 ≤ m.f0.size ∧ m.f0.size ≤ 200 ∧ badI (clsB 1) m.f0 < 0) ∧ (1 ≤ m.f1 ∧ m.f1 ≤ 5) ∧ ((1 ≤ m.f2.length ∧ m.f2.length ≤ 64) ∧ ∀ d ∈ m.f2, decBad d.f0 d.f1 d.f2 = 0) ∧ ((1 ≤ m.f3 ∧ m.f3 ≤ 1000000) ∧ (m.f1 = 2 → m.f3 = 1000000)) ∧ (m.f4.length ≤ 32 ∧ ∀ t ∈ m.f4, tagBad t.f0 t.f1 = 0) ∧ (0 ≤ m.f5 ∧ m.f5 ≤ 1099511627776) := by
 have hq : metPart m 0 = true ∧ metPart m 1 = true ∧ metPart m 2 = true ∧ metPart m 3 = true ∧ metPart m 4 = true ∧ metPart m 5 = true := by
  unfold metBad at h
  repeat' split at h
  all_goals first | (exfalso; omega) | (simp_all)
 obtain ⟨q0, q1, q2, q3, q4, q5⟩ := hq
 have q0 : txOk 1 m.f0 1 200 = true := q0
 have q1 : betB m.f1 1 5 = true := q1
 have q2 : (betB m.f2.length 1 64 && !(m.f2.any decW)) = true := q2
 have q3 : (betB m.f3 1 1000000 && (m.f1 != 2 || m.f3 == 1000000)) = true := q3
 have q4 : (decide ((m.f4.length : Int) ≤ 32) && !(m.f4.any tagW)) = true := q4
 have q5 : betB m.f5 0 1099511627776 = true := q5
 have r0 := (txOk_iff 1 m.f0 1 200 rfl (by omega)).1 q0
 unfold betB at q1 q2 q3 q5
 simp only [Bool.and_eq_true, decide_eq_true_eq, Bool.not_eq_true', List.any_eq_false] at q1 q2 q3 q4 q5
 refine ⟨⟨by omega, by omega, r0.2.2⟩, q1, ⟨by omega, fun d hd => ?_⟩, ⟨q3.1, fun e => ?_⟩, ⟨by omega, fun t ht => ?_⟩, q5⟩
 ·have := q2.2 d hd
  unfold decW at this
  simpa using this
 ·have := q3.2
  rw [e] at this
  simpa using this
 ·have := q4.2 t ht
  unfold tagW at this
  simpa using this
theorem metBad_mk {m : MetS} (h0 : 1 ≤ m.f0.size ∧ m.f0.size ≤ 200 ∧ badI (clsB 1) m.f0 < 0) (h1 : 1 ≤ m.f1 ∧ m.f1 ≤ 5) (h2 : (1 ≤ m.f2.length ∧ m.f2.length ≤ 64) ∧ ∀ d ∈ m.f2, decBad d.f0 d.f1 d.f2 = 0) (h3 : (1 ≤ m.f3 ∧ m.f3 ≤ 1000000) ∧ (m.f1 = 2 → m.f3 = 1000000)) (h4 : m.f4.length ≤ 32 ∧ ∀ t ∈ m.f4, tagBad t.f0 t.f1 = 0) (h5 : 0 ≤ m.f5 ∧ m.f5 ≤ 1099511627776) : metBad m = 0 := by
 have q0 : metPart m 0 = true := (txOk_iff 1 m.f0 1 200 rfl (by omega)).2 ⟨by omega, by omega, h0.2.2⟩
 have q1 : metPart m 1 = true := by
  show betB m.f1 1 5 = true
  unfold betB
  simp only [Bool.and_eq_true, decide_eq_true_eq]
  exact h1
 have q2 : metPart m 2 = true := by
  show (betB m.f2.length 1 64 && !(m.f2.any decW)) = true
  unfold betB
  simp only [Bool.and_eq_true, decide_eq_true_eq, Bool.not_eq_true', List.any_eq_false]
  refine ⟨by omega, fun d hd => ?_⟩
  have := h2.2 d hd
  unfold decW
  simp [this]
 have q3 : metPart m 3 = true := by
  show (betB m.f3 1 1000000 && (m.f1 != 2 || m.f3 == 1000000)) = true
  unfold betB
  simp only [Bool.and_eq_true, decide_eq_true_eq]
  refine ⟨h3.1, ?_⟩
  by_cases e : m.f1 = 2
  ·rw [h3.2 e]; simp
  ·simp [e]
 have q4 : metPart m 4 = true := by
  show (decide ((m.f4.length : Int) ≤ 32) && !(m.f4.any tagW)) = true
  simp only [Bool.and_eq_true, decide_eq_true_eq, Bool.not_eq_true', List.any_eq_false]
  refine ⟨by omega, fun t ht => ?_⟩
  have := h4.2 t ht
  unfold tagW
  simp [this]
 have q5 : metPart m 5 = true := by
  show betB m.f5 0 1099511627776 = true
  unfold betB
  simp only [Bool.and_eq_true, decide_eq_true_eq]
  exact h5
 unfold metBad
 rw [q0, q1, q2, q3, q4, q5]
 rfl
/-! Put, then taken. -/
section
variable {A : Option Addr} {c p : Nat} {B rest : List Int}
theorem decBad_small {d : DecS} (h : decBad d.f0 d.f1 d.f2 = 0) : -18 ≤ d.f2 ∧ d.f2 ≤ 18 := by
 unfold decBad at h
 split at h
 ·cases h
 ·rename_i h1
  by_cases h0 : d.f1 = 0
  ·rw [if_pos h0] at h
   split at h
   ·rename_i h2
    omega
   ·cases h
  ·omega
theorem decN_lt {d : DecS} (h : decBad d.f0 d.f1 d.f2 = 0) : decN d < 128 := by
 have := decBad_small h
 unfold decN zigN
 split <;> split <;> omega
theorem dput_grow (ws : List ByteArray) (s : ByteArray) : (dput ws s).2.2.length ≤ ws.length + 1 := by
 unfold dput
 split
 ·simp
 ·split
  ·simp
  ·simp
theorem tagBad_ok {k v : ByteArray} (h : tagBad k v = 0) : (1 ≤ k.size ∧ k.size ≤ 64 ∧ badI (clsB 2) k < 0) ∧ v.size ≤ 100 ∧ badI (clsB 3) v < 0 := by
 unfold tagBad at h
 split at h
 ·rename_i h1
  have h2 := (txOk_iff 2 k 1 64 rfl (by omega)).1 h1.1
  have h3 := (txOk_iff 3 v 0 100 rfl (by omega)).1 h1.2
  exact ⟨⟨by omega, by omega, h2.2.2⟩, by omega, h3.2.2⟩
 ·cases h
end
/-! Taken, then put. -/
/-! A Cur that is wrong has an error's number. -/
theorem gdec_sane {s : Cu} (h : s.sane) : (gdec s).2.sane := by
 unfold gdec
 split
 ·exact h.vread.vread
 ·split
  ·exact h.vread.vread
  ·exact h.vread.vread.fail _ _
/-! The bytes may lie elsewhere. -/
section
variable (A : Option Addr) (c : Nat)
theorem re_gdec (s : Cu) : gdec (s.re A c) = ((gdec s).1, (gdec s).2.re A c) := by
 unfold gdec
 rw [re_vread]
 simp only
 rw [re_vread]
 simp only [re_pos, re_fail, re_fine]
 split
 ·rfl
 ·split <;> rfl
end
end Go.Proofs.Ytclbmdblalgdjaa
/- Package rec: what its walks lean on: a Cur and a dictionary that turns, and what lies beside them; no condition. -/
namespace Go.Proofs.Ytclbmdblalgdjaa
open Go.RowKit Go.Proofs.YtclbmdblalgdjaaW.PrintWords Go.Proofs.YtclbmdblalgdjaaW.PrintLast Go.Proofs.YtclbmdblalgdjaaW.PrintMore Go.Proofs.Ytclbmdblalgdjaa.PE
set_option linter.unusedVariables false
set_option linter.unusedSimpArgs false
theorem DicAt.nblk {d : Dic} {W : World} (h : DicAt d W) {b t : Nat} {cells : Array Value} (hb : W.heap[b]? = some (.cells cells t (0, 0))) (h1 : t ≠ 93) (h2 : t ≠ 9) : ¬ d.F b := by
 rintro (e | e | e)
 ·have e : b = d.g := e
  rw [e, h.blk] at hb
  injection hb with hb
  injection hb with _ hb
  exact h1 hb.symm
 ·have e : b = d.gm := e
  obtain ⟨es, c, h3⟩ := h.map.blk
  rw [e, h3] at hb
  cases hb
 ·have e : some b = d.v.ownBlock := e
  obtain ⟨cs, hc⟩ := Kd.R_typed h.row b e.symm
  rw [hb] at hc
  injection hc with hc
  injection hc with _ hc
  exact h2 hc
theorem CurAt.nblk {ok : Nat → Prop} {g : Nat} {s : Cu} {W : World} (h : CurAt ok g s W) {b t : Nat} {cells : Array Value} (hb : W.heap[b]? = some (.cells cells t (0, 0))) (h1 : t ≠ 98) : b ≠ g := by
 rintro rfl
 rw [h.blk] at hb
 injection hb with hb
 injection hb with _ hb
 exact h1 hb.symm
section
variable {ok : Nat → Prop} {g : Nat} {d : Dic} {s s' : Cu} {v : Value} {ws ws' : List ByteArray} {w W W' : World}
end
section
variable {α : Type} {kd : Kd α} {e base : Nat} {ok ok' : Nat → Prop} {g : Nat} {d : Dic} {s : Cu} {x : Value} {xs : List α} {W W' : World}
theorem cur_blk {b t : Nat} {cells : Array Value} (h1 : t ≠ 98) (hc : CurAt ok g s W) (hg : Chg (fun k => k = g) W W') (hb : W.heap[b]? = some (.cells cells t (0, 0))) : W'.heap[b]? = some (.cells cells t (0, 0)) :=
 (hg.block b (blk_lt hb) (hc.nblk hb h1)).trans hb
end
end Go.Proofs.Ytclbmdblalgdjaa
/- varint.Zig, Zag, and the reference's answers: what they tell; no condition. -/
namespace Go.Proofs.Ytclbmdblalgdjaa
open Go.RowKit Go.Proofs.YtclbmdblalgdjaaW.PrintWords Go.Proofs.YtclbmdblalgdjaaW.PrintLast Go.Proofs.YtclbmdblalgdjaaW.PrintMore
set_option linter.unusedVariables false
set_option maxHeartbeats 1000000 in
set_option maxRecDepth 100000 in
theorem zig_calls (n : Int) (h0 : -9223372036854775808 ≤ n) (h1 : n ≤ 9223372036854775807) (w : World) :
  Calls Try.prog 48 #[.int .i64 n] w fun e w' => e = .returned (.int .u64 (zigN n)) ∧ Below w.heap.size w w' := by
 have HB := Aside0.mk (And.intro h0 h1)
 clear h0 h1
 by_cases h : n < 0
 ·have H := Aside0.mk h
  go_enter Try.func48, Try.ntmps48
  go_wp2
  go_ret
  exact ⟨by rw [← zig_neg HB.out.1 H.out]; rfl, by repeat (first | exact Below.refl _ _ | apply below_alloc | apply below_drew1)⟩
 ·have H := Aside0.mk h
  go_enter Try.func48, Try.ntmps48
  go_wp2
  go_ret
  exact ⟨by rw [← zig_pos (by have := H.out; omega) HB.out.2]; rfl, by repeat (first | exact Below.refl _ _ | apply below_alloc | apply below_drew1)⟩
set_option maxHeartbeats 1000000 in
set_option maxRecDepth 100000 in
theorem zag_calls (m : Nat) (hm : m < 18446744073709551616) (w : World) :
  Calls Try.prog 52 #[.int .u64 m] w fun e w' => e = .returned (.int .i64 (zagZ m)) ∧ w = w' := by
 have HB := Aside0.mk hm
 have ha : bits .and .u64 (m : Int) 1 = ((m % 2 : Nat) : Int) := by rw [and_one_u64 _ (by omega) (by omega)]; rfl
 clear hm
 by_cases h : m % 2 = 1
 ·have hb : (bits .and .u64 (m : Int) 1 == 1) = true := by rw [ha, h]; rfl
  have H := Aside0.mk h
  clear h ha
  go_enter Try.func52, Try.ntmps52
  go_wp2
  go_ret
  exact ⟨by rw [← zag_odd HB.out H.out]; rfl, rfl⟩
 ·have hb : (bits .and .u64 (m : Int) 1 == 1) = false := by rw [ha, show m % 2 = 0 from by omega]; rfl
  have H := Aside0.mk h
  clear h ha
  have hz : zagZ m = wrap64 ((m : Int) / 2) := by
   have := HB.out
   unfold zagZ wrap64; rw [if_neg H.out]; omega
  have HZ := Aside0.mk hz
  clear hz
  go_enter Try.func52, Try.ntmps52
  go_wp2
  go_ret
  exact ⟨by rw [HZ.out]; rfl, rfl⟩
set_option maxHeartbeats 1000000 in
set_option maxRecDepth 100000 in
theorem refzig_calls (n : Int) (h0 : -9223372036854775808 ≤ n) (h1 : n ≤ 9223372036854775807) (w : World) :
  Calls Try.prog 49 #[.int .i64 n] w fun e w' => e = .returned (.int .u64 (zigN n)) ∧ w = w' := by
 have HB := Aside0.mk (And.intro h0 h1)
 clear h0 h1
 by_cases h : n < 0
 ·have H := Aside0.mk h
  go_enter Try.func49, Try.ntmps49
  go_wp2
  go_ret
  exact ⟨by rw [← refzig_neg HB.out.1 H.out]; rfl, rfl⟩
 ·have H := Aside0.mk h
  go_enter Try.func49, Try.ntmps49
  go_wp2
  go_ret
  exact ⟨by rw [← refzig_pos (by have := H.out; omega) HB.out.2]; rfl, rfl⟩
end Go.Proofs.Ytclbmdblalgdjaa
/- The document's answer for rec: what its walks lean on: a Cur and a dictionary that turns; no condition. -/
namespace Go.Proofs.Ytclbmdblalgdjaa
open Go.RowKit Go.Proofs.YtclbmdblalgdjaaW.PrintWords Go.Proofs.YtclbmdblalgdjaaW.PrintLast Go.Proofs.YtclbmdblalgdjaaW.PrintMore Go.Proofs.Ytclbmdblalgdjaa.PE
set_option linter.unusedVariables false
set_option linter.unusedSimpArgs false
theorem RCuAt.nblk {B g : Nat} {s : Cu} {W : World} (h : RCuAt B g s W) {b t : Nat} {cells : Array Value} (hb : W.heap[b]? = some (.cells cells t (0, 0))) (h1 : t ≠ 58) : b ≠ g := by
 rintro rfl
 rw [h.blk] at hb
 injection hb with hb
 injection hb with _ hb
 exact h1 hb.symm
section
variable {B g : Nat} {d : RDic} {s s' : Cu} {v : Value} {ws ws' : List ByteArray} {w W W' : World}
end
section
variable {α : Type} {kd : Kd α} {e base : Nat} {ok' : Nat → Prop} {B g : Nat} {d : RDic} {s : Cu} {x : Value} {xs : List α} {W W' : World}
end
end Go.Proofs.Ytclbmdblalgdjaa
/- Package rec: fine, bound, number, word, GetDec: what they tell and turn; no condition. -/
namespace Go.Proofs.Ytclbmdblalgdjaa
open Go.RowKit Go.Proofs.YtclbmdblalgdjaaW.PrintWords Go.Proofs.YtclbmdblalgdjaaW.PrintLast Go.Proofs.YtclbmdblalgdjaaW.PrintMore Go.Proofs.Ytclbmdblalgdjaa.PE
set_option linter.unusedVariables false
set_option linter.unusedSimpArgs false
attribute [local go_sem high] eqFault
set_option maxHeartbeats 1000000 in
set_option maxRecDepth 100000 in
theorem recfine_calls {ok : Nat → Prop} (g : Nat) (s : Cu) (w : World) (h : CurAt ok g s w) : Calls Try.prog 53 #[.pointer (some ⟨g, 0, none⟩)] w fun e w' => e = .returned (.bool s.fine) ∧ Below w.heap.size w w' := by
 have H := Aside0.mk h
 have HB := Aside0.mk (Below.refl w.heap.size w)
 clear h
 go_enter Try.func53, Try.ntmps53
 go_wp2_with fail
 with_reducible refine Calls.stepB (curfault_calls g s _ H.out) ⟨(by repeat (first | (with_reducible first | exact HB.out | apply below_alloc | apply pw_below_drewN | apply below_drew1) | exact HB.out))⟩ ?_
 clear HB
 intro w_ HK HB
 clear HK
 go_wp2
 go_ret
 exact ⟨rfl, (by repeat (first | (with_reducible first | exact HB.out | apply below_alloc | apply pw_below_drewN | apply below_drew1) | exact HB.out))⟩
/-! A word of so many bytes. -/
/-! A kind. -/
end Go.Proofs.Ytclbmdblalgdjaa
/- Package rec: GetDec: what it tells and turns; no condition. -/
namespace Go.Proofs.Ytclbmdblalgdjaa
open Go.RowKit Go.Proofs.YtclbmdblalgdjaaW.PrintWords Go.Proofs.YtclbmdblalgdjaaW.PrintLast Go.Proofs.YtclbmdblalgdjaaW.PrintMore Go.Proofs.Ytclbmdblalgdjaa.PE
set_option linter.unusedVariables false
set_option linter.unusedSimpArgs false
theorem box3 {W : World} {b T : Nat} {u0 u1 u2 : Value} (hb : W.heap[b]? = some (.cells #[u0, u1, u2] T (0, 0))) (v0 v1 v2 : Value) : (((W.setCell ⟨b, 0, none⟩ v0).setCell ⟨b, 1, none⟩ v1).setCell ⟨b, 2, none⟩ v2).heap[b]? = some (.cells #[v0, v1, v2] T (0, 0)) :=
 (blk_put ((blk_put ((blk_put hb 0 v0 rfl).trans rfl) 1 v1 rfl).trans rfl) 2 v2 rfl).trans rfl
theorem chg3 {W : World} {b : Nat} (v0 v1 v2 : Value) : Chg (fun k => k = b) W (((W.setCell ⟨b, 0, none⟩ v0).setCell ⟨b, 1, none⟩ v1).setCell ⟨b, 2, none⟩ v2) := (((Chg.refl _ _).set1 0 v0).set1 1 v1).set1 2 v2
theorem and_one_b {n : Nat} (h : n < 18446744073709551616) : (bits .and .u64 (n : Int) 1 == 1) = decide (n % 2 = 1) := by
 have ha : bits .and .u64 (n : Int) 1 = ((n % 2 : Nat) : Int) := by rw [and_one_u64 _ (by omega) (by omega)]; rfl
 rw [ha]
 by_cases h2 : n % 2 = 1
 ·rw [h2]; rfl
 ·have : n % 2 = 0 := by omega
  rw [this]; rfl
theorem zag_half (n : Nat) (h : n < 18446744073709551616) (w : World) : Calls Try.prog 52 #[.int .u64 ((n : Int) / 2)] w fun e w' => e = .returned (.int .i64 (zagZ (n / 2))) ∧ w = w' := zag_calls (n / 2) (by omega) w
set_option maxHeartbeats 4000000 in
set_option maxRecDepth 100000 in
theorem recgetdec_calls {ok : Nat → Prop} (g : Nat) (s : Cu) (w : World) (h : CurAt ok g s w) (hlo : ∀ k, ok k → k < w.heap.size) :
  Calls Try.prog 22 #[.pointer (some ⟨g, 0, none⟩)] w fun e w' => e = .returned (.agg #[.bool (gdec s).1.f0, .int .u64 (gdec s).1.f1, .int .i64 (gdec s).1.f2]) ∧ CurAt ok g (gdec s).2 w' ∧ Chg (fun k => k = g) w w' := by
 have HLO := Aside0.mk hlo
 have hn := vread_lt s h.bytes
 have hm : s.vread.2.vread.1 < 18446744073709551616 := vread_lt s.vread.2 (by rw [vread_b]; exact h.bytes)
 obtain ⟨n, s1, h1⟩ : ∃ n s1, s.vread = (n, s1) := ⟨_, _, rfl⟩
 obtain ⟨m, s2, h2⟩ : ∃ m s2, s1.vread = (m, s2) := ⟨_, _, rfl⟩
 rw [h1] at hn hm
 rw [h2] at hm
 have hn : n < 18446744073709551616 := hn
 have hm : m < 18446744073709551616 := hm
 have H1 := Aside0.mk h1
 have H2 := Aside0.mk h2
 have HN := Aside0.mk hn
 have HM := Aside0.mk hm
 obtain ⟨t, ht⟩ : ∃ t, decide (n % 2 = 1) = t := ⟨_, rfl⟩
 obtain ⟨x, hx⟩ : ∃ x, zagZ (n / 2) = x := ⟨_, rfl⟩
 obtain ⟨bd, hbd⟩ : ∃ bd, decBad t (m : Int) x = bd := ⟨_, rfl⟩
 have HT := Aside0.mk ht
 have HX := Aside0.mk hx
 have HBD := Aside0.mk hbd
 have HG0 : Aside0 (gdec s = if s2.fine = false then (decZ, s2) else if bd = 0 then (⟨t, (m : Int), x⟩, s2) else (decZ, s2.fail bd s.pos)) := ⟨by
  unfold gdec
  rw [h1]
  simp only
  rw [h2]
  simp only
  rw [ht, hx, hbd]⟩
 have hand : (bits .and .u64 (n : Int) 1 == 1) = t := by rw [and_one_b hn, ht]
 have HC := Aside0.mk h
 have HB := Aside0.mk (Below.refl w.heap.size w)
 clear h hlo h1 h2 hn hm ht hx hbd
 go_enter Try.func22, Try.ntmps22
 go_wp2_with (first | ((with_reducible refine gate_dst (N := 2) rfl ?_); refine box_event ?hg (N := 2) ?hd (cs := #[.bool false, .int .u64 0, .int .i64 0]) (t := 48) ?hr ?_; (case hd => rfl); (case hg => rfl); (case hr => first | (go_simp; done) | (go_simp; rfl)); intro b2 hgb2 w1 hbox hb; have GEb2 := Aside0.mk ((by rw [hgb2]; exact below_size HB.out) : w.heap.size ≤ b2); have n0 := Aside0.mk (below_step HB.out hb); clear HB; have HB := n0; clear n0; have n0 := Aside0.mk (HC.out.below hb); clear HC; have HC := n0; clear n0; have BK2 := Aside0.mk hbox; clear hgb2 hbox hb; (try clear zBK2_0); have zBK2_0 : w1.cell? ⟨b2, 0, none⟩ = some (.bool false) := (blk_cell BK2.out 0).trans rfl; (try clear zBK2_1); have zBK2_1 : w1.cell? ⟨b2, 1, none⟩ = some (.int .u64 0) := (blk_cell BK2.out 1).trans rfl; (try clear zBK2_2); have zBK2_2 : w1.cell? ⟨b2, 2, none⟩ = some (.int .i64 0) := (blk_cell BK2.out 2).trans rfl))
 have HG := Aside0.mk (Chg.of_below HB.out (fun k => k = g))
 refine (Calls.dB (curat_calls g s _ HC.out)).mono ?_
 rintro e w2 ⟨rfl, hb⟩
 clear zBK2_0 zBK2_1 zBK2_2
 have n0 := Aside0.mk (HC.out.below hb)
 have n1 := Aside0.mk (HG.out.below hb)
 have n2 := Aside0.mk (blk_below BK2.out hb)
 clear HC HG BK2 HB hb
 have HC := n0
 have HG := n1
 have BK2 := n2
 clear n0 n1 n2
 go_wp2_with fail
 refine (vread2 g HC.out H1.out).mono ?_
 rintro e w3 ⟨rfl, hc, hg⟩
 have n1 := Aside0.mk (HG.out.trans hg (fun _ h => .inl h))
 have n2 := Aside0.mk (cur_blk (by decide) HC.out hg BK2.out)
 clear HC HG BK2
 have HC := Aside0.mk hc
 have HG := n1
 have BK2 := n2
 clear n1 n2 hc hg
 go_wp2_with fail
 refine (zag_half n HN.out _).mono ?_
 rintro e w4 ⟨rfl, rfl⟩
 rw [HX.out]
 have hal : Below w3.heap.size w3 (w3.alloc (.cells #[.bool t, .int .u64 0, .int .i64 x] 48)) := below_alloc (Below.refl _ _) _
 have hbox := blk_new w3 (.cells #[.bool t, .int .u64 0, .int .i64 x] 48)
 generalize hw5 : w3.alloc (.cells #[.bool t, .int .u64 0, .int .i64 x] 48) = w5 at hal hbox
 obtain ⟨b5, hb5⟩ : ∃ b5, w3.heap.size = b5 := ⟨_, rfl⟩
 rw [hb5] at hbox
 have n0 := Aside0.mk (HC.out.below hal)
 have n1 := Aside0.mk (HG.out.below hal)
 have n2 := Aside0.mk (blk_below BK2.out hal)
 have BK5 := Aside0.mk hbox
 have HW5 := Aside0.mk (show w.heap.size ≤ b5 by rw [← hb5]; exact HG.out.size)
 have HNE := Aside0.mk (show b2 ≠ b5 by have := blk_lt BK2.out; omega)
 have HB5 := Aside0.mk hb5
 clear HC HG BK2 hal hbox
 have HC := n0
 have HG := n1
 have BK2 := n2
 clear n0 n1 n2
 go_wp2_with fail
 clear hw5
 try rw [HB5.out]
 clear hb5 HB5 hand
 refine (vread2 g HC.out H2.out).mono ?_
 rintro e w6 ⟨rfl, hc, hg⟩
 have n1 := Aside0.mk (HG.out.trans hg (fun _ h => .inl h))
 have n2 := Aside0.mk (cur_blk (by decide) HC.out hg BK2.out)
 have n3 := Aside0.mk (cur_blk (by decide) HC.out hg BK5.out)
 clear HC HG BK2 BK5
 have HC := Aside0.mk hc
 have HG := n1
 have BK2 := n2
 have BK5 := n3
 clear n1 n2 n3 hc hg
 have z1 : w6.cell? ⟨b5, 1, none⟩ = some (.int .u64 0) := (blk_cell BK5.out 1).trans rfl
 have f1 := blk_frozen BK5.out 1
 have n0 := Aside0.mk (HC.out.step ((Chg.refl (fun k => k = b5) w6).set1 1 (.int .u64 (m : Int))) (fun k hk e => by have := HLO.out k hk; have := HW5.out; omega))
 have n1 := Aside0.mk (HG.out.trans ((Chg.refl (fun k => k = b5) w6).set1 1 (.int .u64 (m : Int))) (fun k e => .inr (by rw [e]; exact HW5.out)))
 have n2 := Aside0.mk (blk_far (p := ⟨b5, 1, none⟩) BK2.out HNE.out (.int .u64 (m : Int)))
 have n3 := Aside0.mk ((blk_put BK5.out 1 (.int .u64 (m : Int)) rfl).trans rfl)
 generalize hw7 : w6.setCell ⟨b5, 1, none⟩ (.int .u64 (m : Int)) = w7 at n0 n1 n2 n3
 clear HC HG BK2 BK5
 have HC := n0
 have HG := n1
 have BK2 := n2
 have BK5 : Aside0 (w7.heap[b5]? = some (.cells #[.bool t, .int .u64 (m : Int), .int .i64 x] 48 (0, 0))) := ⟨n3.out⟩
 clear n0 n1 n2 n3
 go_wp2_with fail
 clear hw7 z1 f1
 refine (recfine_calls g s2 w7 HC.out).mono ?_
 rintro e w8 ⟨rfl, hb⟩
 have n0 := Aside0.mk (HC.out.below hb)
 have n1 := Aside0.mk (HG.out.below hb)
 have n2 := Aside0.mk (blk_below BK2.out hb)
 have n3 := Aside0.mk (blk_below BK5.out hb)
 clear HC HG BK2 BK5 hb
 have HC := n0
 have HG := n1
 have BK2 := n2
 have BK5 := n3
 clear n0 n1 n2 n3
 cases hf : s2.fine with
 | false =>
  have HF := Aside0.mk hf
  clear hf
  go_wp2_with fail
  refine (recfine_calls g s2 w8 HC.out).mono ?_
  rintro e w9 ⟨rfl, hb⟩
  rw [HF.out]
  have n0 := Aside0.mk (HC.out.below hb)
  have n1 := Aside0.mk (HG.out.below hb)
  have n2 := Aside0.mk (blk_below BK2.out hb)
  clear HC HG BK2 BK5 hb
  have z0 : w9.cell? ⟨b2, 0, none⟩ = some (.bool false) := (blk_cell n2.out 0).trans rfl
  have z1 : w9.cell? ⟨b2, 1, none⟩ = some (.int .u64 0) := (blk_cell n2.out 1).trans rfl
  have z2 : w9.cell? ⟨b2, 2, none⟩ = some (.int .i64 0) := (blk_cell n2.out 2).trans rfl
  have f0 := blk_frozen n2.out 0
  have f1 := blk_frozen n2.out 1
  have f2 := blk_frozen n2.out 2
  go_wp2
  refine bodyPost_ret (results_cell_row rfl _ _ b2 48 #[.bool false, .int .u64 0, .int .i64 0] (0, 0) _ rfl (box3 n2.out _ _ _) Try.underlying48 rfl (by kernel_rfl)) rfl ⟨?_, ?_, ?_⟩
  ·rw [HG0.out, if_pos HF.out]; rfl
  ·rw [HG0.out, if_pos HF.out]
   exact n0.out.step (chg3 _ _ _) (fun k hk e => by have := HLO.out k hk; have := GEb2.out; omega)
  ·exact n1.out.trans (chg3 _ _ _) (fun k e => .inr (by rw [e]; exact GEb2.out))
 | true =>
  have HF := Aside0.mk hf
  clear hf
  have z0 : w8.cell? ⟨b5, 0, none⟩ = some (.bool t) := (blk_cell BK5.out 0).trans rfl
  have z1 : w8.cell? ⟨b5, 1, none⟩ = some (.int .u64 (m : Int)) := (blk_cell BK5.out 1).trans rfl
  have z2 : w8.cell? ⟨b5, 2, none⟩ = some (.int .i64 x) := (blk_cell BK5.out 2).trans rfl
  go_wp2_with fail
  refine (deccheck_calls t (m : Int) x w8 ⟨by omega, by have := HM.out; omega⟩).mono ?_
  rintro e w9 ⟨rfl, hb⟩
  rw [HBD.out]
  have n0 := Aside0.mk (HC.out.below hb)
  have n1 := Aside0.mk (HG.out.below hb)
  have n2 := Aside0.mk (blk_below BK2.out hb)
  have n3 := Aside0.mk (blk_below BK5.out hb)
  clear HC HG BK2 BK5 hb z0 z1 z2
  have HC := n0
  have HG := n1
  have BK2 := n2
  have BK5 := n3
  clear n0 n1 n2 n3
  go_wp2_with fail
  refine (curfail_calls g s2 bd s.pos w9 HC.out).mono ?_
  rintro e wa ⟨rfl, hc, hg⟩
  have n1 := Aside0.mk (HG.out.trans hg (fun _ h => .inl h))
  have n2 := Aside0.mk (cur_blk (by decide) HC.out hg BK2.out)
  have n3 := Aside0.mk (cur_blk (by decide) HC.out hg BK5.out)
  clear HC HG BK2 BK5
  have HC := Aside0.mk hc
  have HG := n1
  have BK2 := n2
  have BK5 := n3
  clear n1 n2 n3 hc hg
  by_cases hz : bd = 0
  ·have e0 : s2.fail bd s.pos = s2 := by unfold Cu.fail; rw [if_neg (by rw [hz]; simp)]
   have HZ := Aside0.mk hz
   have n0 := HC.out
   rw [e0] at n0
   clear HC hz e0
   have HC := Aside0.mk n0
   clear n0
   go_wp2_with fail
   refine (recfine_calls g s2 wa HC.out).mono ?_
   rintro e wb ⟨rfl, hb⟩
   rw [HF.out]
   have n0 := Aside0.mk (HC.out.below hb)
   have n1 := Aside0.mk (HG.out.below hb)
   have n2 := Aside0.mk (blk_below BK2.out hb)
   have n3 := Aside0.mk (blk_below BK5.out hb)
   clear HC HG BK2 BK5 hb
   have z0 : wb.cell? ⟨b2, 0, none⟩ = some (.bool false) := (blk_cell n2.out 0).trans rfl
   have z1 : wb.cell? ⟨b2, 1, none⟩ = some (.int .u64 0) := (blk_cell n2.out 1).trans rfl
   have z2 : wb.cell? ⟨b2, 2, none⟩ = some (.int .i64 0) := (blk_cell n2.out 2).trans rfl
   have f0 := blk_frozen n2.out 0
   have f1 := blk_frozen n2.out 1
   have f2 := blk_frozen n2.out 2
   have y0 : wb.cell? ⟨b5, 0, none⟩ = some (.bool t) := (blk_cell n3.out 0).trans rfl
   have y1 : wb.cell? ⟨b5, 1, none⟩ = some (.int .u64 (m : Int)) := (blk_cell n3.out 1).trans rfl
   have y2 : wb.cell? ⟨b5, 2, none⟩ = some (.int .i64 x) := (blk_cell n3.out 2).trans rfl
   go_wp2
   refine bodyPost_ret (results_cell_row rfl _ _ b2 48 #[.bool t, .int .u64 (m : Int), .int .i64 x] (0, 0) _ rfl (box3 n2.out _ _ _) Try.underlying48 rfl (by kernel_rfl)) rfl ⟨?_, ?_, ?_⟩
   ·rw [HG0.out, if_neg (by rw [HF.out]; decide), if_pos HZ.out]
   ·rw [HG0.out, if_neg (by rw [HF.out]; decide), if_pos HZ.out]
    exact n0.out.step (chg3 _ _ _) (fun k hk e => by have := HLO.out k hk; have := GEb2.out; omega)
   ·exact n1.out.trans (chg3 _ _ _) (fun k e => .inr (by rw [e]; exact GEb2.out))
  ·have HZ := Aside0.mk hz
   have HNF := Aside0.mk (fail_fine (a := s.pos) HF.out hz)
   clear hz
   go_wp2_with fail
   refine (recfine_calls g (s2.fail bd s.pos) wa HC.out).mono ?_
   rintro e wb ⟨rfl, hb⟩
   rw [HNF.out]
   have n0 := Aside0.mk (HC.out.below hb)
   have n1 := Aside0.mk (HG.out.below hb)
   have n2 := Aside0.mk (blk_below BK2.out hb)
   clear HC HG BK2 BK5 hb
   have z0 : wb.cell? ⟨b2, 0, none⟩ = some (.bool false) := (blk_cell n2.out 0).trans rfl
   have z1 : wb.cell? ⟨b2, 1, none⟩ = some (.int .u64 0) := (blk_cell n2.out 1).trans rfl
   have z2 : wb.cell? ⟨b2, 2, none⟩ = some (.int .i64 0) := (blk_cell n2.out 2).trans rfl
   have f0 := blk_frozen n2.out 0
   have f1 := blk_frozen n2.out 1
   have f2 := blk_frozen n2.out 2
   go_wp2
   refine bodyPost_ret (results_cell_row rfl _ _ b2 48 #[.bool false, .int .u64 0, .int .i64 0] (0, 0) _ rfl (box3 n2.out _ _ _) Try.underlying48 rfl (by kernel_rfl)) rfl ⟨?_, ?_, ?_⟩
   ·rw [HG0.out, if_neg (by rw [HF.out]; decide), if_neg HZ.out]; rfl
   ·rw [HG0.out, if_neg (by rw [HF.out]; decide), if_neg HZ.out]
    exact n0.out.step (chg3 _ _ _) (fun k hk e => by have := HLO.out k hk; have := GEb2.out; omega)
   ·exact n1.out.trans (chg3 _ _ _) (fun k e => .inr (by rw [e]; exact GEb2.out))
end Go.Proofs.Ytclbmdblalgdjaa
/- The document's answer for rec: GetDec; no condition. -/
namespace Go.Proofs.Ytclbmdblalgdjaa
open Go.RowKit Go.Proofs.YtclbmdblalgdjaaW.PrintWords Go.Proofs.YtclbmdblalgdjaaW.PrintLast Go.Proofs.YtclbmdblalgdjaaW.PrintMore Go.Proofs.Ytclbmdblalgdjaa.PE
set_option linter.unusedVariables false
set_option linter.unusedSimpArgs false
attribute [local go_sem high] eqFault
set_option maxHeartbeats 1000000 in
set_option maxRecDepth 100000 in
theorem refzag_calls (n : Nat) (h : n < 9223372036854775808) (w : World) : Calls Try.prog 56 #[.int .u64 (n : Int)] w fun e w' => e = .returned (.int .i64 (zagZ n)) ∧ w = w' := by
 have H := Aside0.mk h
 have HU := Aside0.mk (show IntKind.u64.wrap ((n : Int) / 2) = (n : Int) / 2 from IntWalk.u64_in _ (by omega))
 have H1 := Aside0.mk (show wrap64 ((n : Int) / 2) = (n : Int) / 2 from IntWalk.wrap64_in _ (by omega))
 have H2 := Aside0.mk (show wrap64 (-((n : Int) / 2)) = -((n : Int) / 2) from IntWalk.wrap64_in _ (by omega))
 have H3 := Aside0.mk (show wrap64 (-((n : Int) / 2) - 1) = -((n : Int) / 2) - 1 from IntWalk.wrap64_in _ (by omega))
 clear h
 by_cases hp : n % 2 = 1
 ·have hb : ((n : Int) % 2 == 0) = false := by simp; omega
  have HP := Aside0.mk hp
  clear hp
  go_enter Try.func56, Try.ntmps56
  go_wp2
  go_ret
  refine ⟨?_, rfl⟩
  unfold zagZ
  rw [if_pos HP.out]
  exact congrArg (fun z => Ending.returned (Value.int .i64 z)) (show wrap64 (wrap64 (-wrap64 (IntKind.u64.wrap ((n : Int) / 2))) - 1) = _ by rw [HU.out, H1.out, H2.out, H3.out]; omega)
 ·have hb : ((n : Int) % 2 == 0) = true := by simp; omega
  have HP := Aside0.mk hp
  clear hp
  go_enter Try.func56, Try.ntmps56
  go_wp2
  go_ret
  refine ⟨?_, rfl⟩
  unfold zagZ
  rw [if_neg HP.out]
  exact congrArg (fun z => Ending.returned (Value.int .i64 z)) (show wrap64 (IntKind.u64.wrap ((n : Int) / 2)) = _ by rw [HU.out, H1.out]; omega)
theorem refzag_half (n : Nat) (h : n < 18446744073709551616) (w : World) : Calls Try.prog 56 #[.int .u64 ((n : Int) / 2)] w fun e w' => e = .returned (.int .i64 (zagZ (n / 2))) ∧ w = w' := refzag_calls (n / 2) (by omega) w
theorem refdc_calls (t : Bool) (c x : Int) (hc : 0 ≤ c ∧ c < 18446744073709551616) (w : World) : Calls Try.prog 57 #[.agg #[.bool t, .int .u64 c, .int .i64 x]] w fun e w' => e = .returned (.int .i64 (decBad t c x)) ∧ Below w.heap.size w w' := by
 obtain ⟨k, hk⟩ := Ev.rounds (refdec_ev t c x hc)
 exact forebayref03_Check.calls k t c x _ w hk
set_option maxHeartbeats 4000000 in
set_option maxRecDepth 100000 in
theorem refgetdec_calls {B : Nat} (g : Nat) (s : Cu) (w : World) (h : RCuAt B g s w) (hs : s.sane) :
  Calls Try.prog 23 #[.pointer (some ⟨g, 0, none⟩)] w fun e w' => e = .returned (.agg #[.bool (gdec s).1.f0, .int .u64 (gdec s).1.f1, .int .i64 (gdec s).1.f2]) ∧ RCuAt B g (gdec s).2 w' ∧ Chg (fun k => k = g) w w' := by
 have hn := vread_lt s h.bytes
 have hm : s.vread.2.vread.1 < 18446744073709551616 := vread_lt s.vread.2 (by rw [vread_b]; exact h.bytes)
 obtain ⟨n, s1, h1⟩ : ∃ n s1, s.vread = (n, s1) := ⟨_, _, rfl⟩
 obtain ⟨m, s2, h2⟩ : ∃ m s2, s1.vread = (m, s2) := ⟨_, _, rfl⟩
 have hs1 : s1.sane := by have := hs.vread; rw [h1] at this; exact this
 have hs2 : s2.sane := by have := hs1.vread; rw [h2] at this; exact this
 rw [h1] at hn hm
 rw [h2] at hm
 have hn : n < 18446744073709551616 := hn
 have hm : m < 18446744073709551616 := hm
 have H1 := Aside0.mk h1
 have H2 := Aside0.mk h2
 have HN := Aside0.mk hn
 have HM := Aside0.mk hm
 have HS := Aside0.mk hs
 have HS1 := Aside0.mk hs1
 have HS2 := Aside0.mk hs2
 obtain ⟨t, ht⟩ : ∃ t, decide (n % 2 = 1) = t := ⟨_, rfl⟩
 obtain ⟨x, hx⟩ : ∃ x, zagZ (n / 2) = x := ⟨_, rfl⟩
 obtain ⟨bd, hbd⟩ : ∃ bd, decBad t (m : Int) x = bd := ⟨_, rfl⟩
 have HT := Aside0.mk ht
 have HX := Aside0.mk hx
 have HBD := Aside0.mk hbd
 have HG0 : Aside0 (gdec s = if s2.fine = false then (decZ, s2) else if bd = 0 then (⟨t, (m : Int), x⟩, s2) else (decZ, s2.fail bd s.pos)) := ⟨by
  unfold gdec
  rw [h1]
  simp only
  rw [h2]
  simp only
  rw [ht, hx, hbd]⟩
 have HAND : Aside0 (((n : Int) % 2 == 1) = t) := ⟨by rw [← ht]; by_cases hq : n % 2 = 1 <;> simp [hq] <;> omega⟩
 have HU := Aside0.mk (show IntKind.u64.wrap ((n : Int) / 2) = (n : Int) / 2 from IntWalk.u64_in _ (by omega))
 have HC := Aside0.mk h
 have HLT := Aside0.mk (show B ≤ g ∧ g < w.heap.size from ⟨h.up, h.lt⟩)
 have HB := Aside0.mk (Below.refl w.heap.size w)
 clear h h1 h2 hn hm ht hx hbd hs hs1 hs2
 go_enter Try.func23, Try.ntmps23
 have BKC := Aside0.mk HC.out.blk
 go_wp2_with (first | ((with_reducible refine gate_dst (N := 2) rfl ?_); refine box_event ?hg (N := 2) ?hd (cs := #[.bool false, .int .u64 0, .int .i64 0]) (t := 48) ?hr ?_; (case hd => rfl); (case hg => rfl); (case hr => first | (go_simp; done) | (go_simp; rfl)); intro b2 hgb2 w1 hbox hb; have GEb2 := Aside0.mk ((by rw [hgb2]; exact below_size HB.out) : w.heap.size ≤ b2); have n0 := Aside0.mk (below_step HB.out hb); clear HB; have HB := n0; clear n0; have n0 := Aside0.mk (HC.out.below hb); clear HC; have HC := n0; clear n0; have n0 := Aside0.mk (blk_below BKC.out hb); clear BKC; have BKC := n0; clear n0; have BK2 := Aside0.mk hbox; clear hgb2 hbox hb; (try clear zBK2_0); have zBK2_0 : w1.cell? ⟨b2, 0, none⟩ = some (.bool false) := (blk_cell BK2.out 0).trans rfl; (try clear zBK2_1); have zBK2_1 : w1.cell? ⟨b2, 1, none⟩ = some (.int .u64 0) := (blk_cell BK2.out 1).trans rfl; (try clear zBK2_2); have zBK2_2 : w1.cell? ⟨b2, 2, none⟩ = some (.int .i64 0) := (blk_cell BK2.out 2).trans rfl; (try clear zBKC_0); have zBKC_0 : w1.cell? ⟨g, 0, none⟩ = some (.slice s.A s.b.length s.c) := (blk_cell BKC.out 0).trans rfl; (try clear zBKC_1); have zBKC_1 : w1.cell? ⟨g, 1, none⟩ = some (.int .i64 s.pos) := (blk_cell BKC.out 1).trans rfl))
 have HG := Aside0.mk (Chg.of_below HB.out (fun k => k = g))
 refine (number2 g HC.out HS.out H1.out).mono ?_
 rintro e w3 ⟨rfl, hc, hg⟩
 have n1 := Aside0.mk (HG.out.trans hg (fun _ h => .inl h))
 have n2 := Aside0.mk ((hg.block b2 (blk_lt BK2.out) (HC.out.nblk BK2.out (by decide))).trans BK2.out)
 clear HC HG BK2 BKC HB zBK2_0 zBK2_1 zBK2_2 zBKC_0 zBKC_1
 have HC := Aside0.mk hc
 have HG := n1
 have BK2 := n2
 clear n1 n2 hc hg
 go_wp2_with fail
 refine (number2 g HC.out HS1.out H2.out).mono ?_
 rintro e w4 ⟨rfl, hc, hg⟩
 have n1 := Aside0.mk (HG.out.trans hg (fun _ h => .inl h))
 have n2 := Aside0.mk ((hg.block b2 (blk_lt BK2.out) (HC.out.nblk BK2.out (by decide))).trans BK2.out)
 clear HC HG BK2
 have HC := Aside0.mk hc
 have HG := n1
 have BK2 := n2
 clear n1 n2 hc hg
 have z0 : w4.cell? ⟨b2, 0, none⟩ = some (.bool false) := (blk_cell BK2.out 0).trans rfl
 have z1 : w4.cell? ⟨b2, 1, none⟩ = some (.int .u64 0) := (blk_cell BK2.out 1).trans rfl
 have z2 : w4.cell? ⟨b2, 2, none⟩ = some (.int .i64 0) := (blk_cell BK2.out 2).trans rfl
 have f0 := blk_frozen BK2.out 0
 have f1 := blk_frozen BK2.out 1
 have f2 := blk_frozen BK2.out 2
 rcases HS2.out.cases with ⟨hf, hco, hfa⟩ | ⟨hf, hco⟩
 ·have HF := Aside0.mk hf
  have c2 : w4.cell? ⟨g, 2, none⟩ = some (.int .i64 0) := (blk_cell HC.out.blk 2).trans (by rw [← hco]; rfl)
  have c3 : w4.cell? ⟨g, 3, none⟩ = some (.int .i64 0) := (blk_cell HC.out.blk 3).trans (by rw [← hfa]; rfl)
  have hu := HU.out
  have hand := HAND.out
  clear hf hco hfa z0 z1 z2
  go_wp2_with fail
  refine (refzag_half n HN.out w4).mono ?_
  rintro e w5 ⟨rfl, rfl⟩
  rw [HX.out]
  have hal : Below w4.heap.size w4 (w4.alloc (.cells #[.bool t, .int .u64 (m : Int), .int .i64 x] 48)) := below_alloc (Below.refl _ _) _
  have hbox := blk_new w4 (.cells #[.bool t, .int .u64 (m : Int), .int .i64 x] 48)
  generalize hw5 : w4.alloc (.cells #[.bool t, .int .u64 (m : Int), .int .i64 x] 48) = w5 at hal hbox
  obtain ⟨b6, hb6⟩ : ∃ b6, w4.heap.size = b6 := ⟨_, rfl⟩
  rw [hb6] at hbox
  have n0 := Aside0.mk (HC.out.below hal)
  have n1 := Aside0.mk (HG.out.below hal)
  have n2 := Aside0.mk (blk_below BK2.out hal)
  have BK6 := Aside0.mk hbox
  have HB6 := Aside0.mk hb6
  clear HC HG BK2 hal hbox c2 c3 f0 f1 f2
  have HC := n0
  have HG := n1
  have BK2 := n2
  clear n0 n1 n2
  have z0 : w5.cell? ⟨b6, 0, none⟩ = some (.bool t) := (blk_cell BK6.out 0).trans rfl
  have z1 : w5.cell? ⟨b6, 1, none⟩ = some (.int .u64 (m : Int)) := (blk_cell BK6.out 1).trans rfl
  have z2 : w5.cell? ⟨b6, 2, none⟩ = some (.int .i64 x) := (blk_cell BK6.out 2).trans rfl
  go_wp2_with fail
  clear hw5
  try rw [HB6.out]
  clear hb6 HB6 hand hu
  refine (refdc_calls t (m : Int) x ⟨by omega, by have := HM.out; omega⟩ w5).mono ?_
  rintro e w6 ⟨rfl, hb⟩
  rw [HBD.out]
  have n0 := Aside0.mk (HC.out.below hb)
  have n1 := Aside0.mk (HG.out.below hb)
  have n2 := Aside0.mk (blk_below BK2.out hb)
  have n3 := Aside0.mk (blk_below BK6.out hb)
  clear HC HG BK2 BK6 hb z0 z1 z2
  have HC := n0
  have HG := n1
  have BK2 := n2
  have BK6 := n3
  clear n0 n1 n2 n3
  by_cases hz : bd = 0
  ·have HZ := Aside0.mk hz
   subst hz
   have z0 : w6.cell? ⟨b2, 0, none⟩ = some (.bool false) := (blk_cell BK2.out 0).trans rfl
   have z1 : w6.cell? ⟨b2, 1, none⟩ = some (.int .u64 0) := (blk_cell BK2.out 1).trans rfl
   have z2 : w6.cell? ⟨b2, 2, none⟩ = some (.int .i64 0) := (blk_cell BK2.out 2).trans rfl
   have f0 := blk_frozen BK2.out 0
   have f1 := blk_frozen BK2.out 1
   have f2 := blk_frozen BK2.out 2
   have y0 : w6.cell? ⟨b6, 0, none⟩ = some (.bool t) := (blk_cell BK6.out 0).trans rfl
   have y1 : w6.cell? ⟨b6, 1, none⟩ = some (.int .u64 (m : Int)) := (blk_cell BK6.out 1).trans rfl
   have y2 : w6.cell? ⟨b6, 2, none⟩ = some (.int .i64 x) := (blk_cell BK6.out 2).trans rfl
   go_wp2
   refine bodyPost_ret (results_cell_row rfl _ _ b2 48 #[.bool t, .int .u64 (m : Int), .int .i64 x] (0, 0) _ rfl (box3 BK2.out _ _ _) Try.underlying48 rfl (by kernel_rfl)) rfl ⟨?_, ?_, ?_⟩
   ·rw [HG0.out, if_neg (by rw [HF.out]; decide), if_pos trivial]
   ·rw [HG0.out, if_neg (by rw [HF.out]; decide), if_pos trivial]
    exact HC.out.step (chg3 _ _ _) (fun k hk => by have := GEb2.out; have := HLT.out; omega) (fun e => by have := GEb2.out; have := HLT.out; omega)
   ·exact HG.out.trans (chg3 _ _ _) (fun k e => .inr (by rw [e]; exact GEb2.out))
  ·have HZ := Aside0.mk hz
   have hzb : (bd != 0) = true := bne_iff_ne.mpr hz
   clear hz
   go_wp2_with fail
   refine (rfail_calls g s2 bd s.pos w6 HC.out HS2.out).mono ?_
   rintro e w7 ⟨rfl, hc, hg⟩
   have n1 := Aside0.mk (HG.out.trans hg (fun _ h => .inl h))
   have n2 := Aside0.mk ((hg.block b2 (blk_lt BK2.out) (HC.out.nblk BK2.out (by decide))).trans BK2.out)
   clear HC HG BK2 BK6
   have HC := Aside0.mk hc
   have HG := n1
   have BK2 := n2
   clear n1 n2 hc hg
   have z0 : w7.cell? ⟨b2, 0, none⟩ = some (.bool false) := (blk_cell BK2.out 0).trans rfl
   have z1 : w7.cell? ⟨b2, 1, none⟩ = some (.int .u64 0) := (blk_cell BK2.out 1).trans rfl
   have z2 : w7.cell? ⟨b2, 2, none⟩ = some (.int .i64 0) := (blk_cell BK2.out 2).trans rfl
   have f0 := blk_frozen BK2.out 0
   have f1 := blk_frozen BK2.out 1
   have f2 := blk_frozen BK2.out 2
   go_wp2
   refine bodyPost_ret (results_cell_row rfl _ _ b2 48 #[.bool false, .int .u64 0, .int .i64 0] (0, 0) _ rfl (box3 BK2.out _ _ _) Try.underlying48 rfl (by kernel_rfl)) rfl ⟨?_, ?_, ?_⟩
   ·rw [HG0.out, if_neg (by rw [HF.out]; decide), if_neg HZ.out]; rfl
   ·rw [HG0.out, if_neg (by rw [HF.out]; decide), if_neg HZ.out]
    exact HC.out.step (chg3 _ _ _) (fun k hk => by have := GEb2.out; have := HLT.out; omega) (fun e => by have := GEb2.out; have := HLT.out; omega)
   ·exact HG.out.trans (chg3 _ _ _) (fun k e => .inr (by rw [e]; exact GEb2.out))
 ·have HF := Aside0.mk hf
  have c2 := (blk_cell HC.out.blk 2).trans rfl
  have c3 := (blk_cell HC.out.blk 3).trans rfl
  have hcb : (s2.code == 0) = false := beq_eq_false_iff_ne.mpr hco
  clear hf hco
  go_wp2
  refine bodyPost_ret (results_cell_row rfl _ _ b2 48 #[.bool false, .int .u64 0, .int .i64 0] (0, 0) _ rfl (box3 BK2.out _ _ _) Try.underlying48 rfl (by kernel_rfl)) rfl ⟨?_, ?_, ?_⟩
  ·rw [HG0.out, if_pos HF.out]; rfl
  ·rw [HG0.out, if_pos HF.out]
   exact HC.out.step (chg3 _ _ _) (fun k hk => by have := GEb2.out; have := HLT.out; omega) (fun e => by have := GEb2.out; have := HLT.out; omega)
  ·exact HG.out.trans (chg3 _ _ _) (fun k e => .inr (by rw [e]; exact GEb2.out))
end Go.Proofs.Ytclbmdblalgdjaa
