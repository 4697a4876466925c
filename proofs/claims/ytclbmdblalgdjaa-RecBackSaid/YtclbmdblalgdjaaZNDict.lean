/- Package dict: New, Len, add, Put, Words: what they tell and turn; no condition. -/
import Derived.Test.YtclbmdblalgdjaaZNDictPl
import Derived.Test.YtclbmdblalgdjaaZNCurNil
import Derived.Test.YtclbmdblalgdjaaZNInjV
import Derived.Maps.OwnOps
import Derived.Maps.OwnSet
import Derived.StringKeys
namespace Go.Proofs.Ytclbmdblalgdjaa
open Go.RowKit Go.Proofs.YtclbmdblalgdjaaW.PrintWords Go.Proofs.YtclbmdblalgdjaaW.PrintLast Go.Proofs.YtclbmdblalgdjaaW.PrintMore
set_option linter.unusedVariables false
set_option linter.unusedSimpArgs false
structure Dic where
 g : Nat
 gm : Nat
 v : Value
 ws : List ByteArray
def Dic.F (d : Dic) (k : Nat) : Prop := k = d.g ∨ k = d.gm ∨ some k = d.v.ownBlock
def MapIs (gm : Nat) (ws : List ByteArray) (w : World) : Prop := ∃ D : DataW Unit, Tells D ws ∧ w.ownsMap Try.prog 9 (plainElem Try.prog 3) gm ws.length D
structure DicAt (d : Dic) (w : World) : Prop where
 blk : w.heap[d.g]? = some (.cells #[d.v, .map (some d.gm)] 93 (0, 0))
 map : MapIs d.gm d.ws w
 row : Kd.string.R 9 w 0 (fun k => some k = d.v.ownBlock) d.v d.ws
 few : d.ws.length ≤ 65536
 short : ∀ s ∈ d.ws, s.size ≤ 200
 nd : d.ws.Nodup
theorem MapIs.step {gm : Nat} {ws : List ByteArray} {w w' : World} (h : MapIs gm ws w) (hb : ∀ o, w.heap[gm]? = some o → w'.heap[gm]? = some o) : MapIs gm ws w' := by
 obtain ⟨D, hT, es, clock, h1, h2⟩ := h
 exact ⟨D, hT, es, clock, hb _ h1, h2⟩
theorem MapIs.lt {gm : Nat} {ws : List ByteArray} {w : World} (h : MapIs gm ws w) : gm < w.heap.size := by
 obtain ⟨D, hT, h⟩ := h
 exact h.lt
theorem MapIs.blk {gm : Nat} {ws : List ByteArray} {w : World} (h : MapIs gm ws w) : ∃ es c, w.heap[gm]? = some (.map es c) := by
 obtain ⟨D, hT, es, clock, h1, h2⟩ := h
 exact ⟨es, clock, h1⟩
section
variable {d : Dic} {w w' : World} {S : Nat → Prop}
theorem DicAt.step (h : DicAt d w) (hc : Chg S w w') (hs : ∀ k, d.F k → ¬ S k) : DicAt d w' where
 blk := (hc.block _ (blk_lt h.blk) (hs _ (.inl rfl))).trans h.blk
 map := h.map.step (fun o ho => (hc.block _ (blk_lt ho) (hs _ (.inr (.inl rfl)))).trans ho)
 row := Kd.R_step h.row (fun k hk hl => hc.block k hl (hs k (.inr (.inr hk))))
 few := h.few
 short := h.short
 nd := h.nd
theorem DicAt.below (h : DicAt d w) (hb : Below w.heap.size w w') : DicAt d w' := h.step (Chg.of_below hb (fun _ => False)) (fun _ _ h => h)
theorem DicAt.alloc (h : DicAt d w) (o : Obj) : DicAt d (w.alloc o) := h.below (below_alloc (Below.refl _ _) o)
theorem DicAt.lt (h : DicAt d w) : ∀ k, d.F k → k < w.heap.size := by
 rintro k (rfl | rfl | hk)
 ·exact blk_lt h.blk
 ·exact h.map.lt
 ·exact Kd.R_lt h.row k hk.symm
theorem DicAt.slice (h : DicAt d w) : ∃ A c, d.v = .slice A d.ws.length c ∧ d.ws.length ≤ c ∧ Kd.string.C w A d.ws.length d.ws := Kd.R_reads h.row
theorem DicAt.own_g (h : DicAt d w) : some d.g ≠ d.v.ownBlock := Kd.R_ne h.row h.blk (by decide)
theorem DicAt.own_gm (h : DicAt d w) : some d.gm ≠ d.v.ownBlock := by
 intro e
 obtain ⟨cells, h1⟩ := Kd.R_typed h.row d.gm e.symm
 obtain ⟨es, c, h2⟩ := h.map.blk
 rw [h1] at h2
 cases h2
theorem DicAt.ne (h : DicAt d w) : d.g ≠ d.gm := by
 intro e
 obtain ⟨es, c, h2⟩ := h.map.blk
 rw [← e, h.blk] at h2
 cases h2
end
def DTurn (d : Dic) (ws' : List ByteArray) (w w' : World) : Prop := ∃ v', DicAt ⟨d.g, d.gm, v', ws'⟩ w' ∧ Chg d.F w w' ∧ (v'.ownBlock = d.v.ownBlock ∨ ∃ k, v'.ownBlock = some k ∧ w.heap.size ≤ k)
theorem uM : Try.prog.underlying 91 = some (.map 9 3) := by kernel_rfl
theorem uSt : Try.prog.underlying 9 = some .string := by kernel_rfl
theorem uIn : Try.prog.underlying 3 = some (.int .i64) := by kernel_rfl
theorem uSs : Try.prog.underlying 22 = some (.slice 9) := by kernel_rfl
theorem iSs : (Try.prog.info? 9).map (fun i => (i.zero, i.size, i.bytes)) = some (some (.string ByteArray.empty), 1, 16) := by kernel_rfl
theorem zIn (w : World) : (zeroValue 3).run Try.prog w = .ok (.int .i64 0) w := by kernel_rfl
theorem kSt : Maps.Keyed Try.prog 9 := Maps.string_keyed uSt
section
variable {ops : Array Oper} {rest : List Oper} {o : Oper} {a : Act} {Q : Exit → Act → World → Prop} {W : World} {gm : Nat} {ws : List ByteArray} {s : ByteArray}
theorem dic_look (hg : o.guard = none) (m x : Operand) (hop : o.op = Op.lookup 91 m x true) (hm : a.eval m = .map (some gm)) (hx : a.eval x = .string s) (hs : s.size ≤ 9223372036854775807)
  (HM : MapIs gm ws W) {k : Nat} (hk : findW ws s = k) {b : Bool} (hb : decide (0 < k) = b) (h : wpList Try.prog ops Q rest (a.put o.dst (.tuple #[.int .i64 (k : Nat), .bool b])) W) : wpList Try.prog ops Q (o :: rest) a W := by
 obtain ⟨D, ⟨h1, h2, h3⟩, hown⟩ := HM
 refine wpList_lookup_own_ok_int (H := Unit) W hg m x _ hop 9 3 .i64 kSt uM uIn (zIn _) gm ws.length D hm hown (.string s) (kOf s) hx (Go.WideMaps.keyOf_string_mk uSt (by simpa [maxLen] using hs)) ?_
 intro c hat _
 rw [h3] at hat
 injection hat with hat
 injection hat with _ hat
 rw [← hat, h2, hk, hb]
 exact h
end
theorem dic_put {W : World} {gm n1 : Nat} {ws : List ByteArray} {s : ByteArray} (hs : s.size ≤ 9223372036854775807) (HM : MapIs gm ws W) (hnew : s ∉ ws) (hl : ws.length < 65536) (hn1 : n1 = ws.length + 1) :
  ∃ w', (Instr.mapUpdate 91 (.map (some gm)) (.string s) (.int .i64 ((n1 : Nat) : Int))).run Try.prog W = .ok () w' ∧ MapIs gm (ws ++ [s]) w' ∧ W.grownBy w' (some gm) := by
 subst hn1
 obtain ⟨D, hT, hown⟩ := HM
 obtain ⟨w', h1, h2, h3⟩ := hown.update kSt uM (by simp only [maxLen]; omega) (key := .string s) (kl := kOf s) (Go.WideMaps.keyOf_string_mk uSt (by simpa [maxLen] using hs)) (plainElem_int uIn (a := ((ws.length + 1 : Nat) : Int)) (by simp [Lit.wf, IntKind.min, IntKind.max, IntKind.bits, IntKind.signed]; omega))
 refine ⟨w', h1, ⟨_, hT.add s hnew, ?_⟩, h3⟩
 rw [List.length_append]
 exact h2
set_option maxHeartbeats 1000000 in
set_option maxRecDepth 100000 in
theorem dicnew_calls (w : World) : Calls Try.prog 34 #[] w fun e w' => e = .returned (.pointer (some ⟨w.heap.size + 1, 0, none⟩)) ∧ DicAt ⟨w.heap.size + 1, w.heap.size, .slice none 0 0, []⟩ w' ∧ Below w.heap.size w w' := by
 have hmm := @run_makeMap Try.prog
 go_enter Try.func34, Try.ntmps34
 go_wp2
 go_ret
 refine ⟨by simp, ⟨?_, ⟨.map [], tells_none, ?_⟩, Kd.R_nil _ _ _ _ _, by simp, by simp, by simp⟩, below_alloc (below_alloc (Below.refl _ _) _) _⟩
 ·have h := blk_new (w.alloc (.map #[] 0)) (.cells #[.slice none 0 0, .map (some w.heap.size)] 93)
  simpa using h
 ·exact (World.ownsMap_made w Try.prog 9 (plainElem Try.prog 3)).alloc _
set_option maxHeartbeats 1000000 in
set_option maxRecDepth 100000 in
theorem diclen_calls (d : Dic) (w : World) (h : DicAt d w) : Calls Try.prog 38 #[.pointer (some ⟨d.g, 0, none⟩)] w fun e w' => e = .returned (.int .i64 d.ws.length) ∧ w = w' := by
 obtain ⟨A, c, hv, hc, hC⟩ := h.slice
 have c0 := (blk_cell h.blk 0).trans rfl
 rw [hv] at c0
 clear h hv hC
 go_enter Try.func38, Try.ntmps38
 go_wp2
 go_ret
 exact ⟨rfl, rfl⟩
theorem Chg.of_grown {S : Nat → Prop} {w w' : World} {row : Option Nat} (h : w.grownBy w' row) (hs : ∀ k, row = some k → S k) : Chg S w w' :=
 ⟨h.os, h.tape, h.output, h.size, fun k hk hn => h.block k hk (fun e => hn (hs k e.symm))⟩
theorem R_app_str {P : Program} {ops : Array Oper} {rest : List Oper} {o : Oper} {a : Act} {Q : Exit → Act → World → Prop} {W : World} {s x : Operand} {t e : TypeId} {v : Value} {xs : List ByteArray} {p : ByteArray} {base : Nat} {ok : Nat → Prop} (hgd : o.guard = none)
  (ho : o.op = .call { callee := .builtin .append, args := #[s, x], argTypes := #[t, t] }) (hs : a.eval s = v) (hx : a.eval x = .slice (some ⟨W.heap.size, 0, none⟩) 1 1)
  (ht : P.underlying t = some (.slice e)) (hinfo : (P.info? e).map (fun i => (i.zero, i.size, i.bytes)) = some (some (.string ByteArray.empty), 1, 16))
  (HO : Kd.string.R e W base ok v xs) (hbase : base ≤ W.heap.size) (hl : xs.length < 8796093022207) {n1 : Nat} (hn1 : n1 = xs.length + 1)
  (h : ∀ g1 c1 w1, Kd.string.R e w1 base (fun k => some k = (Value.slice (some ⟨g1, 0, none⟩) n1 c1).ownBlock) (.slice (some ⟨g1, 0, none⟩) n1 c1) (xs ++ [p]) → W.grownBy w1 v.ownBlock → (some g1 = v.ownBlock ∨ W.heap.size ≤ g1) → g1 < w1.heap.size → wpList P ops Q rest (a.put o.dst (.slice (some ⟨g1, 0, none⟩) n1 c1)) w1) :
  wpList P ops Q (o :: rest) a (W.alloc (.cells #[.string p] e)) := by
 refine Kd.R_append Kd.string (w0 := W) base hgd s x t e (.string ByteArray.empty) 16 ho ht hinfo rfl (by decide) (by omega) v xs p [.string p] (fun _ => True) (fun _ => False) hs hx rfl (fun _ hk => hk.elim) (fun _ _ => trivial) (Kd.R_reok rfl HO (fun _ _ => trivial)) (Below.refl _ _ |>.mono hbase) hbase (by omega) ?_
 intro v1 w1 hR hb hg hat
 obtain ⟨g1, c1, rfl, h0, hlt, cells, hcells⟩ := Kd.R_form hR (by simp)
 rw [List.length_append] at hR hat ⊢
 have e1 : xs.length + [p].length = n1 := by rw [hn1]; rfl
 rw [e1] at hR hat ⊢
 refine h g1 c1 w1 (Kd.R_tight rfl hR) hg ?_ hlt
 rcases hat with hat | ⟨b, hb1, hb2⟩
 ·left; rw [← hat]; rfl
 ·right
  simp [Value.ownBlock] at hb1
  omega
set_option maxHeartbeats 2000000 in
set_option maxRecDepth 100000 in
theorem dicadd_calls (d : Dic) (s : ByteArray) (w : World) (h : DicAt d w) (hnew : s ∉ d.ws) (hs : s.size ≤ 200) (hl : d.ws.length < 65536) :
  Calls Try.prog 79 #[.pointer (some ⟨d.g, 0, none⟩), .string s] w fun e w' => e = .returned (.tuple #[]) ∧ DTurn d (d.ws ++ [s]) w w' := by
 have H := Aside0.mk h
 obtain ⟨A, c, hv, hc, hC⟩ := h.slice
 have c0 := (blk_cell h.blk 0).trans rfl
 have c1 := (blk_cell h.blk 1).trans rfl
 have hR := h.row
 have hgo := h.own_g
 rw [hv] at c0 hR hgo
 have HR := Aside0.mk hR
 have HGO := Aside0.mk hgo
 have HV := Aside0.mk hv
 have HN := Aside0.mk hnew
 obtain ⟨n1, hn1⟩ : ∃ n1, n1 = d.ws.length + 1 := ⟨_, rfl⟩
 have hn2 : n1 ≤ 65536 := by omega
 have HN1 := Aside0.mk hn1
 have HL := Aside0.mk hl
 clear h hv hC hnew hR hn1 hl hgo
 go_enter Try.func79, Try.ntmps79
 go_wp2_with (first | ((with_reducible refine gate_dst (N := 11) rfl ?_); at_builtin; go_must (refine R_app_str (v := .slice A d.ws.length c) rfl rfl rfl rfl uSs iSs HR.out (Nat.zero_le _) (by have := HL.out; omega) HN1.out ?_); intro g1 c1' w1 hr1 hg1 hat1 hlt1; have HR1 := Aside0.mk hr1; have HG1 := Aside0.mk hg1; have HAT := Aside0.mk hat1; have hblk := (hg1.block _ (blk_lt H.out.blk) HGO.out).trans H.out.blk; have HBLK := Aside0.mk hblk; have f0 := blk_frozen hblk 0; have c01 := (blk_cell hblk 0).trans rfl; have c11 := (blk_cell hblk 1).trans rfl; clear hr1 hg1 hat1 hblk))
 have HB2 := Aside0.mk ((blk_put HBLK.out 0 (.slice (some ⟨g1, 0, none⟩) n1 c1') rfl).trans rfl)
 have HM2 := Aside0.mk (H.out.map.step (fun o ho => (Below.heap_setCell w1 ⟨d.g, 0, none⟩ (.slice (some ⟨g1, 0, none⟩) n1 c1') d.gm (H.out.ne.symm)).trans ((HG1.out.block _ (blk_lt ho) (by have := H.out.own_gm; rwa [HV.out] at this)).trans ho)))
 obtain ⟨w4, hrun, hm4, hg4⟩ := dic_put (by omega) (HM2.out.step (fun o ho => (blk_drew ho).trans rfl)) HN.out HL.out HN1.out
 have HM4 := Aside0.mk hm4
 have HG4 := Aside0.mk hg4
 have HB4 := Aside0.mk ((hg4.block _ (blk_lt (blk_drew HB2.out)) (fun e => H.out.ne (by injection e))).trans (blk_drew HB2.out))
 clear hm4 hg4
 refine start_ (n := 11) (S := fun w' => w'.cell? ⟨d.g, 0, none⟩ = some (.slice (some ⟨g1, 0, none⟩) n1 c1') ∧ w'.cell? ⟨d.g, 1, none⟩ = some (.map (some d.gm))) (ds := []) #[false, false, false, false, false, false, false, false, false, false, false] (by kernel_rfl) rfl rfl ⟨(blk_cell (blk_drew HB2.out) 0).trans rfl, (blk_cell (blk_drew HB2.out) 1).trans rfl⟩ (fun hHeld => ?_)
 refine pure_ (i := 0) (N := some 14) (v := ?_) (a' := ?_) #[true, false, false, false, false, false, false, false, false, false, false] rfl rfl (by kernel_rfl) (fun _ _ _ h => h) (Or.inl ⟨by rfl, ?_⟩) ?_ ?_
 rotate_left
 ·intro w'
  go_simp
  with_reducible rfl
 rotate_left
 ·simp only [Act.put, List.setIfInBounds_toArray, List.set_cons_zero, List.set_cons_succ, i64_w, i32_w]
  rfl
 refine pure_ (i := 1) (N := some 15) (v := ?_) (a' := ?_) #[true, true, false, false, false, false, false, false, false, false, false] rfl rfl (by kernel_rfl) (fun _ _ _ h => h) (Or.inl ⟨by rfl, ?_⟩) ?_ ?_
 rotate_left
 ·intro w'
  go_simp
  with_reducible rfl
 rotate_left
 ·simp only [Act.put, List.setIfInBounds_toArray, List.set_cons_zero, List.set_cons_succ, i64_w, i32_w]
  rfl
 refine pure_ (i := 2) (N := some 16) (v := ?_) (a' := ?_) #[true, true, true, false, false, false, false, false, false, false, false] rfl rfl (by kernel_rfl) (fun _ _ _ h => h) (Or.inl ⟨by rfl, ?_⟩) ?_ ?_
 rotate_left
 ·intro w'
  go_simp
  with_reducible rfl
 rotate_left
 ·simp only [Act.put, List.setIfInBounds_toArray, List.set_cons_zero, List.set_cons_succ, i64_w, i32_w]
  rfl
 refine pure_ (i := 4) (N := some 18) (v := ?_) (a' := ?_) #[true, true, true, false, true, false, false, false, false, false, false] rfl rfl (by kernel_rfl) (fun _ _ _ h => h) (Or.inl ⟨by rfl, ?_⟩) ?_ ?_
 rotate_left
 ·intro w'
  go_simp
  with_reducible rfl
 rotate_left
 ·simp only [Act.put, List.setIfInBounds_toArray, List.set_cons_zero, List.set_cons_succ, i64_w, i32_w]
  rfl
 refine pure_ (i := 5) (N := some 19) (v := ?_) (a' := ?_) #[true, true, true, false, true, true, false, false, false, false, false] rfl rfl (by kernel_rfl) (fun _ _ _ h => h) (Or.inl ⟨by rfl, ?_⟩) ?_ ?_
 rotate_left
 ·intro w'
  go_simp
  with_reducible rfl
 rotate_left
 ·simp only [Act.put, List.setIfInBounds_toArray, List.set_cons_zero, List.set_cons_succ, i64_w, i32_w]
  rfl
 refine pure_ (i := 6) (N := some 20) (v := ?_) (a' := ?_) #[true, true, true, false, true, true, true, false, false, false, false] rfl rfl (by kernel_rfl) (fun _ _ _ h => h) (Or.inl ⟨by rfl, ?_⟩) ?_ ?_
 rotate_left
 ·intro w'
  go_simp
  with_reducible rfl
 rotate_left
 ·simp only [Act.put, List.setIfInBounds_toArray, List.set_cons_zero, List.set_cons_succ, i64_w, i32_w]
  rfl
 refine pure_ (i := 7) (N := some 21) (v := ?_) (a' := ?_) #[true, true, true, false, true, true, true, true, false, false, false] rfl rfl (by kernel_rfl) (fun _ _ _ h => h) (Or.inl ⟨by rfl, ?_⟩) ?_ ?_
 rotate_left
 ·intro w'
  go_simp
  with_reducible rfl
 rotate_left
 ·simp only [Act.put, List.setIfInBounds_toArray, List.set_cons_zero, List.set_cons_succ, i64_w, i32_w]
  rfl
 refine take_ (i := 3) (N := some 17) (v := ?_) (a' := ?_) #[true, true, true, true, true, true, true, true, false, false, false] rfl rfl (by kernel_rfl) (fun _ _ _ h => h) (Or.inl ⟨by rfl, ?_⟩) hHeld ?_ ?_
 rotate_left
 ·rintro w' ⟨s0, s1⟩
  go_simp
  with_reducible rfl
 rotate_left
 ·simp only [Act.put, List.setIfInBounds_toArray, List.set_cons_zero, List.set_cons_succ, i64_w, i32_w]
  rfl
 refine take_ (i := 8) (N := some 22) (v := ?_) (a' := ?_) #[true, true, true, true, true, true, true, true, true, false, false] rfl rfl (by kernel_rfl) (fun _ _ _ h => h) (Or.inl ⟨by rfl, ?_⟩) hHeld ?_ ?_
 rotate_left
 ·rintro w' ⟨s0, s1⟩
  go_simp
  with_reducible rfl
 rotate_left
 ·simp only [Act.put, List.setIfInBounds_toArray, List.set_cons_zero, List.set_cons_succ, i64_w, i32_w]
  rfl
 refine pure_ (i := 9) (N := some 23) (v := ?_) (a' := ?_) #[true, true, true, true, true, true, true, true, true, true, false] rfl rfl (by kernel_rfl) (fun _ _ _ h => h) (Or.inl ⟨by rfl, ?_⟩) ?_ ?_
 rotate_left
 ·intro w'
  go_simp
  with_reducible rfl
 rotate_left
 ·simp only [Act.put, List.setIfInBounds_toArray, List.set_cons_zero, List.set_cons_succ, i64_w, i32_w]
  rfl
 refine one_ (i := 10) (N := none) #[true, true, true, true, true, true, true, true, true, true, true] rfl rfl (by kernel_rfl) (by decide) (fun K hK => ?_)
 refine skip_ (w1 := w4) (by rfl) rfl ?_ ?_
 ·go_simp
 rotate_left
 refine hK.out _ _ ⟨(blk_cell HB4.out 0).trans rfl, (blk_cell HB4.out 1).trans rfl⟩ (fun hHeld => ?_)
 clear hK K
 refine done_ (by kernel_rfl) ?_
 go_end0
 have hg1 : g1 ≠ d.g ∧ g1 ≠ d.gm := by
  rcases HAT.out with hat | hat
  ·have e1 := H.out.own_g
   have e2 := H.out.own_gm
   rw [HV.out, ← hat] at e1 e2
   exact ⟨fun e => e1 (by rw [e]), fun e => e2 (by rw [e])⟩
  ·have e1 := blk_lt H.out.blk
   have e2 := H.out.map.lt
   exact ⟨by omega, by omega⟩
 have hC1 : Chg d.F w (w1.setCell ⟨d.g, 0, none⟩ (.slice (some ⟨g1, 0, none⟩) n1 c1')) := (Chg.of_grown HG1.out (fun k hk => .inr (.inr (by rw [HV.out, hk])))).setCell (.inl (.inl rfl)) _
 refine ⟨rfl, .slice (some ⟨g1, 0, none⟩) n1 c1', ⟨HB4.out, HM4.out, ?_, ?_, ?_, ?_⟩, (hC1.drew).trans (Chg.of_grown HG4.out (S := d.F) (fun k hk => .inr (.inl (by injection hk with hk; exact hk.symm)))) (fun k hk => .inl hk), ?_⟩
 ·refine Kd.R_step HR1.out (fun k hk hl => ?_)
  obtain rfl : k = g1 := by injection hk
  have hl2 : k < (w1.setCell ⟨d.g, 0, none⟩ (.slice (some ⟨k, 0, none⟩) n1 c1')).heap.size := by simpa [World.setCell] using hl
  exact (HG4.out.block k hl2 (fun e => hg1.2 (by injection e))).trans (Below.heap_setCell w1 _ _ k hg1.1)
 ·rw [List.length_append]
  have := HL.out
  show d.ws.length + 1 ≤ 65536
  omega
 ·intro t ht
  rcases List.mem_append.1 ht with ht | ht
  ·exact H.out.short t ht
  ·rw [List.mem_singleton.1 ht]; exact hs
 ·refine List.nodup_append.2 ⟨H.out.nd, by simp, ?_⟩
  intro a ha b hb e
  rw [List.mem_singleton.1 hb] at e
  exact HN.out (e ▸ ha)
 ·rcases HAT.out with hat | hat
  ·left
   rw [HV.out, ← hat]
   rfl
  ·exact .inr ⟨g1, rfl, hat⟩
theorem DTurn.same {d : Dic} {w w' : World} (h : DicAt d w) (hc : Chg (fun _ => False) w w') : DTurn d d.ws w w' := ⟨d.v, h.step hc (fun _ _ h => h), hc.mono (fun _ _ h => h.elim), .inl rfl⟩
theorem DTurn.below {d : Dic} {ws : List ByteArray} {w w1 w2 : World} (h : DTurn d ws w w1) (hb : Below w1.heap.size w1 w2) : DTurn d ws w w2 := by
 obtain ⟨v, h1, h2, h3⟩ := h
 exact ⟨v, h1.below hb, h2.below hb, h3⟩
theorem bytes_R {w : World} {base : Nat} {v : Value} {xs : List Int} (h : (Kd.int .u8).R 5 w base (fun _ => True) v xs) : w.ownsRow base 5 1 v xs.length (nums .u8 xs) := Kd.own_of_R h
theorem R_apps_string {ops : Array Oper} {rest : List Oper} {o : Oper} {a : Act} {Q : Exit → Act → World → Prop} {w0 W : World} {s x : Operand} {t u : TypeId} {v : Value} {xs : List Int} {y : ByteArray} (hgd : o.guard = none)
  (ho : o.op = .call { callee := .builtin .append, args := #[s, x], argTypes := #[t, u] }) (hs : a.eval s = v) (hx : a.eval x = .string y)
  (ht : Try.prog.underlying t = some (.slice 5)) (hu : Try.prog.underlying u = some .string)
  (HO : Aside0 ((Kd.int .u8).R 5 W w0.heap.size (fun _ => True) v xs)) (HB : Aside0 (Below w0.heap.size w0 W)) (hl : Aside0 (xs.length + y.size ≤ 140737488355328))
  (h : ∀ v1 w1, Aside0 ((Kd.int .u8).R 5 w1 w0.heap.size (fun _ => True) v1 (xs ++ bytesOf y)) → Aside0 (Below w0.heap.size w0 w1) → wpList Try.prog ops Q rest (a.put o.dst v1) w1) :
  wpList Try.prog ops Q (o :: rest) a W := by
 refine print_append_str (w0 := w0) w0.heap.size hgd s x t u 5 ho ht hu iB v xs y hs hx (bytes_R HO.out) HB.out (below_size HB.out) hl.out ?_
 intro v1 w1 h1 h2 h3
 exact h v1 w1 ⟨Kd.R_of_own h1 (fun _ _ => trivial)⟩ ⟨h2⟩
theorem put0_calls (w : World) : Calls Try.prog 41 #[.int .u64 0] w fun e w' => ∃ v, e = .returned v ∧ (Kd.int .u8).R 5 w' w.heap.size (fun _ => True) v (vput 0) ∧ Below w.heap.size w w' := put_calls 0 (by decide) w
set_option maxHeartbeats 4000000 in
set_option maxRecDepth 100000 in
theorem dicput_calls (d : Dic) (s : ByteArray) (w : World) (h : DicAt d w) (hs : s.size ≤ 140737488350000) :
  Calls Try.prog 35 #[.pointer (some ⟨d.g, 0, none⟩), .string s] w fun e w' => ∃ v, e = .returned (.tuple #[v, .int .i64 (dput d.ws s).2.1]) ∧ (Kd.int .u8).R 5 w' w.heap.size (fun _ => True) v (dput d.ws s).1 ∧ DTurn d (dput d.ws s).2.2 w w' := by
 have H := Aside0.mk h
 obtain ⟨A, c, hv, hc, hC⟩ := h.slice
 have c0 := (blk_cell h.blk 0).trans rfl
 have c1 := (blk_cell h.blk 1).trans rfl
 rw [hv] at c0
 have HM := Aside0.mk h.map
 have hfew := h.few
 obtain ⟨k, hk⟩ : ∃ k, findW d.ws s = k := ⟨_, rfl⟩
 have hk2 : k ≤ d.ws.length := by rw [← hk]; exact find_le _ _
 have HP := Aside0.mk (find_pos d.ws s)
 rw [hk] at HP
 have HK := Aside0.mk hk
 clear h hv hC hk
 by_cases h0 : 0 < k
 ·have e1 : dput d.ws s = (vput k, 0, d.ws) := by unfold dput; rw [HK.out, if_pos h0]
  rw [e1]
  have HB0 := Aside0.mk (decide_eq_true h0)
  have HB := Aside0.mk (Below.refl w.heap.size w)
  clear e1
  have hku : IntKind.u64.wrap (k : Int) = (k : Int) := wrap_u64_nat (by omega)
  go_enter Try.func35, Try.ntmps35
  go_wp2_with (first | (at_lookup; go_must (refine dic_look rfl _ _ rfl rfl rfl (by omega) HM.out HK.out HB0.out ?_)))
  with_reducible refine Calls.stepR (put_calls k (by omega) _) HB ?_
  intro A1 c1 w1 HK1 HR1 HC1 HB1
  go_wp2
  go_ret2
  exact ⟨_, rfl, HR1.out, DTurn.same H.out (Chg.of_below HK1.out _)⟩
 have HB0 := Aside0.mk (decide_eq_false h0)
 by_cases hbad : 200 < s.size ∨ 65536 ≤ d.ws.length
 ·have e1 : dput d.ws s = ([], 12, d.ws) := by unfold dput; rw [HK.out, if_neg h0, if_pos hbad]
  rw [e1]
  clear e1 h0
  have hbad2 : (200 < s.size) ∨ (¬ 200 < s.size ∧ 65536 ≤ d.ws.length) := by omega
  clear hbad
  rcases hbad2 with hb1 | ⟨hb1, hb2⟩
  ·have b1 : decide (200 < (s.size : Int)) = true := decide_eq_true (by omega)
   clear hb1
   go_enter Try.func35, Try.ntmps35
   go_wp2_with (first | (at_lookup; go_must (refine dic_look rfl _ _ rfl rfl rfl (by omega) HM.out HK.out HB0.out ?_)))
   go_ret2
   exact ⟨_, rfl, Kd.R_nil _ _ _ _ _, DTurn.same H.out (Chg.refl _ _)⟩
  ·have b1 : decide (200 < (s.size : Int)) = false := decide_eq_false (by omega)
   have b2 : decide (65536 ≤ (d.ws.length : Int)) = true := decide_eq_true (by omega)
   clear hb1 hb2
   go_enter Try.func35, Try.ntmps35
   go_wp2_with (first | (at_lookup; go_must (refine dic_look rfl _ _ rfl rfl rfl (by omega) HM.out HK.out HB0.out ?_)))
   go_ret2
   exact ⟨_, rfl, Kd.R_nil _ _ _ _ _, DTurn.same H.out (Chg.refl _ _)⟩
 ·have e1 : dput d.ws s = (vput 0 ++ vput s.size ++ bytesOf s, 0, d.ws ++ [s]) := by unfold dput; rw [HK.out, if_neg h0, if_neg hbad]
  rw [e1]
  have b1 : decide (200 < (s.size : Int)) = false := decide_eq_false (by omega)
  have b2 : decide (65536 ≤ (d.ws.length : Int)) = false := decide_eq_false (by omega)
  have HNW := Aside0.mk (show s ∉ d.ws from fun e => h0 (HP.out.2 e))
  have HS := Aside0.mk (show s.size ≤ 200 by omega)
  have HL := Aside0.mk (show d.ws.length < 65536 by omega)
  have hsu : IntKind.u64.wrap (s.size : Int) = (s.size : Int) := wrap_u64_nat (by omega)
  clear e1 h0 hbad
  go_enter Try.func35, Try.ntmps35
  go_wp2_with (first | (at_lookup; go_must (refine dic_look rfl _ _ rfl rfl rfl (by omega) HM.out HK.out HB0.out ?_)))
  with_reducible refine (dicadd_calls d s _ H.out HNW.out HS.out HL.out).mono ?_
  rintro e w1 ⟨rfl, hT⟩
  have HT := Aside0.mk hT
  have HB := Aside0.mk (Below.refl w1.heap.size w1)
  have HV0 := Aside0.mk (show (vput 0).length ≤ 10 from vput_len10 0 (by decide))
  have HV1 := Aside0.mk (show (vput s.size).length ≤ 10 from vput_len10 s.size (by have := HS.out; omega))
  clear hT c0 c1
  go_wp2_with fail
  with_reducible refine Calls.stepR (put0_calls _) ⟨(by repeat (first | (with_reducible first | exact HB.out | apply below_alloc | apply pw_below_drewN | apply below_drew1) | exact HB.out))⟩ ?_
  clear HB
  intro A1 c1 w_ HK HR1 HC1 HB
  clear HK
  go_wp2_with fail
  with_reducible refine Calls.stepR (put_calls s.size (by omega) _) ⟨(by repeat (first | (with_reducible first | exact HB.out | apply below_alloc | apply pw_below_drewN | apply below_drew1) | exact HB.out))⟩ ?_
  clear HB
  intro A2 c2 w_ HK HR2 HC2 HB
  have n0 := Aside0.mk (Kd.R_below (by first | (with_reducible exact HR1.out) | ((with_reducible repeat (first | apply Kd.R_alloc | apply Kd.R_drewN | apply Kd.R_drew)); exact HR1.out)) HK.out)
  clear HR1
  have HR1 := n0
  clear n0
  clear HK
  have HL1 := Aside0.mk (show (vput 0).length + (vput s.size).length ≤ 140737488355328 by have := HV0.out; have := HV1.out; omega)
  have HL2 := Aside0.mk (show (vput 0 ++ vput s.size).length + s.size ≤ 140737488355328 by rw [List.length_append]; have := HV0.out; have := HV1.out; have := HS.out; omega)
  go_wp2_with (first | ((with_reducible refine gate_dst (N := 45) rfl ?_); at_builtin; go_must (refine R_apps_u8 rfl rfl rfl rfl uB iB HR1 HC2.out HB HL1 ?_); intro v1 w2 hr hb; clear HR1 HR2 HC1 HC2 HB; have HR3 := hr; have HB := hb; clear hr hb) | ((with_reducible refine gate_dst (N := 48) rfl ?_); at_builtin; go_must (refine R_apps_string rfl rfl rfl rfl uB uSt HR3 HB HL2 ?_); intro v1 w2 hr hb; clear HR3 HB; have HR4 := hr; have HB := hb; clear hr hb))
  go_ret2
  obtain ⟨vd, hT1, hT2, hT3⟩ := HT.out
  exact ⟨_, rfl, Kd.R_lower HR4.out hT2.size, DTurn.below HT.out HB.out⟩
theorem strclone_calls (A : Option Addr) (n c : Nat) (xs : List ByteArray) (w : World) (hC : Kd.string.C w A n xs) (hbig : n * 16 ≤ 140737488355328) (hA : ∀ ad, A = some ad → 0 < n → ∃ b o, ad = ⟨b, o, none⟩) :
  Calls Try.prog 45 #[.slice A n c] w fun e w' => ∃ v, e = .returned v ∧ Kd.string.R 9 w' w.heap.size (fun _ => True) v xs ∧ Below w.heap.size w w' := by
 have hlen := hC.1
 cases A with
 | none =>
  have hn : n = 0 := by
   rcases Nat.eq_zero_or_pos n with h | h
   ·exact h
   ·obtain ⟨ad, e, _⟩ := hC.2.2 h
    cases e
  subst hn
  have hx : xs = [] := List.eq_nil_of_length_eq_zero hlen
  subst hx
  refine (Try.slices_Clone_string_nil 0 c w).mono ?_
  rintro e w' ⟨rfl, rfl⟩
  exact ⟨_, rfl, Kd.R_nil _ _ _ _ _, Below.refl _ _⟩
 | some a =>
  rcases Nat.eq_zero_or_pos n with h0 | h0
  ·subst h0
   have hx : xs = [] := List.eq_nil_of_length_eq_zero hlen
   subst hx
   refine (Try.slices_Clone_string_zero a c w).mono ?_
   rintro e w' ⟨v, rfl, ho, _, hb⟩
   exact ⟨v, rfl, Kd.R_of_own (enc := Value.string) (h1 := fun _ => rfl) (xs := []) ho (fun _ _ => trivial), hb⟩
  ·obtain ⟨b, o, rfl⟩ := hA a rfl h0
   have hr := Kd.reads_of_C (enc := Value.string) (d := ByteArray.empty) (h1 := fun _ => rfl) hC
   refine (Try.slices_Clone_string b o n c xs w (by omega) hbig (fun j hj => ?_)).mono ?_
   ·obtain ⟨ad, e, hx⟩ := hr.2.2 h0
    cases e
    have hx2 := hx j (by omega)
    rw [add_at] at hx2
    exact hx2
   ·rintro e w' ⟨v, rfl, ho, _, hb⟩
    rw [List.take_of_length_le (by omega)] at ho
    subst hlen
    exact ⟨v, rfl, Kd.R_of_own (enc := Value.string) (h1 := fun _ => rfl) ho (fun _ _ => trivial), hb⟩
set_option maxHeartbeats 1000000 in
set_option maxRecDepth 100000 in
theorem dicwords_calls (d : Dic) (w : World) (h : DicAt d w) : Calls Try.prog 15 #[.pointer (some ⟨d.g, 0, none⟩)] w fun e w' => ∃ v, e = .returned v ∧ Kd.string.R 9 w' w.heap.size (fun _ => True) v d.ws ∧ Below w.heap.size w w' := by
 obtain ⟨A, c, hv, hc, hC⟩ := h.slice
 have c0 := (blk_cell h.blk 0).trans rfl
 rw [hv] at c0
 have hA : ∀ ad, A = some ad → 0 < d.ws.length → ∃ b o, ad = ⟨b, o, none⟩ := by
  intro ad e hp
  obtain ⟨g1, c1, e1, _⟩ := Kd.R_form h.row hp
  rw [hv, e] at e1
  injection e1 with e1
  injection e1 with e1
  exact ⟨_, _, e1⟩
 have HC := Aside0.mk (strclone_calls A d.ws.length c d.ws w hC (by have := h.few; omega) hA)
 clear h hv hC hA
 go_enter Try.func15, Try.ntmps15
 go_wp2_with fail
 with_reducible refine HC.out.mono ?_
 rintro e w1 ⟨v, rfl, hv, hb⟩
 go_wp2
 go_ret
 exact ⟨_, rfl, hv, hb⟩
set_option maxHeartbeats 2000000 in
set_option maxRecDepth 100000 in
theorem count_no (c : Int) (w : World) (hc : betB c 1 4 = false) : Calls Try.prog 127 #[.int .i64 c] w fun e w' => e = .returned (.tuple #[.int .i64 0, .int .i64 1]) ∧ w = w' := by
 have H := Aside0.mk hc
 clear hc
 go_enter Try.func127, Try.ntmps127
 go_wp2_with (first | (go_at_call 146; with_reducible refine Calls.stepEq (may_calls c _) ?_; rw [H.out]))
 go_ret2
 exact ⟨rfl, rfl⟩
def CountIs (w : World) (e : Ending) (w' : World) : Prop := ∃ n : Int, e = .returned (.tuple #[.int .i64 n, .int .i64 0]) ∧ w = w'
set_option maxHeartbeats 2000000 in
set_option maxRecDepth 100000 in
theorem count_yes (c : Int) (w : World) (hc : betB c 1 4 = true) : Calls Try.prog 127 #[.int .i64 c] w (CountIs w) := by
 have H := Aside0.mk hc
 clear hc
 go_enter Try.func127, Try.ntmps127
 go_wp2_with (first | (go_at_call 146; with_reducible refine Calls.stepEq (may_calls c _) ?_; rw [H.out]))
 go_loop [4, 9] (fun v4 v9 => ∃ n i : Int, v4 = .int .i64 n ∧ v9 = .int .i64 i ∧ 0 ≤ n ∧ n ≤ i ∧ i ≤ 256) (fun _ v9 => 256 - (intOf v9).toNat)
 case atStart => exact ⟨0, 0, rfl, rfl, by omega, by omega, by omega⟩
 case round =>
  obtain ⟨n, i, rfl, rfl, h0, hi, h256⟩ := hrel
  have hi0 : 0 ≤ i := by omega
  by_cases hlt : i < 256
  ·cases hq : clsB c i with
   | true =>
    have HQ := Aside0.mk hq
    clear hq
    go_wp2_with (first | (go_at_call 147; with_reducible refine Calls.stepEq (is_calls c _ _) ?_; rw [HQ.out]))
    go_round
    case rel => exact ⟨n + 1, i + 1, by go_num, by go_num, by omega, by omega, by omega⟩
    case measure => simp [intOf]; omega
   | false =>
    have HQ := Aside0.mk hq
    clear hq
    go_wp2_with (first | (go_at_call 147; with_reducible refine Calls.stepEq (is_calls c _ _) ?_; rw [HQ.out]))
    go_round
    case rel => exact ⟨n, i + 1, by go_num, by go_num, by omega, by omega, by omega⟩
    case measure => simp [intOf]; omega
  ·go_wp2
   go_ret2
   exact ⟨_, rfl, rfl⟩
set_option maxHeartbeats 2000000 in
set_option maxRecDepth 100000 in
theorem check_yes {ok : Nat → Prop} (F : FuncId) (caps : Array Value) (g : Nat) (s : Cu) (kind : Int) (t : ByteArray) (w : World) (hk : betB kind 1 4 = true) (ht : t.size ≤ 9223372036854775807) (hb : badI (clsB kind) t < 0) :
  Calls Try.prog 129 #[.pointer (some ⟨g, 0, none⟩), .int .i64 kind, .string t, .func (.func F) #[] caps] w fun e w' => e = .returned (.bool true) ∧ Drawn0 w w' := by
 have HK := Aside0.mk hk
 have hb1 : decide (badI (clsB kind) t < 0) = true := decide_eq_true hb
 obtain ⟨k, hke⟩ : ∃ k, badI (clsB kind) t = k := ⟨_, rfl⟩
 rw [hke] at hb hb1
 have HE := Aside0.mk hke
 clear hk hke
 go_enter Try.func129, Try.ntmps129
 go_wp2_with (first | (go_at_call 139; with_reducible refine (bad_yes kind t _ HK.out ht).mono ?_; rw [HE.out]; rintro e w_ ⟨rfl, ⟨nd, rfl⟩⟩))
 go_ret
 exact ⟨rfl, by repeat (first | exact Drawn0.refl _ | apply Drawn0.step)⟩
set_option maxHeartbeats 2000000 in
set_option maxRecDepth 100000 in
theorem check_no {ok : Nat → Prop} (F : FuncId) (fn : Func) (hf : Try.prog.funcs[F]? = some fn) (hname : (fn.name == "runtime.NumGoroutine") = false) (hbd : fn.body.isSome = true) (caps : Array Value) (g : Nat) (s : Cu) (kind : Int) (t : ByteArray) (w : World) (hk : betB kind 1 4 = true) (ht : t.size ≤ 9223372036854775807) (hb : 0 ≤ badI (clsB kind) t)
  (off : Int) (hA : ∀ nd, Calls Try.prog F (#[.int .i64 (badI (clsB kind) t)] ++ caps) (w.drewN nd) fun e w' => e = .returned (.int .i64 off) ∧ w.drewN nd = w') (h : CurAt ok g s w) :
  Calls Try.prog 129 #[.pointer (some ⟨g, 0, none⟩), .int .i64 kind, .string t, .func (.func F) #[] caps] w fun e w' => e = .returned (.bool false) ∧ CurAt ok g (s.fail 14 off) w' ∧ Chg (fun k => k = g) w w' := by
 have H := Aside0.mk h
 have HA := Aside0.mk hA
 have HF := Aside0.mk hf
 have HF1 := Aside0.mk hname
 have HF2 := Aside0.mk hbd
 have HK := Aside0.mk hk
 obtain ⟨k, hke⟩ : ∃ k, badI (clsB kind) t = k := ⟨_, rfl⟩
 rw [hke] at hb HA
 have hb1 : decide (k < 0) = false := decide_eq_false (by omega)
 have HE := Aside0.mk hke
 clear hk hke h hA hf hname hbd
 go_enter Try.func129, Try.ntmps129
 go_wp2_with (first | (go_at_call 139; with_reducible refine (bad_yes kind t _ HK.out ht).mono ?_; rw [HE.out]; rintro e w_ ⟨rfl, ⟨nd, rfl⟩⟩) | ((with_reducible refine gate_dst (N := 26) rfl ?_); go_must (refine goesV_ (some 26) rfl rfl rfl rfl HF.out HF1.out HF2.out (#[.int .i64 k] ++ caps) (by simp only [List.map_toArray, List.map_cons, List.map_nil]; rfl) ?_); refine (HA.out _).mono ?_; rintro e w1 ⟨rfl, rfl⟩; refine ⟨_, rfl, ?_⟩))
 with_reducible refine (curfail_calls g s 14 off _ (H.out.drewN nd)).mono ?_
 rintro e w_ ⟨rfl, hc, hg⟩
 go_wp2
 go_ret
 exact ⟨rfl, hc, ((Chg.refl _ _).drewN nd).trans hg (fun _ h => .inl h)⟩
set_option maxHeartbeats 1000000 in
set_option maxRecDepth 100000 in
theorem at1_calls (gB : Nat) (x k : Int) (w : World) (hB : w.heap[gB]? = some (.cells #[.int .i64 x] 3 (0, 0))) : Calls Try.prog 130 #[.int .i64 k, .pointer (some ⟨gB, 0, none⟩)] w fun e w' => e = .returned (.int .i64 x) ∧ w = w' := by
 have cB := cell_of_one hB
 clear hB
 go_enter Try.func130, Try.ntmps130
 go_wp2
 go_ret
 exact ⟨rfl, rfl⟩
set_option maxHeartbeats 1000000 in
set_option maxRecDepth 100000 in
theorem at2_calls (gB : Nat) (x k : Int) (w : World) (hx : 0 ≤ x) (hk : 0 ≤ k) (hxk : x + k ≤ 9223372036854775807) (hB : w.heap[gB]? = some (.cells #[.int .i64 x] 3 (0, 0))) : Calls Try.prog 148 #[.int .i64 k, .pointer (some ⟨gB, 0, none⟩)] w fun e w' => e = .returned (.int .i64 (x + k)) ∧ w = w' := by
 have cB := cell_of_one hB
 clear hB
 go_enter Try.func148, Try.ntmps148
 go_wp2
 go_ret
 exact ⟨rfl, rfl⟩
end Go.Proofs.Ytclbmdblalgdjaa
