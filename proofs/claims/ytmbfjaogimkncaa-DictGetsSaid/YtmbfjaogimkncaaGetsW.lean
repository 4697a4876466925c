/- DictGets: what its walk leans on; no condition. -/
import Derived.Test.YtmbfjaogimkncaaPutsW
import Derived.Test.YtmbfjaogimkncaaRefGet
import Derived.Test.YtmbfjaogimkncaaLaw15B
namespace Go.Proofs.Ytmbfjaogimkncaa
open Go.RowKit Go.Proofs.YtmbfjaogimkncaaW.PrintWords Go.Proofs.YtmbfjaogimkncaaW.PrintLast Go.Proofs.YtmbfjaogimkncaaW.PrintMore
set_option linter.unusedVariables false
set_option linter.unusedSimpArgs false
theorem RDicAt.apart {d : RDic} {w : World} (h : RDicAt d w) {base : Nat} {ok : Nat → Prop} {v : Value} {xs : List Int} (hR : (Kd.int .u8).R 5 w base ok v xs) : ∀ k, some k = v.ownBlock → ¬ d.F k := by
  intro k hk hF
  obtain ⟨cells, hc⟩ := Kd.R_typed hR k hk.symm
  rcases hF with rfl | hF
  · rw [h.blk] at hc
    injection hc with hc
    injection hc with _ hc
    exact absurd hc (by decide)
  · obtain ⟨cells2, hc2⟩ := Kd.R_typed h.row k hF.symm
    rw [hc2] at hc
    injection hc with hc
    injection hc with _ hc
    exact absurd hc (by decide)
theorem rrow_turn {d : RDic} {w w' : World} (h : RDicAt d w) {base : Nat} {ok : Nat → Prop} {v : Value} {xs : List Int} (hR : (Kd.int .u8).R 5 w base ok v xs) (hc : Chg d.F w w') : (Kd.int .u8).R 5 w' base (fun _ => True) v xs :=
  Kd.R_mono (Kd.R_step (Kd.R_tight rfl hR) (fun k hk hl => hc.block k hl (h.apart hR k hk))) (fun _ _ => trivial)
/-- A word is put, by the document's dictionary, in a law. -/
theorem Calls.stepRPut {d : RDic} {s : ByteArray} {w W : World} {Q : Ending → World → Prop} {l : List Int} {code : Int} {ws' : List ByteArray} (he : dput d.ws s = (l, code, ws')) (hs : s.size ≤ 140737488350000) (HD : Aside0 (RDicAt d W)) (HF : Aside0 (∀ k, d.F k → w.heap.size ≤ k)) (HB : Aside0 (Below w.heap.size w W))
    (k : ∀ A c vd w', Aside0 (RDicAt ⟨d.g, vd, ws'⟩ w') → Aside0 (∀ k, (⟨d.g, vd, ws'⟩ : RDic).F k → w.heap.size ≤ k) → Aside0 (Chg d.F W w') → Aside0 (∀ k, (⟨d.g, vd, ws'⟩ : RDic).F k → d.F k ∨ W.heap.size ≤ k) → Aside0 ((Kd.int .u8).R 5 w' w.heap.size (fun _ => True) (.slice A l.length c) l) → Aside0 (Below w.heap.size w w') → Q (.returned (.tuple #[.slice A l.length c, .int .i64 code])) w') :
    Calls Try.prog 36 #[.pointer (some ⟨d.g, 0, none⟩), .string s] W Q := by
  refine (rput_calls d s W HD.out hs).mono ?_
  rintro e w' ⟨v, rfl, hR, vd, hd, hc, ho⟩
  rw [he] at hR hd ⊢
  obtain ⟨A, c, rfl, _⟩ := Kd.R_reads hR
  have hsz := below_size HB.out
  exact k A c vd w' ⟨hd⟩ ⟨RTurn.fresh hsz HF.out ho⟩ ⟨hc⟩ ⟨RTurn.next ho⟩ ⟨Kd.R_lower hR hsz⟩ ⟨HB.out.trans (hc.to_below HF.out hsz)⟩
/-- Two dictionaries, apart. -/
structure DR (d : Dic) (r : RDic) (w W : World) : Prop where
  dic : DicAt d W
  ref : RDicAt r W
  df : ∀ k, d.F k → w.heap.size ≤ k
  rf : ∀ k, r.F k → w.heap.size ≤ k
  ap : ∀ k, r.F k → ¬ d.F k
theorem DR.drewN {d : Dic} {r : RDic} {w W : World} (h : DR d r w W) (n : Nat) : DR d r w (W.drewN n) := ⟨h.dic.drewN n, h.ref.drewN n, h.df, h.rf, h.ap⟩
theorem DR.below {d : Dic} {r : RDic} {w W W' : World} (h : DR d r w W) (hb : Below W.heap.size W W') : DR d r w W' := ⟨h.dic.below hb, h.ref.below hb, h.df, h.rf, h.ap⟩
/-! A Cur whose bytes lie elsewhere. -/
def Cu.re (A : Option Addr) (c : Nat) (s : Cu) : Cu := { s with A := A, c := c }
section
variable (A : Option Addr) (c : Nat)
theorem re_fine (s : Cu) : (s.re A c).fine = s.fine := rfl
theorem re_b (s : Cu) : (s.re A c).b = s.b := rfl
theorem re_pos (s : Cu) : (s.re A c).pos = s.pos := rfl
theorem re_adv (s : Cu) (n : Nat) : (s.re A c).adv n = (s.adv n).re A c := rfl
theorem re_fail (s : Cu) (e a : Int) : (s.re A c).fail e a = (s.fail e a).re A c := by
  unfold Cu.fail
  rw [re_fine]
  split <;> rfl
theorem re_vread (s : Cu) : (s.re A c).vread = (s.vread.1, s.vread.2.re A c) := by
  unfold Cu.vread
  rw [re_fine, re_b, re_pos]
  simp only [re_adv, re_fail]
  split
  · rfl
  · split
    · rfl
    · split
      · rfl
      · rfl
theorem re_takeL (s : Cu) (n : Int) : (s.re A c).takeL n = s.takeL n := rfl
theorem re_take (s : Cu) (n : Int) : (s.re A c).take n = (s.take n).re A c := by
  unfold Cu.take
  rw [re_fine, re_b, re_pos]
  simp only [re_adv, re_fail]
  split
  · rfl
  · split
    · rfl
    · split
      · rfl
      · rfl
theorem re_dfs2 (s : Cu) : dfs2 (s.re A c) = (dfs2 s).re A c := by
  unfold dfs2
  rw [re_vread, re_pos, re_fail]
  split <;> rfl
theorem re_dfT (s : Cu) : dfT (s.re A c) = dfT s := by
  unfold dfT
  rw [re_dfs2, re_vread, re_takeL]
theorem re_dfs3 (s : Cu) : dfs3 (s.re A c) = (dfs3 s).re A c := by
  unfold dfs3
  rw [re_dfs2, re_vread, re_take]
theorem re_dfresh (ws : List ByteArray) (s : Cu) (kind first : Int) : dfresh ws (s.re A c) kind first = ((dfresh ws s kind first).1, (dfresh ws s kind first).2.1.re A c, (dfresh ws s kind first).2.2) := by
  unfold dfresh
  rw [re_dfT, re_dfs3, re_dfs2, re_fine, re_fail, re_fail, re_fail, re_pos]
  repeat' split
  all_goals rfl
theorem re_dget (ws : List ByteArray) (s : Cu) (kind : Int) : dget ws (s.re A c) kind = ((dget ws s kind).1, (dget ws s kind).2.1.re A c, (dget ws s kind).2.2) := by
  unfold dget
  rw [re_fine, re_fail, re_pos, re_vread, re_dfresh]
  simp only [re_fine, re_fail]
  repeat' split
  all_goals rfl
end
theorem vread_b (s : Cu) : s.vread.2.b = s.b := by
  unfold Cu.vread
  split
  · rfl
  · split
    · rfl
    · split
      · exact fail_b _ _ _
      · exact fail_b _ _ _
theorem take_b (s : Cu) (n : Int) : (s.take n).b = s.b := by
  unfold Cu.take
  split
  · rfl
  · split
    · exact fail_b _ _ _
    · split
      · exact fail_b _ _ _
      · rfl
theorem dfs2_b (s : Cu) : (dfs2 s).b = s.b := by
  unfold dfs2
  split
  · rw [fail_b, vread_b]
  · exact vread_b s
theorem dfs3_b (s : Cu) : (dfs3 s).b = s.b := by unfold dfs3; rw [take_b, dfs2_b]
theorem dget_keeps (ws : List ByteArray) (s : Cu) (kind : Int) : (dget ws s kind).2.1.b = s.b := by
  unfold dget dfresh
  repeat' split
  all_goals first | rfl | exact fail_b _ _ _ | exact vread_b _ | (rw [fail_b]; exact vread_b _) | (rw [fail_b, dfs3_b]; exact vread_b _) | (rw [dfs3_b]; exact vread_b _)
/-- The document's number of a class. -/
def numOf (k : Int) : Int := if betB k 1 4 = true then k else 0
theorem numOf_ok (k : Int) : (betB k 1 4 = false ∧ numOf k = 0) ∨ (betB k 1 4 = true ∧ numOf k = k) := by
  unfold numOf
  cases h : betB k 1 4 with
  | false => exact .inl ⟨rfl, rfl⟩
  | true => exact .inr ⟨rfl, rfl⟩
set_option maxRecDepth 100000 in
theorem number15_calls (k : Int) (w : World) : Calls Try.prog 38 #[.int .i64 k] w fun e w' => e = .returned (.int .i64 (numOf k)) ∧ Drawn0 w w' := by
  rcases (show k = 1 ∨ k = 2 ∨ k = 3 ∨ k = 4 ∨ (¬ (1 ≤ k ∧ k ≤ 4)) by omega) with rfl | rfl | rfl | rfl | h
  · go_enter Try.func38, Try.ntmps38
    go_wp2
    go_ret
    exact ⟨rfl, Drawn0.refl _⟩
  · go_enter Try.func38, Try.ntmps38
    go_wp2
    go_ret
    exact ⟨rfl, Drawn0.refl _⟩
  · go_enter Try.func38, Try.ntmps38
    go_wp2
    go_ret
    exact ⟨rfl, Drawn0.refl _⟩
  · go_enter Try.func38, Try.ntmps38
    go_wp2
    go_ret
    exact ⟨rfl, Drawn0.refl _⟩
  · have e : numOf k = 0 := by
      unfold numOf
      rw [if_neg]
      unfold betB
      simp only [Bool.and_eq_true, decide_eq_true_eq]
      exact h
    have h1 : (k == 1) = false := beq_eq_false_iff_ne.mpr (by omega)
    have h2 : (k == 2) = false := beq_eq_false_iff_ne.mpr (by omega)
    have h3 : (k == 3) = false := beq_eq_false_iff_ne.mpr (by omega)
    have h4 : (k == 4) = false := beq_eq_false_iff_ne.mpr (by omega)
    rw [e]
    clear e h
    go_enter Try.func38, Try.ntmps38
    go_wp2
    go_ret
    exact ⟨rfl, Drawn0.refl _⟩
/-- Two dictionaries and two Curs, all apart. -/
structure Gx (ok : Nat → Prop) (gc gp : Nat) (s s2 : Cu) (d : Dic) (r : RDic) (w W : World) : Prop where
  cur : CurAt ok gc s W
  rcur : RCuAt w.heap.size gp s2 W
  dic : DicAt d W
  ref : RDicAt r W
  cd : ∀ k, ok k → ¬ d.F k
  cr : ∀ k, ok k → ¬ r.F k
  cp : ¬ ok gp
  pd : ¬ d.F gp
  pr : ¬ r.F gp
  dr : ∀ k, r.F k → ¬ d.F k
  okr : ∀ k, ok k → w.heap.size ≤ k ∧ k < W.heap.size
  df : ∀ k, d.F k → w.heap.size ≤ k
  rf : ∀ k, r.F k → w.heap.size ≤ k
  bel : Below w.heap.size w W
section
variable {ok : Nat → Prop} {gc gp : Nat} {s s' s2 s2' : Cu} {d : Dic} {r : RDic} {w W W' : World}
theorem Gx.below (h : Gx ok gc gp s s2 d r w W) (hb : Below W.heap.size W W') : Gx ok gc gp s s2 d r w W' :=
  ⟨h.cur.below hb, h.rcur.below hb, h.dic.below hb, h.ref.below hb, h.cd, h.cr, h.cp, h.pd, h.pr, h.dr, fun k hk => ⟨(h.okr k hk).1, Nat.lt_of_lt_of_le (h.okr k hk).2 hb.size⟩, h.df, h.rf, below_step h.bel hb⟩
theorem Gx.drew (h : Gx ok gc gp s s2 d r w W) : Gx ok gc gp s s2 d r w W.drew := h.below (below_drew1 (Below.refl _ _))
theorem Gx.drewN (h : Gx ok gc gp s s2 d r w W) (n : Nat) : Gx ok gc gp s s2 d r w (W.drewN n) := h.below (pw_below_drewN (Below.refl _ _) n)
/-- A word is got from the dictionary. -/
theorem Gx.get (h : Gx ok gc gp s s2 d r w W) (hs : s.sane) {kind : Int} {t : ByteArray} {ws' : List ByteArray} (he : dget d.ws s kind = (t, s', ws')) :
    Calls Try.prog 33 #[.pointer (some ⟨d.g, 0, none⟩), .pointer (some ⟨gc, 0, none⟩), .int .i64 kind] W fun e W' => e = .returned (.string t) ∧ ∃ vd, Gx ok gc gp s' s2 ⟨d.g, d.gm, vd, ws'⟩ r w W' := by
  refine (dicget_calls d gc s kind W ⟨h.cur, h.dic, Chg.refl _ _, h.cd⟩ hs).mono ?_
  rintro e w' ⟨h1, h2, vd, h3, h4, h5⟩
  rw [he] at h1 h2 h3
  have hsz := below_size h.bel
  have hS : ∀ k, (k = gc ∨ d.F k) → w.heap.size ≤ k := fun k hk => hk.elim (fun e => e ▸ (h.okr gc h.cur.okg).1) (h.df k)
  have hN := DTurn.next (d := d) (ws' := ws') h5
  refine ⟨h1, vd, h2, h.rcur.step h4 hS (fun hk => hk.elim (fun e => h.cp (e ▸ h.cur.okg)) h.pd), h3, h.ref.step h4 (fun k hk hk2 => hk2.elim (fun e => h.cr gc h.cur.okg (e ▸ hk)) (h.dr k hk)), fun k hk hF => (hN k hF).elim (h.cd k hk) (fun hl => by have := (h.okr k hk).2; omega), h.cr, h.cp, fun hF => (hN gp hF).elim h.pd (fun hl => by have := h.rcur.lt; omega), h.pr, fun k hk hF => (hN k hF).elim (h.dr k hk) (fun hl => by have := h.ref.lt k hk; omega), fun k hk => ⟨(h.okr k hk).1, Nat.lt_of_lt_of_le (h.okr k hk).2 h4.size⟩, DTurn.fresh hsz h.df h5, h.rf, h.bel.trans (h4.to_below hS hsz)⟩
/-- A word is got from the document's dictionary. -/
theorem Gx.rget (h : Gx ok gc gp s s2 d r w W) (hs : s2.sane) (hsh : ∀ x ∈ r.ws, x.size ≤ 200) {kind num : Int} (hn : num = numOf kind) {t : ByteArray} {ws' : List ByteArray} (he : dget r.ws s2 kind = (t, s2', ws')) :
    Calls Try.prog 37 #[.pointer (some ⟨r.g, 0, none⟩), .pointer (some ⟨gp, 0, none⟩), .int .i64 num] W fun e W' => e = .returned (.string t) ∧ ∃ vr, Gx ok gc gp s s2' d ⟨r.g, vr, ws'⟩ w W' := by
  subst hn
  refine (rget_calls (B := w.heap.size) r gp s2 kind (numOf kind) (numOf_ok kind) W ⟨h.rcur, h.ref, Chg.refl _ _, h.pr, h.rf⟩ hs hsh).mono ?_
  rintro e w' ⟨h1, h2, vr, h3, h4, h5⟩
  rw [he] at h1 h2 h3
  have hsz := below_size h.bel
  have hS : ∀ k, (k = gp ∨ r.F k) → w.heap.size ≤ k := fun k hk => hk.elim (fun e => e ▸ h.rcur.up) (h.rf k)
  have hN := RTurn.next (d := r) (ws' := ws') h5
  refine ⟨h1, vr, h.cur.step h4 (fun k hk hk2 => hk2.elim (fun e => h.cp (e ▸ hk)) (h.cr k hk)), h2, h.dic.step h4 (fun k hk hk2 => hk2.elim (fun e => h.pd (e ▸ hk)) (fun hr => h.dr k hr hk)), h3, h.cd, fun k hk hF => (hN k hF).elim (h.cr k hk) (fun hl => by have := (h.okr k hk).2; omega), h.cp, h.pd, fun hF => (hN gp hF).elim h.pr (fun hl => by have := h.rcur.lt; omega), fun k hF hk => (hN k hF).elim (fun hr => h.dr k hr hk) (fun hl => by have := h.dic.lt k hk; omega), fun k hk => ⟨(h.okr k hk).1, Nat.lt_of_lt_of_le (h.okr k hk).2 h4.size⟩, h.df, RTurn.fresh hsz h.rf h5, h.bel.trans (h4.to_below hS hsz)⟩
end
end Go.Proofs.Ytmbfjaogimkncaa
