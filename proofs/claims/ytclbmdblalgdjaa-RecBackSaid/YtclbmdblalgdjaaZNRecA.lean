/- Package rec: what its walks lean on: a Cur and a dictionary that turns, and what lies beside them; no condition. -/
import Derived.Test.YtclbmdblalgdjaaZNRecPl
namespace Go.Proofs.Ytclbmdblalgdjaa
open Go.RowKit Go.Proofs.YtclbmdblalgdjaaW.PrintWords Go.Proofs.YtclbmdblalgdjaaW.PrintLast Go.Proofs.YtclbmdblalgdjaaW.PrintMore Go.Proofs.Ytclbmdblalgdjaa.PE
set_option linter.unusedVariables false
set_option linter.unusedSimpArgs false
theorem DicAt.nblk {d : Dic} {W : World} (h : DicAt d W) {b t : Nat} {cells : Array Value} (hb : W.heap[b]? = some (.cells cells t (0, 0))) (h1 : t ≠ 93) (h2 : t ≠ 9) : ¬ d.F b := by
  rintro (e | e | e)
  · have e : b = d.g := e
    rw [e, h.blk] at hb
    injection hb with hb
    injection hb with _ hb
    exact h1 hb.symm
  · have e : b = d.gm := e
    obtain ⟨es, c, h3⟩ := h.map.blk
    rw [e, h3] at hb
    cases hb
  · have e : some b = d.v.ownBlock := e
    obtain ⟨cs, hc⟩ := Kd.R_typed h.row b e.symm
    rw [hb] at hc
    injection hc with hc
    injection hc with _ hc
    exact h2 hc
theorem CurAt.nblk {ok : Nat → Prop} {g : Nat} {s : Cu} {W : World} (h : CurAt ok g s W) {b t : Nat} {cells : Array Value} (hb : W.heap[b]? = some (.cells cells t (0, 0))) (h1 : t ≠ 98) : b ≠ g := by
  rintro rfl
  rw [h.blk] at hb
  injection hb with hb
  injection hb with _ hb
  exact h1 hb.symm
structure RX (ok : Nat → Prop) (g : Nat) (d : Dic) (s : Cu) (v : Value) (ws : List ByteArray) (w W : World) : Prop where
  cur : CurAt ok g s W
  dic : DicAt ⟨d.g, d.gm, v, ws⟩ W
  chg : Chg (fun k => k = g ∨ d.F k) w W
  nx : v.ownBlock = d.v.ownBlock ∨ ∃ k, v.ownBlock = some k ∧ w.heap.size ≤ k
  ap : ∀ k, ok k → ¬ d.F k
  lo : ∀ k, ok k → k < w.heap.size
def TwoPost (ok : Nat → Prop) (g : Nat) (d : Dic) (s' : Cu) (ws' : List ByteArray) (w w' : World) : Prop := CurAt ok g s' w' ∧ DTurnS (fun k => k = g ∨ d.F k) d ws' w w'
section
variable {ok : Nat → Prop} {g : Nat} {d : Dic} {s s' : Cu} {v : Value} {ws ws' : List ByteArray} {w W W' : World}
theorem RX.start (hc : CurAt ok g s w) (hd : DicAt d w) (ap : ∀ k, ok k → ¬ d.F k) (lo : ∀ k, ok k → k < w.heap.size) : RX ok g d s d.v d.ws w w := ⟨hc, hd, Chg.refl _ _, .inl rfl, ap, lo⟩
theorem RX.ap2 (h : RX ok g d s v ws w W) : ∀ k, ok k → ¬ (⟨d.g, d.gm, v, ws⟩ : Dic).F k := by
  rintro k hk (e | e | e)
  · exact h.ap k hk (.inl e)
  · exact h.ap k hk (.inr (.inl e))
  · have e2 : some k = v.ownBlock := e
    rcases h.nx with ho | ⟨j, hj, hl⟩
    · exact h.ap k hk (.inr (.inr (e2.trans ho)))
    · rw [hj] at e2
      injection e2 with e2
      have := h.lo k hk
      omega
theorem RX.F2 (h : RX ok g d s v ws w W) : ∀ k, (⟨d.g, d.gm, v, ws⟩ : Dic).F k → d.F k ∨ w.heap.size ≤ k := DTurn.next h.nx
theorem RX.turn (h : RX ok g d s v ws w W) (hc : CurAt ok g s' W') (hg : Chg (fun k => k = g) W W') : RX ok g d s' v ws w W' :=
  ⟨hc, h.dic.step hg (fun k hk (e : k = g) => h.ap2 g h.cur.okg (e ▸ hk)), h.chg.trans hg (fun _ e => .inl (.inl e)), h.nx, h.ap, h.lo⟩
theorem RX.below (h : RX ok g d s v ws w W) (hb : Below W.heap.size W W') : RX ok g d s v ws w W' := ⟨h.cur.below hb, h.dic.below hb, h.chg.below hb, h.nx, h.ap, h.lo⟩
theorem RX.far (h : RX ok g d s v ws w W) {S : Nat → Prop} (hc : Chg S W W') (h1 : ∀ k, S k → w.heap.size ≤ k) (h2 : ∀ k, S k → ¬ (⟨d.g, d.gm, v, ws⟩ : Dic).F k) : RX ok g d s v ws w W' :=
  ⟨h.cur.step hc (fun k hk hs => by have := h.lo k hk; have := h1 k hs; omega), h.dic.step hc (fun k hk hs => h2 k hs hk), h.chg.trans hc (fun k hk => .inr (h1 k hk)), h.nx, h.ap, h.lo⟩
theorem RX.put (h : RX ok g d s v ws w W) {b t j : Nat} {cells : Array Value} (hb : W.heap[b]? = some (.cells cells t (0, 0))) (h1 : t ≠ 93) (h2 : t ≠ 9) (hl : w.heap.size ≤ b) (u : Value) : RX ok g d s v ws w (W.setCell ⟨b, j, none⟩ u) :=
  h.far (S := fun k => k = b) ((Chg.refl _ _).set1 j u) (fun k hk => by rw [hk]; exact hl) (fun k hk => by rw [hk]; exact h.dic.nblk hb h1 h2)
theorem RX.two (h : RX ok g d s v ws w W) : TwoPost ok g d s ws w W := ⟨h.cur, v, h.dic, h.chg, h.nx⟩
theorem RX.of (h : RX ok g d s v ws w W) (hp : TwoPost ok g ⟨d.g, d.gm, v, ws⟩ s' ws' W W') : ∃ v', RX ok g d s' v' ws' w W' ∧ Chg (fun k => k = g ∨ (⟨d.g, d.gm, v, ws⟩ : Dic).F k) W W' := by
  obtain ⟨hc, v', hd, hg, hn⟩ := hp
  refine ⟨v', ⟨hc, hd, h.chg.trans hg (fun k hk => ?_), ?_, h.ap, h.lo⟩, hg⟩
  · rcases hk with e | e
    · exact .inl (.inl e)
    · exact (h.F2 k e).elim (fun e => .inl (.inr e)) .inr
  · rcases hn with hn | ⟨k, hk, hl⟩
    · rcases h.nx with ho | ⟨j, hj, hl⟩
      · exact .inl (hn.trans ho)
      · exact .inr ⟨j, hn.trans hj, hl⟩
    · exact .inr ⟨k, hk, Nat.le_trans h.chg.size hl⟩
theorem RX.get (h : RX ok g d s v ws w W) (hs : s.sane) (kind : Int) :
    Calls Try.prog 100 #[.pointer (some ⟨d.g, 0, none⟩), .pointer (some ⟨g, 0, none⟩), .int .i64 kind] W fun e W' => e = .returned (.string (dget ws s kind).1) ∧ TwoPost ok g ⟨d.g, d.gm, v, ws⟩ (dget ws s kind).2.1 (dget ws s kind).2.2 W W' := by
  refine (dicget_calls ⟨d.g, d.gm, v, ws⟩ g s kind W ⟨h.cur, h.dic, Chg.refl _ _, h.ap2⟩ hs).mono ?_
  rintro e w' ⟨h1, h2, h3⟩
  exact ⟨h1, h2, h3⟩
end
section
variable {α : Type} {kd : Kd α} {e base : Nat} {ok ok' : Nat → Prop} {g : Nat} {d : Dic} {s : Cu} {x : Value} {xs : List α} {W W' : World}
theorem two_row (hE : kd.E = []) (h1 : e ≠ 98) (h2 : e ≠ 93) (h3 : e ≠ 9) (hc : CurAt ok g s W) (hd : DicAt d W) (hg : Chg (fun k => k = g ∨ d.F k) W W') (hR : kd.R e W base ok' x xs) : kd.R e W' base ok' x xs := by
  refine Kd.R_mono (Kd.R_step (Kd.R_tight hE hR) (fun k hk hl => hg.block k hl ?_)) (fun k hk => hR.1 k hk.symm)
  obtain ⟨cells, hb⟩ := Kd.R_typed hR k hk.symm
  rintro (e | e)
  · exact hc.nblk hb h1 e
  · exact hd.nblk hb h2 h3 e
theorem two_blk {b t : Nat} {cells : Array Value} (h1 : t ≠ 98) (h2 : t ≠ 93) (h3 : t ≠ 9) (hc : CurAt ok g s W) (hd : DicAt d W) (hg : Chg (fun k => k = g ∨ d.F k) W W') (hb : W.heap[b]? = some (.cells cells t (0, 0))) : W'.heap[b]? = some (.cells cells t (0, 0)) := by
  refine (hg.block b (blk_lt hb) ?_).trans hb
  rintro (e | e)
  · exact hc.nblk hb h1 e
  · exact hd.nblk hb h2 h3 e
theorem cur_row (hE : kd.E = []) (h1 : e ≠ 98) (hc : CurAt ok g s W) (hg : Chg (fun k => k = g) W W') (hR : kd.R e W base ok' x xs) : kd.R e W' base ok' x xs := by
  refine Kd.R_mono (Kd.R_step (Kd.R_tight hE hR) (fun k hk hl => hg.block k hl ?_)) (fun k hk => hR.1 k hk.symm)
  obtain ⟨cells, hb⟩ := Kd.R_typed hR k hk.symm
  exact hc.nblk hb h1
theorem cur_blk {b t : Nat} {cells : Array Value} (h1 : t ≠ 98) (hc : CurAt ok g s W) (hg : Chg (fun k => k = g) W W') (hb : W.heap[b]? = some (.cells cells t (0, 0))) : W'.heap[b]? = some (.cells cells t (0, 0)) :=
  (hg.block b (blk_lt hb) (hc.nblk hb h1)).trans hb
end
end Go.Proofs.Ytclbmdblalgdjaa
