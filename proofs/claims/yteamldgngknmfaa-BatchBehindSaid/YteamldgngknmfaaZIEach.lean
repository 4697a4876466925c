/- A range over a function whose iterator turns nothing that lay ahead of it, and whose body may leave; no condition. -/
import Derived.Test.YteamldgngknmfaaZILawMetC
import Derived.RangeFuncNested
import Derived.RangeFuncBound
import Derived.RangeFuncCalls
import Derived.RangeFuncLeaves
import Derived.RangeFuncBox
import Derived.TacticsInMore
import Derived.OwnWalkIn
import Derived.LoopNIn
import Derived.LoopIn
import Derived.Shelf.RegionOpen
import Derived.Maps.OwnIn
namespace Go.Proofs.Yteamldgngknmfaa
open Go.RowKit Go.Proofs.YteamldgngknmfaaW.PrintWords Go.Proofs.YteamldgngknmfaaW.PrintLast Go.Proofs.YteamldgngknmfaaW.PrintMore
set_option linter.unusedVariables false
set_option linter.unusedSimpArgs false
theorem ea_fn (f : FuncId) : Fence.wide.fn f = True := rfl
theorem ea_depth : Fence.wide.depth = none := rfl
theorem ea_round {n m : Nat} {P : Program} {l : Nat} {f : FuncId} {tmps : Array Value} {assign body : Code} {w : World} {R : Ending → World → Prop} (h : RoundIn Fence.wide n P l f tmps assign body w R) : RoundIn Fence.wide m P l f tmps assign body w R := ⟨h.1, fun c cs _ => h.2 c cs (room_wide _)⟩
section
variable {S T : Nat → Prop} {w w' w2 : World}
theorem ea_putObj (h : Chg S w w') {r : Nat} (hr : S r ∨ w.heap.size ≤ r) (o : Obj) : Chg S w (w'.putObj r o) :=
 ⟨h.os, h.tape, h.output, by rw [World.putObj_size]; exact h.size, fun k hk hn => (World.putObj_heap_other (fun e => by subst e; rcases hr with hr | hr; exact hn hr; omega)).trans (h.block k hk hn)⟩
end
theorem ea_setCell {S : Nat → Prop} {w w' : World} {p : Addr} (h : Chg S w w') (hp : S p.block ∨ w.heap.size ≤ p.block) (u : Value) : Chg S w (w'.setCell p u) :=
 ⟨h.os, h.tape, h.output, by simpa [World.setCell] using h.size, fun k hk hn => (Below.heap_setCell w' p u k (fun e => hp.elim (fun h1 => hn (e ▸ h1)) (fun h1 => by omega))).trans (h.block k hk hn)⟩
theorem ea_grown {S : Nat → Prop} {w w' : World} {row : Option Nat} (h : w.grownBy w' row) (hs : ∀ k, row = some k → S k) : Chg S w w' :=
 ⟨h.os, h.tape, h.output, h.size, fun k hk hn => h.block k hk (fun e => hn (hs k e.symm))⟩
def eachPost {α : Type} (I : List α → Nat → World → Prop) (Ix : Code → List α → World → Prop) (T : Nat → Prop) (xs : List α) (W : World) : Exit → Act → World → Prop
 | .normal, _, W' => KeepsOthers W W' ∧ I xs W'.heap.size W' ∧ Chg T W W'
 | .ret, _, W' => KeepsOthers W W' ∧ Ix .ret xs W'
 | _, _, _ => False
def SeqEach {α : Type} (n : Nat) (P : Program) (gf : Nat) (lb : Array Value) (encs : α → Array Value) (ok : List α → Nat → α → World → Prop) (T : Nat → Prop) (S : List α → Prop) (N : Nat) (w : World) : Prop :=
 ∀ (l : Nat) (J Jx : List α → World → Prop) (W : World), Below w.heap.size w W →
  (∀ s A B, J s A → Below A.heap.size A B → J s B) → (∀ s A B, Jx s A → Below A.heap.size A B → Jx s B) →
  (∀ pre x W1 W2, J pre W1 → Below W1.heap.size W1 W2 → ok pre W1.heap.size x W2 → pre.length < N →
   YieldAt Fence.wide n P l (encs x) W2 fun e W' => (e = .returned (.bool true) ∧ J (pre ++ [x]) W' ∧ Chg T W2 W') ∨ (e = .returned (.bool false) ∧ Jx (pre ++ [x]) W')) →
  J [] W →
  CallsIn Fence.wide n P gf (#[.func (.yield l) #[] #[]] ++ lb) W fun e W' => (∃ v, e = .returned v) ∧ ((∃ xs, S xs ∧ J xs W') ∨ (∃ pre, Jx pre W'))
set_option maxHeartbeats 1000000 in
theorem range_each {α : Type} {P : Program} {n : Nat} {g : Operand} {ps : Array Tmp} {assign body : Code} {Q : Exit → Act → World → Prop} {a : Act} {w : World}
  {gf : Nat} {lb : Array Value} (hg : a.eval g = .func (.func gf) #[] lb) (eg : ∀ args w, (callFunc gf args).run P w = .ok (.enter gf args) w)
  {encs : α → Array Value} {ok : List α → Nat → α → World → Prop} {S : List α → Prop} {N : Nat} {T : Nat → Prop} (hT : ∀ k, w.heap.size ≤ k → T k)
  (hok : ∀ pre B x W W', ok pre B x W → Chg (fun k => k < B) W W' → ok pre B x W')
  (hseq : SeqEach n P gf lb encs ok T S N w) (hps : ∀ x, (encs x).size = ps.size)
  (I : List α → Nat → World → Prop) (hIg : ∀ s B A A', I s B A → Below A.heap.size A A' → I s B A') (hIu : ∀ s B B' A, I s B A → B ≤ B' → I s B' A) (hIp : ∀ s B A r o o', I s B A → w.heap.size ≤ r → A.heap[r]? = some o → o.isCells = false → I s B (A.putObj r o'))
  (Ix : Code → List α → World → Prop) (hXg : ∀ c s A A', Ix c s A → Below A.heap.size A A' → Ix c s A') (hXp : ∀ c s A r o o', Ix c s A → w.heap.size ≤ r → A.heap[r]? = some o → o.isCells = false → Ix c s (A.putObj r o'))
  (h0 : I [] w.heap.size w) (a₁ : α → Act)
  (hassign : ∀ (l : Nat) (x : α) (W : World) (K : Act → World → Prop), K (a₁ x) W →
   assign.wpIn (Fence.wide.inRound l) n P (Exit.then K (fun _ _ _ => False)) { tmps := (ps.zip (encs x)).foldl (fun t (p, v) => t.setIfInBounds p v) a.tmps, defers := [] } W)
  (hbody : ∀ (l : Nat) (pre : List α) (B : Nat) (x : α) (W : World), I pre B W → ok pre B x W → B ≤ W.heap.size → pre.length < N → body.wpIn (Fence.wide.inRound l) n P (eachPost I Ix T (pre ++ [x]) W) (a₁ x) W)
  (hdone : ∀ (D : Nat) (xs : List α) (W : World), w.heap.size ≤ D → S xs → I xs W.heap.size W → W.heap[D]? = some (.deferred (some [])) → Q .normal { a with defers := { target := .collected D, args := #[] } :: a.defers } W)
  (hstop : ∀ (D : Nat) (c : Code) (pre : List α) (W : World), w.heap.size ≤ D → Ix c pre W → W.heap[D]? = some (.deferred (some [])) → c.wpIn Fence.wide n P Q { a with defers := { target := .collected D, args := #[] } :: a.defers } W) :
  (Code.rangeFunc g ps assign body).wpIn Fence.wide n P Q a w := by
 refine wpIn_rangeFunc ?_
 intro fn hfn
 rw [Fence.wide_round]
 obtain ⟨rec, hrec⟩ : ∃ rec : LoopState → Option Code → Loop, rec = fun st pe => { state := st, pending := pe, fn, tmps := a.tmps, params := ps, assign, body, defers := w.heap.size } := ⟨_, rfl⟩
 obtain ⟨W1, hW1⟩ : ∃ W1, (w.alloc (.deferred (some []))).alloc (.loop (rec .ready none)) = W1 := ⟨_, rfl⟩
 have hL1 : W1.heap[w.heap.size + 1]? = some (.loop (rec .ready none)) := by
  rw [← hW1]; have := World.alloc_heap_new (w.alloc (.deferred (some []))) (.loop (rec .ready none)); rwa [World.size_alloc] at this
 have hK1 : W1.heap[w.heap.size]? = some (.deferred (some [])) := by
  rw [← hW1]; exact (Below.heap_alloc _ _ _ (by simp)).trans (World.alloc_heap_new w _)
 have hb1 : Below w.heap.size w W1 := by
  rw [← hW1]; exact (((Below.refl _ w).alloc (Nat.le_refl _) _).alloc (by simp) _)
 have hI1 : I [] W1.heap.size W1 := hIu _ _ _ _ (hIg _ _ _ _ h0 hb1) hb1.size
 refine ⟨w.heap.size + 1, [{ target := .collected w.heap.size, args := #[] }], W1, { target := .fn (.func gf) lb, args := #[.func (.yield (w.heap.size + 1)) #[] #[]] }, W1, gf,
  #[.func (.yield (w.heap.size + 1)) #[] #[]] ++ lb, W1, ?_, ?_, ?_, ?_, fun h => (by cases h), ?_⟩
 ·rw [← hW1, hrec]; exact run_enterLoop_outer _ _ _ _ _
 ·simp only [resolve, hg]
  simp [go_sem]
 ·intro f' hf'; trivial
 ·simp [invoke, go_sem, eg]
 ·refine (callsIn_wide (n := n - 1)).2 ((callsIn_wide (n := n)).1 ((hseq (w.heap.size + 1)
   (fun pre W => I pre W.heap.size W ∧ W.heap[w.heap.size + 1]? = some (.loop (rec .ready none)) ∧ W.heap[w.heap.size]? = some (.deferred (some [])))
   (fun pre W => ∃ c, Ix c pre W ∧ W.heap[w.heap.size + 1]? = some (.loop (rec .done (some c))) ∧ W.heap[w.heap.size]? = some (.deferred (some [])))
   W1 hb1 ?_ ?_ ?_ ⟨hI1, hL1, hK1⟩).mono ?_))
  ·rintro s A B ⟨h1, h2, h3⟩ hc
   exact ⟨hIu _ _ _ _ (hIg _ _ _ _ h1 hc) hc.size, (hc.block _ (Array.getElem?_eq_some_iff.1 h2).1).trans h2, (hc.block _ (Array.getElem?_eq_some_iff.1 h3).1).trans h3⟩
  ·rintro s A B ⟨c, h1, h2, h3⟩ hc
   exact ⟨c, hXg _ _ _ _ h1 hc, (hc.block _ (Array.getElem?_eq_some_iff.1 h2).1).trans h2, (hc.block _ (Array.getElem?_eq_some_iff.1 h3).1).trans h3⟩
  ·-- ONE ROUND
   rintro pre x W0 W ⟨hi0, hl0, hk0⟩ hg0 hok0 hpn
   have hB0 : w.heap.size + 1 < W0.heap.size := (Array.getElem?_eq_some_iff.1 hl0).1
   have hl : W.heap[w.heap.size + 1]? = some (.loop (rec .ready none)) := (hg0.block _ hB0).trans hl0
   have hk : W.heap[w.heap.size]? = some (.deferred (some [])) := (hg0.block _ (by omega)).trans hk0
   have hi : I pre W0.heap.size W := hIg _ _ _ _ hi0 hg0
   have hlt : w.heap.size + 1 < W.heap.size := (Array.getElem?_eq_some_iff.1 hl).1
   have hsz : W0.heap.size ≤ W.heap.size := hg0.size
   have hy := run_yield (P := P) (args := encs x) hl (by rw [hrec]; exact hps x)
   rw [hrec] at hy
   refine ⟨fn, _, assign, body, hy, roundIn_of_wpIn hfn (hassign _ x W _ ⟨_, run_beginRound hl (by rw [hrec]), ?_⟩)⟩
   obtain ⟨W2, hW2⟩ : ∃ W2, W.putObj (w.heap.size + 1) (.loop { rec .ready none with state := .busy }) = W2 := ⟨_, rfl⟩
   rw [hW2]
   have hl2 : W2.heap[w.heap.size + 1]? = some (.loop { rec .ready none with state := .busy }) := by rw [← hW2]; exact World.putObj_heap_same hlt
   have hk2 : W2.heap[w.heap.size]? = some (.deferred (some [])) := by rw [← hW2]; exact (World.putObj_heap_other (by omega)).trans hk
   have hi2 : I pre W0.heap.size W2 := by rw [← hW2]; exact hIp _ _ _ _ _ _ hi (by omega) hl rfl
   have hc2 : Chg (fun k => k < W0.heap.size) W W2 := by rw [← hW2]; exact ea_putObj (S := fun k => k < W0.heap.size) (Chg.refl _ _) (.inl hB0) _
   have hcT : Chg T W W2 := by rw [← hW2]; exact ea_putObj (S := T) (Chg.refl _ _) (.inl (hT _ (by omega))) _
   have hs2 : W0.heap.size ≤ W2.heap.size := Nat.le_trans hsz hc2.size
   refine wpIn_mono (hbody _ pre W0.heap.size x W2 hi2 (hok _ _ _ _ _ hok0 hc2) hs2 hpn) ?_
   rintro e a3 W3 hp
   cases e with
   | normal =>
    obtain ⟨hk3, hi3, hc3⟩ := hp
    have hl3 := hk3.same _ _ hl2 rfl
    have hd3 := hk3.same _ _ hk2 rfl
    have hr := run_endRound (P := P) none hl3
    refine ⟨_, _, hr, .inl ⟨rfl, ⟨?_, ?_, (World.putObj_heap_other (by omega)).trans hd3⟩, ?_⟩⟩
    ·rw [World.putObj_size]
     exact hIp _ _ _ _ _ _ hi3 (by omega) hl3 rfl
    ·rw [World.putObj_heap_same (Array.getElem?_eq_some_iff.1 hl3).1, hrec]
     rfl
    ·exact ea_putObj (S := T) (hcT.trans hc3 (fun k hk => .inl hk)) (.inl (hT _ (by omega))) _
   | ret =>
    obtain ⟨hk3, hi3⟩ := hp
    have hl3 := hk3.same _ _ hl2 rfl
    have hd3 := hk3.same _ _ hk2 rfl
    have hr := run_endRound (P := P) (some .ret) hl3
    refine ⟨_, _, hr, .inr ⟨rfl, .ret, hXp _ _ _ _ _ _ hi3 (by omega) hl3 rfl, ?_, (World.putObj_heap_other (by omega)).trans hd3⟩⟩
    rw [World.putObj_heap_same (Array.getElem?_eq_some_iff.1 hl3).1, hrec]
    rfl
   | exit id => exact hp.elim
   | goto t => exact hp.elim
   | panic ch => exact hp.elim
   | outgrown => exact hp.elim
  ·rintro e W2 ⟨⟨v, rfl⟩, (⟨xs, hS, hi, hl, hk⟩ | ⟨pre, c, hi, hl, hk⟩)⟩
   ·refine ⟨none, _, by have := run_endLoop (P := P) hl (by rw [hrec]; simp); rw [hrec] at this; exact this, ?_⟩
    refine hdone _ xs _ (Nat.le_refl _) hS ?_ ((World.putObj_heap_other (by omega)).trans hk)
    rw [World.putObj_size]
    exact hIp _ _ _ _ _ _ hi (by omega) hl rfl
   ·exact ⟨some c, _, by have := run_endLoop (P := P) hl (by rw [hrec]; simp); rw [hrec] at this; exact this, hstop _ c pre _ (Nat.le_refl _) (hXp _ _ _ _ _ _ hi (by omega) hl rfl) ((World.putObj_heap_other (by omega)).trans hk)⟩
theorem ea_append {α : Type} {F : Fence} {nF : Nat} {P : Program} {ops : Array Oper} {rest : List Oper} {o : Oper} {a : Act} {Q : Exit → Act → World → Prop} (d : Kd α) {W : World} (base : Nat) (hgd : o.guard = none) (s x : Operand) (t e : TypeId) (z : Value) (bytes : Nat)
  (ho : o.op = .call { callee := .builtin .append, args := #[s, x], argTypes := #[t, t] })
  (ht : P.underlying t = some (.slice e)) (hinfo : (P.info? e).map (fun i => (i.zero, i.size, i.bytes)) = some (some z, d.sz, bytes)) (hz : z.cells.size = d.sz) (hs0 : 0 < d.sz) (hb0 : 0 < bytes)
  (v : Value) (xs : List α) (p : α) (cs : List Value) (ok okp : Nat → Prop) (hs : a.eval s = v) (hx : a.eval x = .slice (some ⟨W.heap.size, 0, none⟩) 1 1) (hp : d.M W base okp p cs) (hokp : ∀ k, okp k → ok k ∧ some k ≠ v.ownBlock) (hfresh : ∀ k, W.heap.size ≤ k → ok k)
  (HO : d.R e W base ok v xs) (hbase : base ≤ W.heap.size) (hl : (xs.length + 1) * bytes ≤ 140737488355328)
  (h : ∀ v1 w1, d.R e w1 base ok v1 (xs ++ [p]) → W.grownBy w1 v.ownBlock → (v1.ownBlock = v.ownBlock ∨ ∃ b, v1.ownBlock = some b ∧ W.heap.size ≤ b) → wpListIn F nF P ops Q rest (a.put o.dst v1) w1) :
  wpListIn F nF P ops Q (o :: rest) a (W.alloc (.cells cs.toArray e)) := by
 obtain ⟨h0, inner, hown, hr⟩ := HO
 obtain ⟨i0, hi, hzz⟩ := Option.map_eq_some_iff.1 hinfo
 simp only [Prod.mk.injEq] at hzz
 obtain ⟨hz0, hz1, hz2⟩ := hzz
 have hlen : xs.length + 1 ≤ 140737488355328 := Nat.le_trans (Nat.le_mul_of_pos_right _ hb0) hl
 have hcl : cs.length = d.sz := d.K_len (d.K_of_M hp)
 refine wpListIn_append_own_at (W.alloc (.cells cs.toArray e)) hgd s x t ho base e i0 z d.sz bytes ht hi hz0 hz1 hz2 hz hs0 v xs.length inner hs (hown.alloc _) ⟨W.heap.size, 0, none⟩ 1 1 cs hx (by rw [hcl]; simp)
  (by simpa using World.news_of_block (cs := cs.toArray) (t := e) (fr := (0, 0)) (heap_alloc_new W (.cells cs.toArray e))) (d.K_one (d.K_of_M hp)) (by simp only [maxLen]; omega) hl (by simp; omega) ?_
 intro v1 w1 hown1 hg1 _ hat
 have hg2 := World.grownBy.trans (World.grownBy_alloc W (.cells cs.toArray e) v.ownBlock) hg1
 have hat2 : v1.ownBlock = v.ownBlock ∨ ∃ b, v1.ownBlock = some b ∧ W.heap.size ≤ b := by
  rcases hat with hat | hat
  ·exact .inl hat
  ·exact .inr ⟨_, hat, by simp⟩
 exact h v1 w1 (Kd.R_appended h0 hr hp hokp hfresh hown1 hg2 hat2) hg2 hat2
end Go.Proofs.Yteamldgngknmfaa
