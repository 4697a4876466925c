/- A range over a function whose iterator turns nothing that lay ahead of it, whose body may leave, and whose variables are boxed anew each time; no condition. -/
import Derived.Test.YteamldgngknmfaaZKLawMetB
namespace Go.Proofs.Yteamldgngknmfaa
open Go.RowKit Go.Proofs.YteamldgngknmfaaW.PrintWords Go.Proofs.YteamldgngknmfaaW.PrintLast Go.Proofs.YteamldgngknmfaaW.PrintMore
set_option linter.unusedVariables false
set_option linter.unusedSimpArgs false
set_option maxHeartbeats 1000000 in
theorem range_eachb {α : Type} {P : Program} {n : Nat} {g : Operand} {ps : Array Tmp} {assign body : Code} {Q : Exit → Act → World → Prop} {a : Act} {w : World}
    {gf : Nat} {lb : Array Value} (hg : a.eval g = .func (.func gf) #[] lb) (eg : ∀ args w, (callFunc gf args).run P w = .ok (.enter gf args) w)
    {encs : α → Array Value} {ok : List α → Nat → α → World → Prop} {S : List α → Prop} {N : Nat} {T : Nat → Prop} (hT : ∀ k, w.heap.size ≤ k → T k)
    (hok : ∀ pre B x W W', ok pre B x W → Chg (fun k => k < B) W W' → ok pre B x W')
    (hseq : SeqEach n P gf lb encs ok T S N w) (hps : ∀ x, (encs x).size = ps.size)
    (I : List α → Nat → World → Prop) (hIg : ∀ s B A A', I s B A → Below A.heap.size A A' → I s B A') (hIu : ∀ s B B' A, I s B A → B ≤ B' → I s B' A) (hIp : ∀ s B A r o o', I s B A → (r = w.heap.size ∨ r = w.heap.size + 1) → A.heap[r]? = some o → o.isCells = false → I s B (A.putObj r o'))
    (Ix : Code → List α → World → Prop) (hXg : ∀ c s A A', Ix c s A → Below A.heap.size A A' → Ix c s A') (hXp : ∀ c s A r o o', Ix c s A → (r = w.heap.size ∨ r = w.heap.size + 1) → A.heap[r]? = some o → o.isCells = false → Ix c s (A.putObj r o'))
    (h0 : I [] w.heap.size w) (a₁ : α → World → Act) (asg : α → World → World) (hasg : ∀ x W, Below W.heap.size W (asg x W)) (Bx : α → World → World → Prop) (hBx : ∀ x V, Bx x V (asg x V)) (hBxp : ∀ x V A r o o', Bx x V A → A.heap[r]? = some o → o.isCells = false → Bx x V (A.putObj r o'))
    (hassign : ∀ (l : Nat) (x : α) (W : World) (K : Act → World → Prop), K (a₁ x W) (asg x W) →
      assign.wpIn (Fence.wide.inRound l) n P (Exit.then K (fun _ _ _ => False)) { tmps := (ps.zip (encs x)).foldl (fun t (p, v) => t.setIfInBounds p v) a.tmps, defers := [] } W)
    (hbody : ∀ (l : Nat) (pre : List α) (B : Nat) (x : α) (V W : World), I pre B W → ok pre B x W → Bx x V W → w.heap.size + 2 ≤ B → B ≤ V.heap.size → V.heap.size ≤ W.heap.size → pre.length < N → body.wpIn (Fence.wide.inRound l) n P (eachPost I Ix T (pre ++ [x]) W) (a₁ x V) W)
    (hdone : ∀ (D : Nat) (xs : List α) (W : World), D = w.heap.size → S xs → I xs W.heap.size W → W.heap[D]? = some (.deferred (some [])) → Q .normal { a with defers := { target := .collected D, args := #[] } :: a.defers } W)
    (hstop : ∀ (D : Nat) (c : Code) (pre : List α) (W : World), D = w.heap.size → Ix c pre W → W.heap[D]? = some (.deferred (some [])) → c.wpIn Fence.wide n P Q { a with defers := { target := .collected D, args := #[] } :: a.defers } W) :
    (Code.rangeFunc g ps assign body).wpIn Fence.wide n P Q a w := by
  refine wpIn_rangeFunc ?_
  intro fn hfn
  rw [Fence.wide_round]
  obtain ⟨rec, hrec⟩ : ∃ rec : LoopState → Option Code → Loop, rec = fun st pe => { state := st, pending := pe, fn, tmps := a.tmps, params := ps, assign, body, defers := w.heap.size } := ⟨_, rfl⟩
  obtain ⟨W1, hW1⟩ : ∃ W1, (w.alloc (.deferred (some []))).alloc (.loop (rec .ready none)) = W1 := ⟨_, rfl⟩
  have hL1 : W1.heap[w.heap.size + 1]? = some (.loop (rec .ready none)) := by
    rw [← hW1]; have := World.alloc_heap_new (w.alloc (.deferred (some []))) (.loop (rec .ready none)); rwa [World.size_alloc] at this
  have hK1 : W1.heap[w.heap.size]? = some (.deferred (some [])) := by
    rw [← hW1]; exact (Below.heap_alloc _ _ _ (by simp)).trans (World.alloc_heap_new w _)
  have hb1 : Below w.heap.size w W1 := by
    rw [← hW1]; exact (((Below.refl _ w).alloc (Nat.le_refl _) _).alloc (by simp) _)
  have hI1 : I [] W1.heap.size W1 := hIu _ _ _ _ (hIg _ _ _ _ h0 hb1) hb1.size
  refine ⟨w.heap.size + 1, [{ target := .collected w.heap.size, args := #[] }], W1, { target := .fn (.func gf) lb, args := #[.func (.yield (w.heap.size + 1)) #[] #[]] }, W1, gf,
    #[.func (.yield (w.heap.size + 1)) #[] #[]] ++ lb, W1, ?_, ?_, ?_, ?_, fun h => (by cases h), ?_⟩
  · rw [← hW1, hrec]; exact run_enterLoop_outer _ _ _ _ _
  · simp only [resolve, hg]
    simp [go_sem]
  · intro f' hf'; trivial
  · simp [invoke, go_sem, eg]
  · refine (callsIn_wide (n := n - 1)).2 ((callsIn_wide (n := n)).1 ((hseq (w.heap.size + 1)
      (fun pre W => I pre W.heap.size W ∧ W.heap[w.heap.size + 1]? = some (.loop (rec .ready none)) ∧ W.heap[w.heap.size]? = some (.deferred (some [])))
      (fun pre W => ∃ c, Ix c pre W ∧ W.heap[w.heap.size + 1]? = some (.loop (rec .done (some c))) ∧ W.heap[w.heap.size]? = some (.deferred (some [])))
      W1 hb1 ?_ ?_ ?_ ⟨hI1, hL1, hK1⟩).mono ?_))
    · rintro s A B ⟨h1, h2, h3⟩ hc
      exact ⟨hIu _ _ _ _ (hIg _ _ _ _ h1 hc) hc.size, (hc.block _ (Array.getElem?_eq_some_iff.1 h2).1).trans h2, (hc.block _ (Array.getElem?_eq_some_iff.1 h3).1).trans h3⟩
    · rintro s A B ⟨c, h1, h2, h3⟩ hc
      exact ⟨c, hXg _ _ _ _ h1 hc, (hc.block _ (Array.getElem?_eq_some_iff.1 h2).1).trans h2, (hc.block _ (Array.getElem?_eq_some_iff.1 h3).1).trans h3⟩
    · -- ONE ROUND
      rintro pre x W0 W ⟨hi0, hl0, hk0⟩ hg0 hok0 hpn
      have hB0 : w.heap.size + 1 < W0.heap.size := (Array.getElem?_eq_some_iff.1 hl0).1
      have hl : W.heap[w.heap.size + 1]? = some (.loop (rec .ready none)) := (hg0.block _ hB0).trans hl0
      have hk : W.heap[w.heap.size]? = some (.deferred (some [])) := (hg0.block _ (by omega)).trans hk0
      have hi : I pre W0.heap.size W := hIg _ _ _ _ hi0 hg0
      have hlt : w.heap.size + 1 < W.heap.size := (Array.getElem?_eq_some_iff.1 hl).1
      have hsz : W0.heap.size ≤ W.heap.size := hg0.size
      have hy := run_yield (P := P) (args := encs x) hl (by rw [hrec]; exact hps x)
      rw [hrec] at hy
      have hA := hasg x W
      have hla : (asg x W).heap[w.heap.size + 1]? = some (.loop (rec .ready none)) := (hA.block _ hlt).trans hl
      have hka : (asg x W).heap[w.heap.size]? = some (.deferred (some [])) := (hA.block _ (by omega)).trans hk
      have hia : I pre W0.heap.size (asg x W) := hIg _ _ _ _ hi hA
      have hbxa : Bx x W (asg x W) := hBx x W
      have hlta : w.heap.size + 1 < (asg x W).heap.size := (Array.getElem?_eq_some_iff.1 hla).1
      have hAB : Chg (fun k => k < W0.heap.size) W (asg x W) := ⟨hA.os, hA.tape, hA.output, hA.size, fun k hk _ => hA.block k hk⟩
      have hAT : Chg T W (asg x W) := ⟨hA.os, hA.tape, hA.output, hA.size, fun k hk _ => hA.block k hk⟩
      refine ⟨fn, _, assign, body, hy, roundIn_of_wpIn hfn (hassign _ x W _ ⟨_, run_beginRound hla (by rw [hrec]), ?_⟩)⟩
      obtain ⟨W2, hW2⟩ : ∃ W2, (asg x W).putObj (w.heap.size + 1) (.loop { rec .ready none with state := .busy }) = W2 := ⟨_, rfl⟩
      rw [hW2]
      have hl2 : W2.heap[w.heap.size + 1]? = some (.loop { rec .ready none with state := .busy }) := by rw [← hW2]; exact World.putObj_heap_same hlta
      have hk2 : W2.heap[w.heap.size]? = some (.deferred (some [])) := by rw [← hW2]; exact (World.putObj_heap_other (by omega)).trans hka
      have hbx2 : Bx x W W2 := by rw [← hW2]; exact hBxp _ _ _ _ _ _ hbxa hla rfl
      have hi2 : I pre W0.heap.size W2 := by rw [← hW2]; exact hIp _ _ _ _ _ _ hia (by omega) hla rfl
      have hc2 : Chg (fun k => k < W0.heap.size) W W2 := by rw [← hW2]; exact ea_putObj (S := fun k => k < W0.heap.size) hAB (.inl hB0) _
      have hcT : Chg T W W2 := by rw [← hW2]; exact ea_putObj (S := T) hAT (.inl (hT _ (by omega))) _
      have hs2 : W.heap.size ≤ W2.heap.size := hc2.size
      refine wpIn_mono (hbody _ pre W0.heap.size x W W2 hi2 (hok _ _ _ _ _ hok0 hc2) hbx2 (by omega) hsz hs2 hpn) ?_
      rintro e a3 W3 hp
      cases e with
      | normal =>
        obtain ⟨hk3, hi3, hc3⟩ := hp
        have hl3 := hk3.same _ _ hl2 rfl
        have hd3 := hk3.same _ _ hk2 rfl
        have hr := run_endRound (P := P) none hl3
        refine ⟨_, _, hr, .inl ⟨rfl, ⟨?_, ?_, (World.putObj_heap_other (by omega)).trans hd3⟩, ?_⟩⟩
        · rw [World.putObj_size]
          exact hIp _ _ _ _ _ _ hi3 (by omega) hl3 rfl
        · rw [World.putObj_heap_same (Array.getElem?_eq_some_iff.1 hl3).1, hrec]
          rfl
        · exact ea_putObj (S := T) (hcT.trans hc3 (fun k hk => .inl hk)) (.inl (hT _ (by omega))) _
      | ret =>
        obtain ⟨hk3, hi3⟩ := hp
        have hl3 := hk3.same _ _ hl2 rfl
        have hd3 := hk3.same _ _ hk2 rfl
        have hr := run_endRound (P := P) (some .ret) hl3
        refine ⟨_, _, hr, .inr ⟨rfl, .ret, hXp _ _ _ _ _ _ hi3 (by omega) hl3 rfl, ?_, (World.putObj_heap_other (by omega)).trans hd3⟩⟩
        rw [World.putObj_heap_same (Array.getElem?_eq_some_iff.1 hl3).1, hrec]
        rfl
      | exit id => exact hp.elim
      | goto t => exact hp.elim
      | panic ch => exact hp.elim
      | outgrown => exact hp.elim
    · rintro e W2 ⟨⟨v, rfl⟩, (⟨xs, hS, hi, hl, hk⟩ | ⟨pre, c, hi, hl, hk⟩)⟩
      · refine ⟨none, _, by have := run_endLoop (P := P) hl (by rw [hrec]; simp); rw [hrec] at this; exact this, ?_⟩
        refine hdone _ xs _ rfl hS ?_ ((World.putObj_heap_other (by omega)).trans hk)
        rw [World.putObj_size]
        exact hIp _ _ _ _ _ _ hi (by omega) hl rfl
      · exact ⟨some c, _, by have := run_endLoop (P := P) hl (by rw [hrec]; simp); rw [hrec] at this; exact this, hstop _ c pre _ rfl (hXp _ _ _ _ _ _ hi (by omega) hl rfl) ((World.putObj_heap_other (by omega)).trans hk)⟩
end Go.Proofs.Yteamldgngknmfaa
