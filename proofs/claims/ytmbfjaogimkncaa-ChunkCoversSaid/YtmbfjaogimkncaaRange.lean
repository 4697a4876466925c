/- A range over a function whose iterator turns blocks of its own that lay ahead of the loop; no condition. -/
import Derived.Test.YtmbfjaogimkncaaDict
import Derived.RangeFuncNested
import Derived.RangeFuncBound
import Derived.RangeFuncCalls
import Derived.RangeFuncLeaves
import Derived.RangeFuncBox
namespace Go.Proofs.Ytmbfjaogimkncaa
open Go.RowKit Go.Proofs.YtmbfjaogimkncaaW.PrintWords Go.Proofs.YtmbfjaogimkncaaW.PrintLast Go.Proofs.YtmbfjaogimkncaaW.PrintMore
set_option linter.unusedVariables false
set_option linter.unusedSimpArgs false
section
variable {S T : Nat → Prop} {w w' w2 : World}
theorem Chg.mono' (h : Chg S w w') (hs : ∀ k, S k → T k) : Chg T w w' := ⟨h.os, h.tape, h.output, h.size, fun k hk hn => h.block k hk (fun e => hn (hs k e))⟩
theorem Chg.alloc0 (w : World) (o : Obj) : Chg S w (w.alloc o) := Chg.of_grown (World.grownBy_alloc w o none) (fun k e => by cases e)
theorem Chg.putObj (h : Chg S w w') {r : Nat} (hr : S r ∨ w.heap.size ≤ r) (o : Obj) : Chg S w (w'.putObj r o) :=
  ⟨h.os, h.tape, h.output, by rw [World.putObj_size]; exact h.size, fun k hk hn => (World.putObj_heap_other (fun e => by subst e; rcases hr with hr | hr; exact hn hr; omega)).trans (h.block k hk hn)⟩
end
/-- The caller's invariant: J O s: the iterator owns the blocks O: they may turn; what is new may come to be its own. -/
structure Apart {β : Type} (J : (Nat → Prop) → β → World → Prop) : Prop where
  turn : ∀ {O O' : Nat → Prop} {s : β} {W W' : World}, J O s W → Chg O W W' → (∀ k, O' k → O k ∨ W.heap.size ≤ k ∧ k < W'.heap.size) → J O' s W'
def rangePostA {β : Type} (I : (Nat → Prop) → List β → World → Prop) (O1 : Nat → Prop) (xs : List β) (W : World) : Exit → Act → World → Prop
  | .normal, _, W' => KeepsOthers W W' ∧ I O1 xs W' ∧ Chg (fun k => ¬ O1 k) W W'
  | _, _, _ => False
/-- What an iterator promises that owns blocks which lay ahead. -/
def SeqOwns {α β : Type} (n : Nat) (P : Program) (gf : Nat) (lb : Array Value) (encs : α → Array Value) (val : α → β) (ok : (Nat → Prop) → (Nat → Prop) → α → World → Prop) (S : (Nat → Prop) → List β → World → Prop) (O0 : Nat → Prop) (N : Nat) (w : World) : Prop :=
  ∀ (l : Nat) (J : (Nat → Prop) → List β → World → Prop) (W : World), Below w.heap.size w W → Apart J →
    (∀ O O1 pre x W1, J O pre W1 → ok O O1 x W1 → pre.length < N → YieldAt Fence.wide n P l (encs x) W1 fun e W' => e = .returned (.bool true) ∧ J O1 (pre ++ [val x]) W' ∧ Chg (fun k => ¬ O1 k) W1 W') →
    J O0 [] W →
    CallsIn Fence.wide n P gf (#[.func (.yield l) #[] #[]] ++ lb) W fun e W' => (∃ v, e = .returned v) ∧ ∃ O xs, S O xs W' ∧ J O xs W'
set_option maxHeartbeats 1000000 in
theorem range_apart {α β : Type} {P : Program} {n : Nat} {g : Operand} {ps : Array Tmp} {assign body : Code} {Q : Exit → Act → World → Prop} {a : Act} {w : World}
    {gf : Nat} {lb : Array Value} (hg : a.eval g = .func (.func gf) #[] lb) (eg : ∀ args w, (callFunc gf args).run P w = .ok (.enter gf args) w)
    {encs : α → Array Value} {val : α → β} {ok : (Nat → Prop) → (Nat → Prop) → α → World → Prop} {S : (Nat → Prop) → List β → World → Prop} {O0 : Nat → Prop} {N : Nat}
    (hO0 : ∀ k, O0 k → k < w.heap.size) (hok1 : ∀ O O1 x W, ok O O1 x W → ∀ k, O1 k → O k) (hokC : ∀ O O1 x W W', ok O O1 x W → Chg (fun k => ¬ O k) W W' → ok O O1 x W')
    (hSC : ∀ O xs W W', S O xs W → Chg (fun k => ¬ O k) W W' → S O xs W')
    (hseq : SeqOwns n P gf lb encs val ok S O0 N w) (hps : ∀ x, (encs x).size = ps.size)
    (I : (Nat → Prop) → List β → World → Prop) (hI : Apart I) (hIp : ∀ O s W r o o', I O s W → w.heap.size ≤ r → W.heap[r]? = some o → o.isCells = false → I O s (W.putObj r o')) (h0 : I O0 [] w)
    (T : TypeId) (cellsOf : α → Array Value) (a₁ : α → Nat → Act)
    (hassign : ∀ (l : Nat) (x : α) (W : World) (K : Act → World → Prop), K (a₁ x W.heap.size) (W.alloc (.cells (cellsOf x) T)) →
      assign.wpIn (Fence.wide.inRound l) n P (Exit.then K (fun _ _ _ => False)) { tmps := (ps.zip (encs x)).foldl (fun t (p, v) => t.setIfInBounds p v) a.tmps, defers := [] } W)
    (hbody : ∀ (l B : Nat) (O O1 : Nat → Prop) (pre : List β) (x : α) (W : World), I O pre W → ok O O1 x W → W.heap[B]? = some (.cells (cellsOf x) T (0, 0)) → w.heap.size ≤ B → ¬ O B → pre.length < N → body.wpIn (Fence.wide.inRound l) n P (rangePostA I O1 (pre ++ [val x]) W) (a₁ x B) W)
    (hdone : ∀ (D : Nat) (O : Nat → Prop) (xs : List β) (W : World), w.heap.size ≤ D → S O xs W → I O xs W → W.heap[D]? = some (.deferred (some [])) → ¬ O D → Q .normal { a with defers := { target := .collected D, args := #[] } :: a.defers } W) :
    (Code.rangeFunc g ps assign body).wpIn Fence.wide n P Q a w := by
  refine wpIn_rangeFunc ?_
  intro fn hfn
  rw [Fence.wide_round]
  obtain ⟨rec, hrec⟩ : ∃ rec : LoopState → Option Code → Loop, rec = fun st pe => { state := st, pending := pe, fn, tmps := a.tmps, params := ps, assign, body, defers := w.heap.size } := ⟨_, rfl⟩
  obtain ⟨W1, hW1⟩ : ∃ W1, (w.alloc (.deferred (some []))).alloc (.loop (rec .ready none)) = W1 := ⟨_, rfl⟩
  have hL1 : W1.heap[w.heap.size + 1]? = some (.loop (rec .ready none)) := by
    rw [← hW1]; have := World.alloc_heap_new (w.alloc (.deferred (some []))) (.loop (rec .ready none)); rwa [World.size_alloc] at this
  have hK1 : W1.heap[w.heap.size]? = some (.deferred (some [])) := by
    rw [← hW1]; exact (Below.heap_alloc _ _ _ (by simp)).trans (World.alloc_heap_new w _)
  have hI1 : I O0 [] W1 := by
    rw [← hW1]
    exact hI.turn (hI.turn h0 (Chg.alloc0 _ _) (fun k hk => .inl hk)) (Chg.alloc0 _ _) (fun k hk => .inl hk)
  have hb1 : Below w.heap.size w W1 := by
    rw [← hW1]; exact (((Below.refl _ w).alloc (Nat.le_refl _) _).alloc (by simp) _)
  refine ⟨w.heap.size + 1, [{ target := .collected w.heap.size, args := #[] }], W1, { target := .fn (.func gf) lb, args := #[.func (.yield (w.heap.size + 1)) #[] #[]] }, W1, gf,
    #[.func (.yield (w.heap.size + 1)) #[] #[]] ++ lb, W1, ?_, ?_, ?_, ?_, fun h => (by cases h), ?_⟩
  · rw [← hW1, hrec]; exact run_enterLoop_outer _ _ _ _ _
  · simp only [resolve, hg]
    simp [go_sem]
  · intro f' hf'; trivial
  · simp [invoke, go_sem, eg]
  · refine (callsIn_wide (n := n - 1)).2 ((callsIn_wide (n := n)).1 ((hseq (w.heap.size + 1)
      (fun O pre W => I O pre W ∧ W.heap[w.heap.size + 1]? = some (.loop (rec .ready none)) ∧ W.heap[w.heap.size]? = some (.deferred (some [])) ∧ ¬ O (w.heap.size + 1) ∧ ¬ O w.heap.size ∧ ∀ k, O k → k < W.heap.size)
      W1 hb1 ⟨?_⟩ ?_ ⟨hI1, hL1, hK1, fun h => by have := hO0 _ h; omega, fun h => by have := hO0 _ h; omega, fun k hk => Nat.lt_of_lt_of_le (hO0 k hk) hb1.size⟩).mono ?_))
    · rintro O O' s A B ⟨h1, h2, h3, h4, h5, h6⟩ hc ho
      have l2 := (Array.getElem?_eq_some_iff.1 h2).1
      refine ⟨hI.turn h1 hc ho, (hc.block _ l2 h4).trans h2, (hc.block _ (by omega) h5).trans h3, fun e => ?_, fun e => ?_, fun k hk => ?_⟩
      · rcases ho _ e with e | e
        · exact h4 e
        · omega
      · rcases ho _ e with e | e
        · exact h5 e
        · omega
      · rcases ho _ hk with e | e
        · exact Nat.lt_of_lt_of_le (h6 k e) hc.size
        · exact e.2
    · -- ONE ROUND
      rintro O O1 pre x W ⟨hi, hl, hk, hol, hod, hos⟩ hok hpn
      have hlt : w.heap.size + 1 < W.heap.size := (Array.getElem?_eq_some_iff.1 hl).1
      have hy := run_yield (P := P) (args := encs x) hl (by rw [hrec]; exact hps x)
      rw [hrec] at hy
      obtain ⟨Wa, hWa⟩ : ∃ Wa, W.alloc (.cells (cellsOf x) T) = Wa := ⟨_, rfl⟩
      have hca : Chg (fun _ => False) W Wa := by rw [← hWa]; exact Chg.alloc0 _ _
      have hla : Wa.heap[w.heap.size + 1]? = some (.loop (rec .ready none)) := (hca.block _ hlt (fun h => h)).trans hl
      have hka : Wa.heap[w.heap.size]? = some (.deferred (some [])) := (hca.block _ (by omega) (fun h => h)).trans hk
      have hBa : Wa.heap[W.heap.size]? = some (.cells (cellsOf x) T (0, 0)) := by rw [← hWa]; exact World.alloc_heap_new W _
      have hlta : w.heap.size + 1 < Wa.heap.size := (Array.getElem?_eq_some_iff.1 hla).1
      refine ⟨fn, _, assign, body, hy, roundIn_of_wpIn hfn (hassign _ x W _ ⟨_, run_beginRound (by rw [hWa]; exact hla) (by rw [hrec]), ?_⟩)⟩
      rw [hWa]
      obtain ⟨W2, hW2⟩ : ∃ W2, Wa.putObj (w.heap.size + 1) (.loop { rec .ready none with state := .busy }) = W2 := ⟨_, rfl⟩
      rw [hW2]
      have hl2 : W2.heap[w.heap.size + 1]? = some (.loop { rec .ready none with state := .busy }) := by rw [← hW2]; exact World.putObj_heap_same hlta
      have hk2 : W2.heap[w.heap.size]? = some (.deferred (some [])) := by rw [← hW2]; exact (World.putObj_heap_other (by omega)).trans hka
      have hB2 : W2.heap[W.heap.size]? = some (.cells (cellsOf x) T (0, 0)) := by rw [← hW2]; exact (World.putObj_heap_other (by omega)).trans hBa
      have hi2 : I O pre W2 := by rw [← hW2]; exact hIp _ _ _ _ _ _ (hI.turn hi (hca.mono' (fun _ h => h.elim)) (fun k hk => .inl hk)) (by omega) hla rfl
      have hc2 : Chg (fun k => ¬ O k) W W2 := by rw [← hW2]; exact (hca.mono' (fun _ h => h.elim)).putObj (.inl hol) _
      have hok2 : ok O O1 x W2 := hokC _ _ _ _ _ hok hc2
      have hOB : ¬ O W.heap.size := fun h => Nat.lt_irrefl _ (hos _ h)
      refine wpIn_mono (hbody _ W.heap.size O O1 pre x W2 hi2 hok2 hB2 (by omega) hOB hpn) ?_
      rintro e a3 W3 hp
      cases e with
      | normal =>
        obtain ⟨hk3, hi3, hc3⟩ := hp
        have hl3 := hk3.same _ _ hl2 rfl
        have hd3 := hk3.same _ _ hk2 rfl
        have hr := run_endRound (P := P) none hl3
        have ho1 := hok1 _ _ _ _ hok
        have hO1l : ¬ O1 (w.heap.size + 1) := fun h => hol (ho1 _ h)
        have hO1d : ¬ O1 w.heap.size := fun h => hod (ho1 _ h)
        refine ⟨_, _, hr, rfl, ⟨hIp _ _ _ _ _ _ hi3 (by omega) hl3 rfl, ?_, (World.putObj_heap_other (by omega)).trans hd3, hO1l, hO1d, fun k hk => ?_⟩, ?_⟩
        · rw [World.putObj_heap_same (Array.getElem?_eq_some_iff.1 hl3).1, hrec]
          rfl
        · have h1 := hos k (ho1 _ hk)
          have h2 := hc2.size
          have h3 := hc3.size
          rw [World.putObj_size]
          omega
        · exact ((hc2.mono' (fun k hk h => hk (ho1 _ h))).trans hc3 (fun k hk => .inl hk)).putObj (.inl hO1l) _
      | ret => exact hp.elim
      | exit id => exact hp.elim
      | goto t => exact hp.elim
      | panic ch => exact hp.elim
      | outgrown => exact hp.elim
    · rintro e W2 ⟨⟨v, rfl⟩, O, xs, hS, hi, hl, hk, hol, hod, hos⟩
      refine ⟨none, _, by have := run_endLoop (P := P) hl (by rw [hrec]; simp); rw [hrec] at this; exact this, ?_⟩
      exact hdone _ O xs _ (Nat.le_refl _) (hSC _ _ _ _ hS ((Chg.refl _ _).putObj (.inl hol) _)) (hIp _ _ _ _ _ _ hi (by omega) hl rfl) ((World.putObj_heap_other (by omega)).trans hk) hod
end Go.Proofs.Ytmbfjaogimkncaa
