/- The ground of this seat's own texts: what the walks import; no condition. -/
import Derived.Test.YteamldgngknmfaaProg
import Derived.Below
import Derived.Deep.Draws
import Derived.Deep.AppendLies
import Derived.Maps.AppendAt
import Derived.OwnWalk
import Derived.Laws.BytesArg
import Derived.Laws.MakeOwn
import Derived.Laws.OwnMore
import Derived.Deep.OwnRows
import Derived.Tactics
import Derived.Lib.ConvBytes
import Derived.Laws.Slices
import Derived.WalkKit
import Derived.KernelRfl
import Derived.RowKit3
import Derived.Deep.LoopGhost
import Derived.Deep.QuietTactic
import Derived.BigQuiet
import Derived.WideLaws
import Derived.Deep.DeepCutAuto
import Derived.Deep.CutBlock
import Derived.Deep.RegionHeld3
import Derived.Laws.Rows
import Derived.Lib.AppendStr
import Derived.ArgAppend
import Derived.Laws.IdiomCopy
import Derived.OrdersHeld
import Derived.Laws.BitsLemmas
import Derived.RowKit
import Derived.Lib.Hide
import Derived.WalkSpells
import Derived.OpenShut
import Derived.Test.YteamldgngknmfaaZJWWords
import Derived.Test.YteamldgngknmfaaZJWLast
import Derived.Test.YteamldgngknmfaaZJWTab
import Derived.Test.YteamldgngknmfaaZJWApart
import Derived.Test.YteamldgngknmfaaZJWArr
import Derived.Test.YteamldgngknmfaaZJWZeros
import Derived.Test.YteamldgngknmfaaZJWFoot
import Derived.Test.YteamldgngknmfaaZJWKept
import Derived.Test.YteamldgngknmfaaZJWShare
import Derived.Test.YteamldgngknmfaaZJWN
import Derived.Test.YteamldgngknmfaaZJWEqStruct
import Derived.Test.YteamldgngknmfaaZJWRepsOne
import Derived.Test.YteamldgngknmfaaZJWInv
import Derived.Test.YteamldgngknmfaaZJWGuard
import Derived.Test.YteamldgngknmfaaZJWMore
import Derived.ProofKit
import Derived.ShutString
import Derived.ChangeOld
import Derived.SizedLaws
import Derived.ChangeSlices
import Derived.SliceStrings
import Derived.Test.YteamldgngknmfaaZJWSized
import Derived.ChangeMaps5
namespace Go.Proofs.Yteamldgngknmfaa
open Go.RowKit Go.Proofs.YteamldgngknmfaaW.PrintWords Go.Proofs.YteamldgngknmfaaW.PrintLast Go.Proofs.YteamldgngknmfaaW.PrintMore
structure Chg (S : Nat → Prop) (w w' : World) : Prop where
  os : w'.os = w.os
  tape : w'.tape = w.tape
  output : w'.output = w.output
  size : w.heap.size ≤ w'.heap.size
  block : ∀ k, k < w.heap.size → ¬ S k → w'.heap[k]? = w.heap[k]?
section
variable {S S' : Nat → Prop} {w w' w'' : World}
theorem Chg.refl (S : Nat → Prop) (w : World) : Chg S w w := ⟨rfl, rfl, rfl, Nat.le_refl _, fun _ _ _ => rfl⟩
theorem Chg.to_below {B : Nat} (h : Chg S w w') (hs : ∀ k, S k → B ≤ k) (hB : B ≤ w.heap.size) : Below B w w' :=
  ⟨h.os, h.tape, h.output, h.size, fun k hk => h.block k (by omega) (fun h1 => by have := hs k h1; omega)⟩
end
section
variable {P : Program} {ops : Array Oper} {rest : List Oper} {o : Oper} {a : Act} {Q : Exit → Act → World → Prop} {α : Type}
end
section
variable {P : Program} {ops : Array Oper} {Q : Exit → Act → World → Prop}
end
theorem add_block (a : Addr) (i : Nat) : (a.add i).block = a.block := by unfold Addr.add; split <;> rfl
section
variable {P : Program} {f : FuncId} {args : Array Value} {w W : World} {Q : Ending → World → Prop}
theorem Calls.stepEq {v : Value} (h : Calls P f args W (fun e w' => e = .returned v ∧ W = w')) (k : Q (.returned v) W) : Calls P f args W Q := by
  refine h.mono ?_
  rintro e w' ⟨rfl, rfl⟩
  exact k
end
section
variable {P : Program} {ops : Array Oper} {rest : List Oper} {o : Oper} {a : Act} {Q : Exit → Act → World → Prop}
end
end Go.Proofs.Yteamldgngknmfaa
/- What the laws' rows open: a slice of whole numbers that came in; no condition. -/
namespace Go.Proofs.Yteamldgngknmfaa
open Go.RowKit Go.ChangeShapes Go.WideShapes Go.Proofs.YteamldgngknmfaaW.PrintWords
theorem open_row {H : Type} {enc : TypeId × Value → H} {P : Program} {W : World} {base : Nat} {spare : Nat → Bool} {held : Bool} {t e : TypeId} {k : IntKind} {a : Option Addr} {len cap : Nat} {d : DataW H} {ps : List MemPlace}
    (hu : P.underlying t = some (.slice e)) (he : P.underlying e = some (.int k)) (hc : P.cellsOf e = 1) (hb : len ≤ 9223372036854775807) (h : DataW.Trod enc P W base spare held t (.slice a len cap) d ps) :
    ∃ xs : List Int, (Kd.int k).C W a len xs ∧ (∀ x ∈ xs, (Lit.int k x).wf = true) ∧ len ≤ cap := by
  obtain ⟨fuel, hf⟩ := h
  rcases open_ints hu he hc hf with ⟨hcs, _⟩ | ⟨x, l, c, zs, hcs, _, hl, hm, hz, _, hcell, hwz⟩
  · simp [Value.cells] at hcs
    obtain ⟨rfl, rfl, rfl⟩ := hcs
    exact ⟨[], Kd.C_nil _ _, by simp, Nat.le_refl _⟩
  · simp [Value.cells] at hcs
    obtain ⟨rfl, rfl, rfl⟩ := hcs
    have hz' : len ≤ zs.length := by
      rw [hz]
      split
      · exact hl
      · exact Nat.le_refl _
    refine ⟨zs.take len, Kd.C_of_reads (enc := Value.int k) (d := (0 : Int)) (h1 := fun _ => rfl) ⟨by simp; omega, hb, fun _ => ⟨_, rfl, fun j hj => ?_⟩⟩, fun y hy => hwz y (List.mem_of_mem_take hy), hl⟩
    rw [hcell j (by omega)]
    congr 2
    rw [List.getD_eq_getElem?_getD, List.getD_eq_getElem?_getD, List.getElem?_take_of_lt hj]
end Go.Proofs.Yteamldgngknmfaa
/- What the laws' rows open: two of a kind, by value; no condition. -/
namespace Go.Proofs.Yteamldgngknmfaa
open Go.RowKit Go.ChangeShapes Go.WideShapes Go.Proofs.YteamldgngknmfaaW.PrintWords
section
variable {H : Type} {enc : TypeId × Value → H} {P : Program} {w : World} {base b0 : Nat} {spare : Nat → Bool} {held : Bool} {t e : TypeId} {v : Value} {d : DataW H} {ps : List MemPlace} {r : Reach}
theorem list3 {α : Type} (l : List α) (h : (⟨l⟩ : Array α).size = 3) : ∃ a b c, l = [a, b, c] := by
  match l, h with
  | [a, b, c], _ => exact ⟨a, b, c, rfl⟩
theorem trod_trip {fuel : Nat} {c0 c1 c2 : Value} {x : DataW H × List MemPlace} (ht : P.underlying t = some (.array 3 e)) (hce : P.cellsOf e = 1)
    (h : DataW.trod enc P w base spare held fuel t [c0, c1, c2] = some x) :
    ∃ y0 y1 y2 n, x = (.agg [y0.1, y1.1, y2.1], y0.2 ++ (y1.2 ++ y2.2)) ∧ DataW.trod enc P w base spare held n e [c0] = some y0 ∧ DataW.trod enc P w base spare held n e [c1] = some y1 ∧ DataW.trod enc P w base spare held n e [c2] = some y2 := by
  cases fuel with
  | zero => simp [DataW.trod] at h
  | succ n =>
    unfold DataW.trod at h
    rw [ht] at h
    have r3 : List.range 3 = [0, 1, 2] := rfl
    simp [r3, hce] at h
    obtain ⟨_, h⟩ := h
    cases h0 : DataW.trod enc P w base spare held n e [c0] with
    | none => simp [h0] at h
    | some y0 =>
      cases h1 : DataW.trod enc P w base spare held n e [c1] with
      | none => simp [h0, h1] at h
      | some y1 =>
        cases h2 : DataW.trod enc P w base spare held n e [c2] with
        | none => simp [h0, h1, h2] at h
        | some y2 =>
          simp [h0, h1, h2] at h
          exact ⟨y0, y1, y2, n, h.symm, h0, h1, h2⟩
theorem open_ints3 {k : IntKind} (ht : P.underlying t = some (.array 3 e)) (he : P.underlying e = some (.int k)) (hce : P.cellsOf e = 1) (hC : P.cellsOf t = 3) (hv : Value.okWide P w r b0 t v) (h : DataW.Trod enc P w base spare held t v d ps) :
    ∃ a b c : Int, v = .agg #[.int k a, .int k b, .int k c] ∧ d = .agg [.lit (.int k a), .lit (.int k b), .lit (.int k c)] ∧ ps = [] ∧ (Lit.int k a).wf = true ∧ (Lit.int k b).wf = true ∧ (Lit.int k c).wf = true := by
  obtain ⟨cs, rfl, hsz, _⟩ : ∃ cs, v = .agg cs ∧ cs.size = P.cellsOf t ∧ Row.okWide P w r b0 t cs := by
    have := hv
    simpa [Value.okWide, ht] using this
  rw [hC] at hsz
  obtain ⟨l⟩ := cs
  obtain ⟨c0, c1, c2, rfl⟩ := list3 l hsz
  obtain ⟨fuel, hf⟩ := h
  obtain ⟨y0, y1, y2, n, hx, h0, h1, h2⟩ := trod_trip ht hce hf
  simp only [Prod.mk.injEq] at hx
  obtain ⟨a, ea, rfl, wa⟩ := DataW.trod_int he h0
  obtain ⟨b, eb, rfl, wb⟩ := DataW.trod_int he h1
  obtain ⟨c, ec, rfl, wc⟩ := DataW.trod_int he h2
  simp at ea eb ec
  subst ea eb ec
  exact ⟨a, b, c, rfl, hx.1, hx.2, wa, wb, wc⟩
theorem shut_ints3 {k : IntKind} {a b c : Int} (ht : P.underlying t = some (.array 3 e)) (he : P.underlying e = some (.int k)) (hce : P.cellsOf e = 1) (hC : P.cellsOf t = 3) (wa : (Lit.int k a).wf = true) (wb : (Lit.int k b).wf = true) (wc : (Lit.int k c).wf = true) :
    DataW.Trod enc P w base spare held t (.agg #[.int k a, .int k b, .int k c]) (.agg [.lit (.int k a), .lit (.int k b), .lit (.int k c)]) [] := by
  refine ⟨2, ?_⟩
  have r3 : List.range 3 = [0, 1, 2] := rfl
  unfold DataW.trod
  rw [ht]
  simp [Value.cells, r3, hce, hC, DataW.trod, he, wa, wb, wc]
end
end Go.Proofs.Yteamldgngknmfaa
