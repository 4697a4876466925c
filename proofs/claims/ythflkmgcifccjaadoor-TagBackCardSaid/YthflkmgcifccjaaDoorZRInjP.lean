/- strings.Split, Cut and Join in the printed form, at a world in which the library's MaxLen holds a number; for what is in bounds. -/
import Derived.Test.YthflkmgcifccjaaDoorZRShelf
import Derived.Test.YthflkmgcifccjaaDoorZRBase
import Derived.Test.YthflkmgcifccjaaDoorZRPEx0
import Derived.Lib.SplitLaws
namespace Go.Proofs.YthflkmgcifccjaaDoor.PE
open Go.RowKit Go.Proofs.YthflkmgcifccjaaDoorW.PrintWords Go.Proofs.YthflkmgcifccjaaDoorW.PrintLast Go.Proofs.YthflkmgcifccjaaDoorW.PrintMore
set_option linter.unusedVariables false
set_option linter.unusedSimpArgs false
def MaxAt (w : World) : Prop := ∃ m : Int, w.cell? ⟨0, 0, none⟩ = some (.int .i64 m)
theorem MaxAt.below {w w' : World} (h : MaxAt w) (hb : Below w.heap.size w w') : MaxAt w' := by
  obtain ⟨m, hm⟩ := h
  exact ⟨m, (hb.cell (World.block_lt_of_cell? _ _ hm)).trans hm⟩
def strings_Split.f (a0 a1 : ByteArray) : Option (List ByteArray) := if a0.size < 4294967281 ∧ 1 ≤ a1.size ∧ Lib.countB a0 a1 < 4294967281 then some (Lib.splitB a1 0 (Lib.countB a0 a1) a0) else none
theorem strings_Split.calls (a0 a1 : ByteArray) (r : List ByteArray) (w : World) (h : strings_Split.f a0 a1 = some r) (hMx : MaxAt w) :
    Calls Tryd.prog 23 #[.string a0, .string a1] w fun e w' => ∃ v0_ : Value, e = .returned (v0_) ∧ Kd.R Kd.string 9 w' w.heap.size (fun _ => True) v0_ r ∧ Below w.heap.size w w' := by
  unfold strings_Split.f at h
  split at h
  · rename_i hq
    obtain ⟨m, hm⟩ := hMx
    have e := Option.some.inj h
    have hl : r.length = Lib.countB a0 a1 + 1 := by rw [← e]; exact Lib.splitB_all a1 hq.2.1 0 _ a0 rfl
    refine (Tryd.strings_Split a0 a1 m w hq.1 hm hq.2.1).mono ?_
    rintro e' w' ⟨rfl, rfl⟩
    refine ⟨_, rfl, ?_, below_alloc (Below.refl _ _) _⟩
    rw [← hl, e]
    refine Kd.R_of_own ⟨by simp [encs], .inr ⟨w.heap.size, r.length, _, rfl, Nat.le_refl _, blk_new w (.cells (r.map Value.string).toArray 9 (0, 0)), Nat.le_refl _, by rw [hl]; have := hq.2.2; simp [maxLen]; omega, by simp, by simp only [encs, Nat.mul_one]; rw [List.take_of_length_le (by simp)]⟩⟩ (fun _ _ => trivial)
  · cases h
def strings_Cut.f (a0 a1 : ByteArray) : Option (ByteArray × ByteArray × Bool) := if a0.size < 4294967281 then some (⟨(Lib.cut a0.data.toList a1.data.toList).1.toArray⟩, ⟨(Lib.cut a0.data.toList a1.data.toList).2.1.toArray⟩, (Lib.cut a0.data.toList a1.data.toList).2.2) else none
theorem strings_Cut.calls (a0 a1 : ByteArray) (r1 r2 : ByteArray) (r3 : Bool) (w : World) (h : strings_Cut.f a0 a1 = some (r1, r2, r3)) (hMx : MaxAt w) :
    Calls Tryd.prog 24 #[.string a0, .string a1] w fun e w' => e = .returned (.tuple #[.string r1, .string r2, .bool r3]) ∧ ∃ n, w' = w.drewN n := by
  unfold strings_Cut.f at h
  split at h
  · rename_i hq
    obtain ⟨m, hm⟩ := hMx
    have e := Option.some.inj h
    have e1 := congrArg Prod.fst e
    have e2 := congrArg (fun x => x.2.1) e
    have e3 := congrArg (fun x => x.2.2) e
    dsimp only at e1 e2 e3
    rw [← e1, ← e2, ← e3]
    exact Any.strings_Cut { Tryd.laysM145 with } a0 a1 m w hq hm
  · cases h
def strings_Join.f (l0 : List ByteArray) (a1 : ByteArray) : Option ByteArray := if l0.length ≤ 140737488355328 ∧ (Lib.join (l0.map (·.data.toList)) a1.data.toList).length ≤ 140737488355328 then some ⟨(Lib.join (l0.map (·.data.toList)) a1.data.toList).toArray⟩ else none
theorem strings_Join.calls (A0 : Option Addr) (c0 : Nat) (l0 : List ByteArray) (a1 : ByteArray) (r : ByteArray) (w : World) (hr0 : Kd.C Kd.string w A0 l0.length l0) (hc0 : l0.length ≤ c0) (h : strings_Join.f l0 a1 = some r) :
    Calls Tryd.prog 35 #[.slice A0 l0.length c0, .string a1] w fun e w' => e = .returned (.string r) ∧ Below w.heap.size w w' := by
  unfold strings_Join.f at h
  split at h
  · rename_i hq
    rw [← Option.some.inj h]
    cases l0 with
    | nil => exact (Tryd.strings_Join_none A0 c0 a1 w).mono fun e w' ⟨he, hw⟩ => ⟨he, hw ▸ Below.refl _ _⟩
    | cons x l =>
      obtain ⟨ad, e0, h0⟩ := Kd.at_string hr0 0 (by omega) (by simp)
      subst e0
      have h0' : w.cell? ad = some (.string (rdOf ByteArray.empty (x :: l) 0)) := h0
      have hsp : ad.spot = none := by
        unfold World.cell? at h0'
        split at h0'
        · split at h0'
          · cases h0'
          · rename_i hh; simpa using hh
        · cases h0'
      have had : ad = ⟨ad.block, ad.off, none⟩ := by
        cases ad
        simp only at hsp
        subst hsp
        rfl
      have hc : ∀ (j : Nat) y, (x :: l)[j]? = some y → w.cell? ⟨ad.block, ad.off + j, none⟩ = some (.string y) := by
        intro j y hy
        obtain ⟨hj, hy⟩ := List.getElem?_eq_some_iff.mp hy
        obtain ⟨ad', e1, h1⟩ := Kd.at_string hr0 (j : Int) (by omega) (by omega)
        cases e1
        rw [Int.toNat_natCast] at h1
        have e2 : rdOf ByteArray.empty (x :: l) (j : Int) = y := by
          unfold rdOf
          rw [Int.toNat_natCast, List.getD_eq_getElem?_getD, List.getElem?_eq_getElem hj, hy]
          rfl
        rw [e2] at h1
        have e3 : ad.add j = ⟨ad.block, ad.off + j, none⟩ := by
          unfold Addr.add
          split
          · rename_i hz
            subst hz
            exact had
          · rfl
        rw [e3] at h1
        exact h1
      have hbk := World.block_lt_of_cell? _ _ h0'
      rw [had]
      exact Tryd.strings_Join ad.block ad.off c0 (x :: l) a1 w hc hbk hq.1 hc0 hq.2
  · cases h
end Go.Proofs.YthflkmgcifccjaaDoor.PE
