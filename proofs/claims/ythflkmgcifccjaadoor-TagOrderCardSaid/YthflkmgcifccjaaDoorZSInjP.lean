/- strings.Split, Cut and Join in the printed form, at a world in which the library's MaxLen holds a number; for what is in bounds. -/
import Derived.Test.YthflkmgcifccjaaDoorZSShelf
import Derived.Test.YthflkmgcifccjaaDoorZSBase
import Derived.Test.YthflkmgcifccjaaDoorZSPEx0
import Derived.Lib.SplitLaws
namespace Go.Proofs.YthflkmgcifccjaaDoor.PE
open Go.RowKit Go.Proofs.YthflkmgcifccjaaDoorW.PrintWords Go.Proofs.YthflkmgcifccjaaDoorW.PrintLast Go.Proofs.YthflkmgcifccjaaDoorW.PrintMore
set_option linter.unusedVariables false
set_option linter.unusedSimpArgs false
def MaxAt (w : World) : Prop := ∃ m : Int, w.cell? ⟨0, 0, none⟩ = some (.int .i64 m)
theorem MaxAt.below {w w' : World} (h : MaxAt w) (hb : Below w.heap.size w w') : MaxAt w' := by
  obtain ⟨m, hm⟩ := h
  exact ⟨m, (hb.cell (World.block_lt_of_cell? _ _ hm)).trans hm⟩
def strings_Split.f (a0 a1 : ByteArray) : Option (List ByteArray) := if a0.size < 4294967281 ∧ 1 ≤ a1.size ∧ Lib.countB a0 a1 < 4294967281 then some (Lib.splitB a1 0 (Lib.countB a0 a1) a0) else none
theorem strings_Split.calls (a0 a1 : ByteArray) (r : List ByteArray) (w : World) (h : strings_Split.f a0 a1 = some r) (hMx : MaxAt w) :
    Calls Tryd.prog 23 #[.string a0, .string a1] w fun e w' => ∃ v0_ : Value, e = .returned (v0_) ∧ Kd.R Kd.string 9 w' w.heap.size (fun _ => True) v0_ r ∧ Below w.heap.size w w' := by
  unfold strings_Split.f at h
  split at h
  · rename_i hq
    obtain ⟨m, hm⟩ := hMx
    have e := Option.some.inj h
    have hl : r.length = Lib.countB a0 a1 + 1 := by rw [← e]; exact Lib.splitB_all a1 hq.2.1 0 _ a0 rfl
    refine (Tryd.strings_Split a0 a1 m w hq.1 hm hq.2.1).mono ?_
    rintro e' w' ⟨rfl, rfl⟩
    refine ⟨_, rfl, ?_, below_alloc (Below.refl _ _) _⟩
    rw [← hl, e]
    refine Kd.R_of_own ⟨by simp [encs], .inr ⟨w.heap.size, r.length, _, rfl, Nat.le_refl _, blk_new w (.cells (r.map Value.string).toArray 9 (0, 0)), Nat.le_refl _, by rw [hl]; have := hq.2.2; simp [maxLen]; omega, by simp, by simp only [encs, Nat.mul_one]; rw [List.take_of_length_le (by simp)]⟩⟩ (fun _ _ => trivial)
  · cases h
def strings_Cut.f (a0 a1 : ByteArray) : Option (ByteArray × ByteArray × Bool) := if a0.size < 4294967281 then some (⟨(Lib.cut a0.data.toList a1.data.toList).1.toArray⟩, ⟨(Lib.cut a0.data.toList a1.data.toList).2.1.toArray⟩, (Lib.cut a0.data.toList a1.data.toList).2.2) else none
theorem strings_Cut.calls (a0 a1 : ByteArray) (r1 r2 : ByteArray) (r3 : Bool) (w : World) (h : strings_Cut.f a0 a1 = some (r1, r2, r3)) (hMx : MaxAt w) :
    Calls Tryd.prog 24 #[.string a0, .string a1] w fun e w' => e = .returned (.tuple #[.string r1, .string r2, .bool r3]) ∧ ∃ n, w' = w.drewN n := by
  unfold strings_Cut.f at h
  split at h
  · rename_i hq
    obtain ⟨m, hm⟩ := hMx
    have e := Option.some.inj h
    have e1 := congrArg Prod.fst e
    have e2 := congrArg (fun x => x.2.1) e
    have e3 := congrArg (fun x => x.2.2) e
    dsimp only at e1 e2 e3
    rw [← e1, ← e2, ← e3]
    exact Any.strings_Cut { Tryd.laysM145 with } a0 a1 m w hq hm
  · cases h
end Go.Proofs.YthflkmgcifccjaaDoor.PE
