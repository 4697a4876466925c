/- varint.Put and Zig, dec.Check, the document's Put and Zig, in the printed form; no condition. -/
import Derived.Test.YtclbmdblalgdjaaZLRGetD
import Derived.Test.YtclbmdblalgdjaaZLLawDec
import Derived.Test.YtclbmdblalgdjaaZLPEx0
namespace Go.Proofs.Ytclbmdblalgdjaa.PE
open Go.RowKit Go.Proofs.YtclbmdblalgdjaaW.PrintWords Go.Proofs.YtclbmdblalgdjaaW.PrintLast Go.Proofs.YtclbmdblalgdjaaW.PrintMore
set_option linter.unusedVariables false
set_option linter.unusedSimpArgs false
def varint_Put.f (a0 : Int) : Option (List Int) := if 0 ≤ a0 ∧ a0 < 18446744073709551616 then some (vput a0.toNat) else none
theorem varint_Put.calls (a0 : Int) (r : List Int) (w : World) (h : varint_Put.f a0 = some r) :
    Calls Try.prog 41 #[.int .u64 a0] w fun e w' => ∃ v0_ : Value, e = .returned (v0_) ∧ Kd.R (Kd.int .u8) 5 w' w.heap.size (fun _ => True) v0_ r ∧ Below w.heap.size w w' := by
  unfold varint_Put.f at h
  split at h
  · rename_i hq
    rw [← Option.some.inj h]
    obtain ⟨n, rfl⟩ := Int.eq_ofNat_of_zero_le hq.1
    exact put_calls n (by omega) w
  · cases h
def varint_Zig.f (a0 : Int) : Option Int := if -9223372036854775808 ≤ a0 ∧ a0 ≤ 9223372036854775807 then some (zigN a0 : Int) else none
theorem varint_Zig.calls (a0 : Int) (r : Int) (w : World) (h : varint_Zig.f a0 = some r) : Calls Try.prog 48 #[.int .i64 a0] w fun e w' => e = .returned (.int .u64 r) ∧ Below w.heap.size w w' := by
  unfold varint_Zig.f at h
  split at h
  · rename_i hq
    rw [← Option.some.inj h]
    exact zig_calls a0 hq.1 hq.2 w
  · cases h
def dec_Check.f (a0 : Bool) (a1 a2 : Int) : Option Int := if 0 ≤ a1 ∧ a1 < 18446744073709551616 then some (decBad a0 a1 a2) else none
theorem dec_Check.calls (a0 : Bool) (a1 a2 : Int) (r : Int) (w : World) (h : dec_Check.f a0 a1 a2 = some r) : Calls Try.prog 47 #[.agg #[.bool a0, .int .u64 a1, .int .i64 a2]] w fun e w' => e = .returned (.int .i64 r) ∧ Below w.heap.size w w' := by
  unfold dec_Check.f at h
  split at h
  · rename_i hq
    rw [← Option.some.inj h]
    exact deccheck_calls a0 a1 a2 w hq
  · cases h
def forebayref02_Put.f (a0 : Int) : Option (List Int) := if 0 ≤ a0 ∧ a0 < 18446744073709551616 then some (vput a0.toNat) else none
theorem forebayref02_Put.calls (a0 : Int) (r : List Int) (w : World) (h : forebayref02_Put.f a0 = some r) :
    Calls Try.prog 46 #[.int .u64 a0] w fun e w' => ∃ v0_ : Value, e = .returned (v0_) ∧ Kd.R (Kd.int .u8) 5 w' w.heap.size (fun _ => True) v0_ r ∧ Below w.heap.size w w' := by
  unfold forebayref02_Put.f at h
  split at h
  · rename_i hq
    rw [← Option.some.inj h]
    obtain ⟨n, rfl⟩ := Int.eq_ofNat_of_zero_le hq.1
    exact refput_calls n (by omega) w
  · cases h
def forebayref02_Zig.f (a0 : Int) : Option Int := if -9223372036854775808 ≤ a0 ∧ a0 ≤ 9223372036854775807 then some (zigN a0 : Int) else none
theorem forebayref02_Zig.calls (a0 : Int) (r : Int) (w : World) (h : forebayref02_Zig.f a0 = some r) : Calls Try.prog 49 #[.int .i64 a0] w fun e w' => e = .returned (.int .u64 r) ∧ w' = w := by
  unfold forebayref02_Zig.f at h
  split at h
  · rename_i hq
    rw [← Option.some.inj h]
    refine (refzig_calls a0 hq.1 hq.2 w).mono ?_
    rintro e w' ⟨rfl, rfl⟩
    exact ⟨rfl, rfl⟩
  · cases h
end Go.Proofs.Ytclbmdblalgdjaa.PE
