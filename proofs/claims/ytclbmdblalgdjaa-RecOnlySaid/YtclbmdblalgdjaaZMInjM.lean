/- The contract of package metric's Check in the printed form; no condition. -/
import Derived.Test.YtclbmdblalgdjaaZMMetB
import Derived.Test.YtclbmdblalgdjaaZMClsB
import Derived.Test.YtclbmdblalgdjaaZMTimes
import Derived.Test.YtclbmdblalgdjaaZMPEx0
namespace Go.Proofs.Ytclbmdblalgdjaa.PE
open Go.RowKit Go.Proofs.YtclbmdblalgdjaaW.PrintWords Go.Proofs.YtclbmdblalgdjaaW.PrintLast Go.Proofs.YtclbmdblalgdjaaW.PrintMore
set_option linter.unusedVariables false
set_option linter.unusedSimpArgs false
def decIn (d : S48) : Bool := (decide (0 ≤ d.f1) && decide (d.f1 < 18446744073709551616)) && (decide (-9223372036854775808 ≤ d.f2) && decide (d.f2 ≤ 9223372036854775807))
def tagIn (t : S81) : Bool := decide (t.f0.size ≤ 9223372036854775807) && decide (t.f1.size ≤ 9223372036854775807)
def metIn (m : S26) : Bool := decide (m.f0.size ≤ 9223372036854775807) && (m.f2.all decIn && m.f4.all tagIn)
theorem metC_of {m : S26} {Av At : Option Addr} {cv ct : Nat} {w : World} (hv : Kd.C k48 w Av m.f2.length m.f2) (hvc : m.f2.length ≤ cv) (ht : Kd.C k81 w At m.f4.length m.f4) (htc : m.f4.length ≤ ct) (h : metIn m = true) : MetC m Av cv At ct w := by
  unfold metIn at h
  simp only [Bool.and_eq_true, decide_eq_true_eq, List.all_eq_true] at h
  refine ⟨hv, hvc, ht, htc, fun x hx => ?_, fun x hx => ?_, h.1⟩
  · have := h.2.1 x hx
    unfold decIn at this
    simp only [Bool.and_eq_true, decide_eq_true_eq] at this
    exact this.1
  · have := h.2.2 x hx
    unfold tagIn at this
    simpa using this
def metric_Check.f (a0_0 : ByteArray) (a0_1 : Int) (l0_2 : List S48) (a0_3 : Int) (l0_4 : List S81) (a0_5 : Int) : Option Int := if metIn (⟨a0_0, a0_1, l0_2, a0_3, l0_4, a0_5⟩ : S26) = true then some (metBad (⟨a0_0, a0_1, l0_2, a0_3, l0_4, a0_5⟩ : S26)) else none
theorem metric_Check.calls (a0_0 : ByteArray) (a0_1 : Int) (A0_2 : Option Addr) (c0_2 : Nat) (l0_2 : List S48) (a0_3 : Int) (A0_4 : Option Addr) (c0_4 : Nat) (l0_4 : List S81) (a0_5 : Int) (r : Int) (w : World) (hr0_2 : Kd.C k48 w A0_2 l0_2.length l0_2) (hc0_2 : l0_2.length ≤ c0_2) (hr0_4 : Kd.C k81 w A0_4 l0_4.length l0_4) (hc0_4 : l0_4.length ≤ c0_4) (h : metric_Check.f a0_0 a0_1 l0_2 a0_3 l0_4 a0_5 = some r) :
    Calls Try.prog 37 #[.agg #[.string a0_0, .int .i64 a0_1, .slice A0_2 l0_2.length c0_2, .int .i64 a0_3, .slice A0_4 l0_4.length c0_4, .int .i64 a0_5]] w fun e w' => e = .returned (.int .i64 r) ∧ Below w.heap.size w w' := by
  unfold metric_Check.f at h
  split at h
  · rename_i hq
    cases h
    exact mcheck_calls (⟨a0_0, a0_1, l0_2, a0_3, l0_4, a0_5⟩ : S26) A0_2 c0_2 A0_4 c0_4 w (metC_of hr0_2 hc0_2 hr0_4 hc0_4 hq)
  · cases h
def forebayref04_Text.f (a0 : Int) (a1 : ByteArray) (a2 : Int) (a3 : Int) : Option (Int × Int) := if betB a0 1 4 = true ∧ (0 ≤ a2 ∧ a2 ≤ a3) ∧ a1.size ≤ 9223372036854775807 then some (textW a0 a1 a2 a3) else none
end Go.Proofs.Ytclbmdblalgdjaa.PE
