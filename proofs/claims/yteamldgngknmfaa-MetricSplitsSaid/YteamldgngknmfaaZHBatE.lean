/- Package batch: Equal (slices.EqualFunc over metric.Equal); no condition. -/
import Derived.Test.YteamldgngknmfaaZHBatch
import Derived.Test.YteamldgngknmfaaZHRNormM
import Derived.Test.YteamldgngknmfaaZHPEx11
namespace Go.Proofs.Yteamldgngknmfaa
open Go.RowKit Go.Proofs.YteamldgngknmfaaW.PrintWords Go.Proofs.YteamldgngknmfaaW.PrintLast Go.Proofs.YteamldgngknmfaaW.PrintMore Go.Proofs.Yteamldgngknmfaa.PE
set_option linter.unusedVariables false
set_option linter.unusedSimpArgs false
def decsEq : List S40 → List S40 → Bool
  | [], [] => true
  | x :: l, y :: r => ((x.f0 == y.f0) && ((x.f1 == y.f1) && (x.f2 == y.f2))) && decsEq l r
  | _, _ => false
def tagsEq : List S37 → List S37 → Bool
  | [], [] => true
  | x :: l, y :: r => ((x.f0.toList == y.f0.toList) && (x.f1.toList == y.f1.toList)) && tagsEq l r
  | _, _ => false
def metEq (a b : MetS) : Bool := (a.f0.toList == b.f0.toList) && ((a.f1 == b.f1) && ((a.f3 == b.f3) && ((a.f5 == b.f5) && (decsEq a.f2 b.f2 && tagsEq a.f4 b.f4))))
def metsEq : List MetS → List MetS → Bool
  | [], [] => true
  | x :: l, y :: r => metEq x y && metsEq l r
  | _, _ => false
theorem decsEq_iff : ∀ a b : List S40, decsEq a b = true ↔ a = b
  | [], [] => by simp [decsEq]
  | [], _ :: _ => by simp [decsEq]
  | _ :: _, [] => by simp [decsEq]
  | x :: l, y :: r => by
    have ih := decsEq_iff l r
    cases x; cases y
    simp only [decsEq, Bool.and_eq_true, beq_iff_eq, ih, List.cons.injEq]
    constructor
    · rintro ⟨⟨h1, h2, h3⟩, h4⟩; subst h1 h2 h3 h4; exact ⟨rfl, rfl⟩
    · rintro ⟨h1, h2⟩; injection h1 with h1 h3 h4; exact ⟨⟨h1, h3, h4⟩, h2⟩
theorem tagsEq_iff : ∀ a b : List S37, tagsEq a b = true ↔ a = b
  | [], [] => by simp [tagsEq]
  | [], _ :: _ => by simp [tagsEq]
  | _ :: _, [] => by simp [tagsEq]
  | x :: l, y :: r => by
    have ih := tagsEq_iff l r
    cases x; cases y
    simp only [tagsEq, Bool.and_eq_true, beq_iff_eq, ih, List.cons.injEq]
    constructor
    · rintro ⟨⟨h1, h2⟩, h4⟩; have h1 := ba_inj h1; have h2 := ba_inj h2; subst h1 h2 h4; exact ⟨rfl, rfl⟩
    · rintro ⟨h1, h2⟩; injection h1 with h1 h3; exact ⟨⟨by rw [h1], by rw [h3]⟩, h2⟩
theorem metEq_iff (a b : MetS) : metEq a b = true ↔ a = b := by
  cases a; cases b
  simp only [metEq, Bool.and_eq_true, beq_iff_eq, decsEq_iff, tagsEq_iff]
  constructor
  · rintro ⟨h1, h2, h3, h4, h5, h6⟩; have h1 := ba_inj h1; subst h1 h2 h3 h4 h5 h6; rfl
  · intro h; injection h with h1 h2 h3 h4 h5 h6; exact ⟨by rw [h1], h2, h4, h6, h3, h5⟩
theorem mequal_calls (a b : MetS) (Av : Option Addr) (cv : Nat) (At : Option Addr) (ct : Nat) (Bv : Option Addr) (dv : Nat) (Bt : Option Addr) (dt : Nat) (w : World) (ha : MetC a Av cv At ct w) (hb : MetC b Bv dv Bt dt w) (h2 : a.f2.length ≤ 140737488355328) (h4 : a.f4.length ≤ 140737488355328) :
    Calls Try.prog 22 #[.agg #[.string a.f0, .int .i64 a.f1, .slice Av a.f2.length cv, .int .i64 a.f3, .slice At a.f4.length ct, .int .i64 a.f5], .agg #[.string b.f0, .int .i64 b.f1, .slice Bv b.f2.length dv, .int .i64 b.f3, .slice Bt b.f4.length dt, .int .i64 b.f5]] w fun e w' => e = .returned (.bool (metEq a b)) ∧ Below w.heap.size w w' := by
  obtain ⟨t, e1, e2⟩ := meq_ev a b h2 h4
  have ht : t = metEq a b := by rw [Bool.eq_iff_iff, e2, metEq_iff]
  obtain ⟨k, hk⟩ := Ev.rounds e1
  rw [ht] at hk
  exact metric_Equal.calls k a.f0 a.f1 Av cv a.f2 a.f3 At ct a.f4 a.f5 b.f0 b.f1 Bv dv b.f2 b.f3 Bt dt b.f4 b.f5 (metEq a b) w ha.v ha.vc ha.t ha.tc hb.v hb.vc hb.t hb.tc hk
end Go.Proofs.Yteamldgngknmfaa
