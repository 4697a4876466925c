/- BatchEquals: when two batches are the same, as they stand, and when they have one form, and which names there are: its walk; for any two batches, no condition. -/
import Derived.Test.YteamldgngknmfaaZFRBat9
import Derived.Test.YteamldgngknmfaaZFLawMetC
import Derived.Test.YteamldgngknmfaaRows
import Derived.Test.YteamldgngknmfaaZFPEx14
import Derived.Test.YteamldgngknmfaaZFPEx15
namespace Go.Proofs.Yteamldgngknmfaa
open Go.RowKit Go.Proofs.YteamldgngknmfaaW.PrintWords Go.Proofs.YteamldgngknmfaaW.PrintLast Go.Proofs.YteamldgngknmfaaW.PrintMore Go.Proofs.Yteamldgngknmfaa.PE
set_option linter.unusedVariables false
set_option linter.unusedSimpArgs false
theorem batchEquals_pure (a b : List S25) (ha : ∀ m ∈ a, metIn m = true) (hb : ∀ m ∈ b, metIn m = true) : ∃ k, forebaylaw08_BatchEquals.f k a b = some true := by
 refine Ev.rounds ?_
 obtain ⟨p, hp, hla⟩ := few8_ev a
 obtain ⟨q, hq, hlb⟩ := few8_ev b
 have haw : Ev (fun k => (forebaylaw08_awake.f k).bind fun t => (some t)) true := Ev.bind awake08_ev (Ev.now _)
 have hj : Ev (fun k => forebaylaw08_BatchEquals.j0 k a b true) true := Ev.step (fun k => by simp only [forebaylaw08_BatchEquals.j0]; exact if_pos trivial) haw
 unfold forebaylaw08_BatchEquals.f
 refine Ev.bind hp ?_
 cases p with
 | false => exact Ev.congr (fun k => if_neg (by decide)) hj
 | true =>
  refine Ev.congr (fun k => if_pos rfl) (Ev.bind hq ?_)
  cases q with
  | false => exact hj
  | true =>
   have h1 := hla rfl
   have h2 := hlb rfl
   have ia := small_of h1.2 ha
   have ib := small_of h2.2 hb
   have na := batNorm_in a ha h1.2
   have nb := batNorm_in b hb h2.2
   have sa := batNorm_small a h1.2
   have la := batNorm_len a
   have hj1 : Ev (fun k => forebaylaw08_BatchEquals.j1 k a b (batSame a b)) true := by
    refine Ev.step (f := fun k => (forebayref08_Equal.f k a b).bind fun t570 => (if (metsEq a b == t570) = true then ((forebayref08_Names.f k a).bind fun t575 => ((forebaylaw08_texts.f k (namesOf a) t575).bind fun t578 => (if t578 = true then ((forebaylaw08_awake.f k).bind fun t579 => (some t579)) else (none)))) else (none))) (fun k => ?_) (Ev.bind (refeqb_ev a b (fun m hm => by have := h1.2 m hm; omega) (by omega)) (Ev.congr (fun k => if_pos (beq_self_eq_true _)) (Ev.bind (refnam_ev a (by omega)) (Ev.bind (texts8_ev _ _ (by have := nmGo_len a []; unfold namesOf; simp at this; omega)) ?_))))
    ·simp only [forebaylaw08_BatchEquals.j1]
     rw [batequal_f a b ia ib, Option.bind_some, batsame_f a b ia ib na nb, Option.bind_some, if_pos (beq_self_eq_true _), batnames_f a ha (by omega), Option.bind_some]
    ·rw [decide_eq_true rfl]
     exact Ev.congr (fun k => if_pos rfl) haw
   refine Ev.step (f := fun k => (forebayref08_Normal.f k a).bind fun bt558 => ((forebayref08_Normal.f k b).bind fun bt563 => (if bt558.2.2 = 0 then (if bt563.2.2 = 0 then ((forebayref08_Equal.f k bt558.1 bt563.1).bind fun t568 => (forebaylaw08_BatchEquals.j1 k a b t568)) else (forebaylaw08_BatchEquals.j1 k a b false)) else (forebaylaw08_BatchEquals.j1 k a b false)))) (fun k => ?_) (Ev.bind (refbatn_ev a ha h1.2) (Ev.bind (refbatn_ev b hb h2.2) ?_))
   ·simp only [forebaylaw08_BatchEquals.j0]
    exact if_neg (by decide)
   ·unfold batSame at hj1
    by_cases c1 : (batNorm a).2.2 = 0
    ·by_cases c2 : (batNorm b).2.2 = 0
     ·rw [decide_eq_true c1, decide_eq_true c2, Bool.true_and, Bool.true_and] at hj1
      exact Ev.congr (fun k => by rw [if_pos c1, if_pos c2]) (Ev.bind (refeqb_ev _ _ (fun m hm => by have := sa m hm; omega) (by omega)) hj1)
     ·rw [decide_eq_false c2, Bool.and_false, Bool.false_and] at hj1
      exact Ev.congr (fun k => by rw [if_pos c1, if_neg c2]) hj1
    ·rw [decide_eq_false c1, Bool.false_and, Bool.false_and] at hj1
     exact Ev.congr (fun k => if_neg c1) hj1
theorem batchEquals_walk (a : List S25) (A : Option Addr) (c : Nat) (b : List S25) (B : Option Addr) (d : Nat) (w : World) (hA : k25.C w A a.length a) (hc : a.length ≤ c) (ha : ∀ m ∈ a, metIn m = true) (hB : k25.C w B b.length b) (hd : b.length ≤ d) (hb : ∀ m ∈ b, metIn m = true) :
  Calls Try.prog 11 #[.slice A a.length c, .slice B b.length d] w fun e w' => e = .returned (.bool true) ∧ Below w.heap.size w w' := by
 obtain ⟨k, hk⟩ := batchEquals_pure a b ha hb
 exact forebaylaw08_BatchEquals.calls k A c a B d b true w hA hc hB hd hk
namespace batchEquals
open Go.ChangeShapes Go.WideShapes Go.ChangeAt Go.RowKit
open Go.ChangeMaps (open_string shut_string)
theorem own : ownKnob Try.prog.godebug = none := by kernel_rfl
theorem laidOut : laidOutB Try.prog = true := by kernel_rfl
set_option maxRecDepth 100000 in
theorem lifted (os : Os) (started : os.Started) (H : Type) (enc : TypeId × Value → H) :
  ReturnsInHanded {} Try.checked os 11 .any (Rows.batchEqualsSpec.pre6 enc Try.prog Try.f11 Rows.batchEqualsRow.domain false) (Rows.batchEqualsSpec.post enc Try.prog Try.f11 false true false false) := by
 refine returnsInHanded_of_change_sized (C := Try.checked) own started (by kernel_rfl) Try.func11
  (ChangeSpec.witness6 (enc := enc) (C := Try.checked) false ⟨#[], #[.slice none 0 0, .slice none 0 0], []⟩ 8 (by kernel_rfl) (by kernel_rfl) (by kernel_rfl) (by kernel_rfl)) ?_
 intro W base args ds gs before hval0 hW hcnd hsz0 _
 have hsz : (DataW.weightsEach Try.prog (Try.f11.params.toList ++ Rows.batchEqualsSpec.plain.varTypes Try.prog) (ds ++ gs)).all (· ≤ reachBytes) = true := hsz0
 have hval : ∀ (j : Nat) t v, Try.f11.params[j]? = some t → args[j]? = some v → Value.okWide Try.prog W .any base t v := hval0
 have hW' := hW
 obtain ⟨p, q, hA0, hV, rfl, hfz, hnd⟩ := hW
 have hA : DataW.TrodAll enc Try.prog W 0 (fun _ => true) true Try.f11.params.toList args.toList ds p := hA0
 rw [Try.params11] at hA hval hsz
 obtain ⟨v0, vs0, d0, ds0, p0, q0, hargs, rfl, rfl, h0, r0⟩ := trodAll_cons hA
 obtain ⟨v1, vs1, d1, ds1, p1, q1, rfl, rfl, rfl, h1, r1⟩ := trodAll_cons r0
 obtain ⟨rfl, rfl, rfl⟩ := trodAll_nil r1
 obtain rfl : args = #[v0, v1] := by cases args; simp_all
 obtain ⟨rfl, rfl⟩ := trodVars_none hV
 have k0 := h0
 have lt0 : ∀ x ∈ p0, x.block < W.heap.size := by obtain ⟨m, hm⟩ := k0; exact DataW.trod_lt m _ _ _ hm
 obtain ⟨l0, A0, c0, rfl, g0, i0, j0⟩ := open_mets (hval 0 42 v0 rfl rfl) h0
 have k1 := h1
 have lt1 : ∀ x ∈ p1, x.block < W.heap.size := by obtain ⟨m, hm⟩ := k1; exact DataW.trod_lt m _ _ _ hm
 obtain ⟨l1, A1, c1, rfl, g1, i1, j1⟩ := open_mets (hval 1 42 v1 rfl rfl) h1
 clear hA0 hval0 hsz0 hsz
 refine (batchEquals_walk l0 A0 c0 l1 A1 c1 W g0 i0 j0 g1 i1 j1).mono fun e W' ⟨he, bel⟩ => ?_
 subst he
 exact ⟨_, rfl, _, _, _, [], _, [], hW', trodAll_mk1 (shut_bool Try.underlying4 _), (trodAll_cons_mk (Below.trod laidOut (by kernel_rfl) (of_decide_eq_true (by kernel_rfl)) k0 bel lt0) (trodAll_cons_mk (Below.trod laidOut (by kernel_rfl) (of_decide_eq_true (by kernel_rfl)) k1 bel lt1) trodAll_mk0)), rfl, bel.frame _, fun h => by cases h⟩
theorem over : Rows.batchEqualsRow.holds Try.pinned (OpenSpec.ofChange Rows.batchEqualsSpec) :=
 OpenClaim.holds_of_wide 11 Try.f11 rfl rfl rfl rfl rfl rfl rfl ⟨rfl, rfl, rfl, rfl, rfl⟩ rfl rfl rfl rfl rfl (by kernel_rfl) Try.func11 (by kernel_rfl)
  (of_decide_eq_true (by kernel_rfl)) (by unfold Func.isWrapper; first | (rw [if_pos (by decide +kernel)]; kernel_rfl) | (rw [if_neg (by decide +kernel)]; exact ⟨rfl, rfl⟩))
  (fun os started H enc _ => lifted os started H enc)
theorem proved : Rows.BatchEqualsSaid := over
end batchEquals
theorem batchEquals_holds : Rows.BatchEqualsSaid := batchEquals.proved
#print axioms batchEquals_holds
end Go.Proofs.Yteamldgngknmfaa
