/- DictGets: what its walk leans on; no condition. -/
import Derived.Test.YtclbmdblalgdjaaZNPutsW
import Derived.Test.YtclbmdblalgdjaaZNRefDict
import Derived.Test.YtclbmdblalgdjaaZNPlExact
import Derived.Test.YtclbmdblalgdjaaZNInjV
import Derived.Test.YtclbmdblalgdjaaZNLaw15B
namespace Go.Proofs.Ytclbmdblalgdjaa
open Go.RowKit Go.Proofs.YtclbmdblalgdjaaW.PrintWords Go.Proofs.YtclbmdblalgdjaaW.PrintLast Go.Proofs.YtclbmdblalgdjaaW.PrintMore
set_option linter.unusedVariables false
set_option linter.unusedSimpArgs false
theorem Calls.stepRPut {d : RDic} {s : ByteArray} {w W : World} {Q : Ending → World → Prop} {l : List Int} {code : Int} {ws' : List ByteArray} (he : dput d.ws s = (l, code, ws')) (hs : s.size ≤ 140737488350000) (HD : Aside0 (RDicAt d W)) (HF : Aside0 (∀ k, d.F k → w.heap.size ≤ k)) (HB : Aside0 (Below w.heap.size w W))
    (k : ∀ A c vd w', Aside0 (RDicAt ⟨d.g, vd, ws'⟩ w') → Aside0 (∀ k, (⟨d.g, vd, ws'⟩ : RDic).F k → w.heap.size ≤ k) → Aside0 (Chg d.F W w') → Aside0 (∀ k, (⟨d.g, vd, ws'⟩ : RDic).F k → d.F k ∨ W.heap.size ≤ k) → Aside0 ((Kd.int .u8).R 5 w' w.heap.size (fun _ => True) (.slice A l.length c) l) → Aside0 (Below w.heap.size w w') → Q (.returned (.tuple #[.slice A l.length c, .int .i64 code])) w') :
    Calls Try.prog 36 #[.pointer (some ⟨d.g, 0, none⟩), .string s] W Q := by
  refine (rput_calls d s W HD.out hs).mono ?_
  rintro e w' ⟨v, rfl, hR, vd, hd, hc, ho⟩
  rw [he] at hR hd ⊢
  obtain ⟨A, c, rfl, _⟩ := Kd.R_reads hR
  have hsz := below_size HB.out
  exact k A c vd w' ⟨hd⟩ ⟨RTurn.fresh hsz HF.out ho⟩ ⟨hc⟩ ⟨RTurn.next ho⟩ ⟨Kd.R_lower hR hsz⟩ ⟨HB.out.trans (hc.to_below HF.out hsz)⟩
structure DR (d : Dic) (r : RDic) (w W : World) : Prop where
  dic : DicAt d W
  ref : RDicAt r W
  df : ∀ k, d.F k → w.heap.size ≤ k
  rf : ∀ k, r.F k → w.heap.size ≤ k
  ap : ∀ k, r.F k → ¬ d.F k
/-! A Cur whose bytes lie elsewhere. -/
def Cu.re (A : Option Addr) (c : Nat) (s : Cu) : Cu := { s with A := A, c := c }
section
variable (A : Option Addr) (c : Nat)
theorem re_fine (s : Cu) : (s.re A c).fine = s.fine := rfl
theorem re_pos (s : Cu) : (s.re A c).pos = s.pos := rfl
theorem re_adv (s : Cu) (n : Nat) : (s.re A c).adv n = (s.adv n).re A c := rfl
theorem re_fail (s : Cu) (e a : Int) : (s.re A c).fail e a = (s.fail e a).re A c := by
  unfold Cu.fail
  rw [re_fine]
  split <;> rfl
end
theorem vread_b (s : Cu) : s.vread.2.b = s.b := by
  unfold Cu.vread
  split
  · rfl
  · split
    · rfl
    · split
      · exact fail_b _ _ _
      · exact fail_b _ _ _
section
variable {ok : Nat → Prop} {gc gp : Nat} {s s' s2 s2' : Cu} {d : Dic} {r : RDic} {w W W' : World}
end
end Go.Proofs.Ytclbmdblalgdjaa
