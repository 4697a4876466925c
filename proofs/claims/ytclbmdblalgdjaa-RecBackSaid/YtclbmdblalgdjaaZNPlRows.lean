/- Plain laws of rows of numbers as bytes, read one by one; no program in sight; no condition. -/
import Derived.Test.YtclbmdblalgdjaaZNPlVarB
import Derived.Test.YtclbmdblalgdjaaZNCurNil
namespace Go.Proofs.Ytclbmdblalgdjaa
open Go.RowKit Go.Proofs.YtclbmdblalgdjaaW.PrintWords
theorem vread_put {A : Option Addr} {c p x : Nat} {b rest : List Int} (hd : b.drop p = vput x ++ rest) (hx : x < 18446744073709551616) :
    (Cu.mk A c b p 0 0 false).vread = (x, ⟨A, c, b, p + (vput x).length, 0, 0, false⟩) := by
  have hf : (Cu.mk A c b p 0 0 false).fine = true := rfl
  unfold Cu.vread
  rw [if_neg (by rw [hf]; simp)]
  simp only
  rw [hd, vrd_put rest x 0 0 (by simpa using hx) (by omega) (by omega), if_pos rfl]
  simp [Cu.adv]
def rowB (l : List Int) : List Int := l.flatMap fun x => vput x.toNat
end Go.Proofs.Ytclbmdblalgdjaa
