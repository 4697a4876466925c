/- Digits of a number: how many, their order, their value; plain; no condition. -/
import Derived.Test.YteamldgngknmfaaZJLawArr
namespace Go.Proofs.Yteamldgngknmfaa
open Go.Op
def dg (n : Nat) : List UInt8 := if h : n < 10 then [UInt8.ofNat (48 + n)] else dg (n / 10) ++ [UInt8.ofNat (48 + n % 10)]
termination_by n
decreasing_by omega
def dval (l : List UInt8) : Nat := l.foldl (fun a x => 10 * a + (x.toNat - 48)) 0
end Go.Proofs.Yteamldgngknmfaa
