import Derived.Test.YthcohkgpbjcliaaBase
namespace Go.Proofs.Ythcohkgpbjcliaa.Pl
open Go.RowKit Go.Proofs.YthcohkgpbjcliaaW.PrintWords Go.Proofs.YthcohkgpbjcliaaW.PrintMore
def numR (n : Nat) (size : Int) : ByteArray × Int := if 1 ≤ size ∧ size ≤ 8 ∧ n < 256 ^ size.toNat then (B (be n size.toNat), 0) else (B [], 1)
def takeR (l : List UInt8) (size : Int) : Int × ByteArray × Int :=
  if 1 ≤ size ∧ size ≤ 8 then (if l.length < size.toNat then (0, B [], 2) else ((val (l.take size.toNat) : Nat), B (l.drop size.toNat), 0)) else (0, B [], 1)
end Go.Proofs.Ythcohkgpbjcliaa.Pl
