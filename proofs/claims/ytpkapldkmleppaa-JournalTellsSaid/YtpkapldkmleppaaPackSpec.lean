import Derived.Test.YtpkapldkmleppaaBase
namespace Go.Proofs.Ytpkapldkmleppaa.Pl
open Go.RowKit Go.Proofs.YtpkapldkmleppaaW.PrintWords Go.Proofs.YtpkapldkmleppaaW.PrintMore

/-- what pack.Num answers -/
def numR (n : Nat) (size : Int) : ByteArray × Int := if 1 ≤ size ∧ size ≤ 8 ∧ n < 256 ^ size.toNat then (B (be n size.toNat), 0) else (B [], 1)
/-- what pack.Take answers -/
def takeR (l : List UInt8) (size : Int) : Int × ByteArray × Int :=
  if 1 ≤ size ∧ size ≤ 8 then (if l.length < size.toNat then (0, B [], 2) else ((val (l.take size.toNat) : Nat), B (l.drop size.toNat), 0)) else (0, B [], 1)
end Go.Proofs.Ytpkapldkmleppaa.Pl
