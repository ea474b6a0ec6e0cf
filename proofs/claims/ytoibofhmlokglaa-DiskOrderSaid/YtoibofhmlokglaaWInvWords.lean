-- PRINTED BY print.sh 35421559b90ae4d0a3588c463048766b98c2df88dd9212a6774a882060cdf62d: not written by this session
import Derived.Test.YtoibofhmlokglaaWInv
import Derived.Test.YtoibofhmlokglaaWFootNe
namespace Go.Proofs.YtoibofhmlokglaaW.PrintWords
open Go.RowKit
end Go.Proofs.YtoibofhmlokglaaW.PrintWords
namespace Go.Proofs.YtoibofhmlokglaaW.PrintLast
section
variable {ops : Array Oper} {a : Act} {o og : Oper} {g : Nat} {t : Tmp} {u : Bool}
end
end Go.Proofs.YtoibofhmlokglaaW.PrintLast
