/-
  The walk and the plain statement of TreeFrom, joined.
-/
import Derived.Test.YtoiohlmiofplcaaCn6ce
import Derived.Test.YtoiohlmiofplcaaCn6cd
set_option linter.unusedVariables false
set_option linter.unusedSimpArgs false
/-
  The plain law of TreeFrom: the walk answers true for every input.
-/
namespace Go.Proofs.Ytoiohlmiofplcaa.Pure
open Go.RowKit Go.Proofs.YtoiohlmiofplcaaW.PrintWords Go.Proofs.YtoiohlmiofplcaaW.PrintLast Go.Proofs.Ytoiohlmiofplcaa.P Go.Proofs.Ytoiohlmiofplcaa.Opens
theorem TreeFrom (l0 : List S51) (a1_0 : ByteArray) (a1_1 : Int) (a2 a3 : Int) {ok : S51 → Prop} (_h0 : OkList ok l0) {okp : Prop} (_h1 : okp) {okq : Prop} (_h2 : okq) {okr : Prop} (_h3 : okr) : sextonlaw10_TreeFrom.f l0 a1_0 a1_1 a2 a3 = some true := rfl
end Go.Proofs.Ytoiohlmiofplcaa.Pure
