/-
  The walk and the plain statement of TreeEmpty, joined.
-/
import Derived.Test.YtoiohlmiofplcaaCn6cd
set_option linter.unusedVariables false
set_option linter.unusedSimpArgs false
/-
  The plain law of TreeEmpty: the walk answers true for every input.
-/
namespace Go.Proofs.Ytoiohlmiofplcaa.Pure
open Go.RowKit Go.Proofs.YtoiohlmiofplcaaW.PrintWords Go.Proofs.YtoiohlmiofplcaaW.PrintLast Go.Proofs.Ytoiohlmiofplcaa.P Go.Proofs.Ytoiohlmiofplcaa.Opens
theorem TreeEmpty (l0 : List S26) (a1_0 : ByteArray) (a1_1 : Int) (a1_2 : ByteArray) {ok : S26 → Prop} (_h0 : OkList ok l0) {okp : Prop} (_h1 : okp) : sextonlaw10_TreeEmpty.f l0 a1_0 a1_1 a1_2 = some true := rfl
end Go.Proofs.Ytoiohlmiofplcaa.Pure
