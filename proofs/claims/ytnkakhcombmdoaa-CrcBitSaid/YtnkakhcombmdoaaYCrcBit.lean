/-
  The plain statement of CrcBit: one bit that is another one is seen in the sum; so are two texts' sums that go on by the same byte.
-/
import Derived.Test.YtnkakhcombmdoaaHCrcBit
import Derived.Test.YtnkakhcombmdoaaMOpens
namespace Go.Proofs.Ytnkakhcombmdoaa.Pure
open Go.RowKit Go.Proofs.YtnkakhcombmdoaaW.PrintWords Go.Proofs.Ytnkakhcombmdoaa.P Go.Proofs.Ytnkakhcombmdoaa.Opens
theorem CrcBit (a0 : ByteArray) (a1 : Int) (a2 : Int) (h0 : OkStr a0) (h1 : OkInt .i64 a1) (h2 : OkInt .i64 a2) :
    sextonlaw03_CrcBit.f a0 a1 a2 = some true := rfl
end Go.Proofs.Ytnkakhcombmdoaa.Pure
