-- Written by a program of this session (xprint.py) over the kit's print.py.
import Derived.Test.YtnkakhcombmdoaaProg
import Derived.Below
import Derived.Deep.Draws
import Derived.Deep.AppendLies
import Derived.Maps.AppendAt
import Derived.OwnWalk
import Derived.Laws.BytesArg
import Derived.Laws.MakeOwn
import Derived.Laws.OwnMore
import Derived.Deep.OwnRows
import Derived.Tactics
import Derived.Lib.ConvBytes
import Derived.Laws.Slices
import Derived.WalkKit
import Derived.KernelRfl
import Derived.RowKit3
import Derived.Deep.LoopGhost
import Derived.Deep.QuietTactic
import Derived.BigQuiet
import Derived.WideLaws
import Derived.Deep.DeepCutAuto
import Derived.Deep.CutBlock
import Derived.Deep.RegionHeld3
import Derived.Laws.Rows
import Derived.Lib.AppendStr
import Derived.ArgAppend
import Derived.Laws.IdiomCopy
import Derived.OrdersHeld
import Derived.Laws.BitsLemmas
import Derived.RowKit
import Derived.Test.YtnkakhcombmdoaaWWords
import Derived.Test.YtnkakhcombmdoaaWLast
import Derived.Test.YtnkakhcombmdoaaWTab
import Derived.Test.YtnkakhcombmdoaaWFour
import Derived.Test.YtnkakhcombmdoaaWQPut
import Derived.Test.YtnkakhcombmdoaaWApart
import Derived.Test.YtnkakhcombmdoaaWArr
import Derived.Test.YtnkakhcombmdoaaWZeros
import Derived.Test.YtnkakhcombmdoaaWFoot
import Derived.Test.YtnkakhcombmdoaaWKept
import Derived.Test.YtnkakhcombmdoaaWShare
import Derived.Test.YtnkakhcombmdoaaWN
import Derived.Test.YtnkakhcombmdoaaWFootNe
import Derived.Test.YtnkakhcombmdoaaWAt
import Derived.Test.YtnkakhcombmdoaaWEqStruct
import Derived.Test.YtnkakhcombmdoaaWRepsOne
import Derived.Test.YtnkakhcombmdoaaWInv
import Derived.Test.YtnkakhcombmdoaaWInvWords
import Derived.Test.YtnkakhcombmdoaaWGuard
import Derived.Test.YtnkakhcombmdoaaWNEv
import Derived.Test.YtnkakhcombmdoaaWMore
namespace Go.Proofs.Ytnkakhcombmdoaa.P
open Go.RowKit Go.Proofs.YtnkakhcombmdoaaW.PrintWords Go.Proofs.YtnkakhcombmdoaaW.PrintLast Go.Proofs.YtnkakhcombmdoaaW.PrintMore
attribute [local go_sem] max2_int min2_int max_two min_two max_three min_three max_four min_four   -- for this text's walks alone
set_option linter.unusedVariables false
set_option linter.unusedSimpArgs false



def errW : Option Int → Value
  | none => .nilIface
  | some c => .iface 0 (.int .i64 c)
theorem errW_none : errW none = .nilIface := rfl
theorem errW_some (c : Int) : errW (some c) = .iface 0 (.int .i64 c) := rfl

theorem info5 : (Try.prog.info? 5).map (fun i => (i.zero, i.size, i.bytes)) = some (some (.int .u8 0), 1, 1) := by kernel_rfl
theorem info9 : (Try.prog.info? 9).map (fun i => (i.zero, i.size, i.bytes)) = some (some (.string ⟨#[]⟩), 1, 16) := by kernel_rfl
-- the values' own types

end Go.Proofs.Ytnkakhcombmdoaa.P
