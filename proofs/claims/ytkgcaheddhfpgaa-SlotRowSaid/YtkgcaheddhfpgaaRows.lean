/-
  No cell of these rows narrows 'for every input' (looked for: loops, veiled, ifaces, maps, wideKeys, modest, calm, conditions, laid).
  DERIVED. THE GIVEN ROWS OF THIS SEAT. 8 by the template 'for every input the law returns true; each argument reads behind the call as it read before'; 0 by the template 'total and deterministic' (their statements: YtkgcaheddhfpgaaTotals.lean).
  GIVEN WITH THE SEED: the statements are not yours to turn. If you find one false, say at which input.
  Laid BY PROGRAM, IN A SANDBOX (cutbox-rows.mjs): the forced cells as the released guide's own fill.sh prints them over the translation 7da2130095ae7de5… (all of the seat's roots in one cut). By AI agents, Wed Nov 11 2026. No macro, syntax, notation, axiom, sorry.
-/
import Derived.Test.YtkgcaheddhfpgaaChecked
import GoSem.Claim
import GoSem.ClaimJoined
import GoSem.ClaimMapViews
import Derived.JoinedTies
import Derived.KernelRfl
namespace Go.Proofs.Ytkgcaheddhfpgaa
/- THE CELL 'sum', in the pinned program and in every row, IS THE sha256 OF THE DUMP (.gsa) THAT YtkgcaheddhfpgaaProg.lean LOADS. Nothing in Lean hashes anything: it is a label: what it is worth is what the hold of that sum in a sandbox is worth. -/
noncomputable def Try.pinned : Pinned := { name := "ytkgcaheddhfpgaa", sum := "7da2130095ae7de505e8d3b7b2140f0f9301c7f6cad378ce7609bcfee0ed2508", checked := Try.checked }
namespace Rows
def none {H : Type} : Left H := { results := [], args := [] }

/-- 'sextonlaw05.TwinBack': WHATEVER THE INPUT: true; the input reads as it did. -/
def twinBackSpec : ChangeSpec := { name := "twinBack", fn := fun _ => fun
  | [d1, d2, d3, d4] => { results := [.lit (.bool true)], args := [d1, d2, d3, d4] }
  | _ => none }
def twinBackRow : OpenClaim := { program := "ytkgcaheddhfpgaa", sum := "7da2130095ae7de505e8d3b7b2140f0f9301c7f6cad378ce7609bcfee0ed2508", func := "sexton/sextonlaw05.TwinBack", spec := "twinBack", unfollowed := true, recurses := true, apart := false }
def TwinBackSaid : Prop := twinBackRow.holds Try.pinned (OpenSpec.ofChange twinBackSpec)

/-- ITS FALSE NEIGHBOUR: 'it returns false'. Refute it at one input. -/
def twinBackWrong : ChangeSpec := { name := "twinBack", fn := fun _ => fun
  | [d1, d2, d3, d4] => { results := [.lit (.bool false)], args := [d1, d2, d3, d4] }
  | _ => none }
def TwinBackWrongFalsely : Prop := twinBackRow.holds Try.pinned (OpenSpec.ofChange twinBackWrong)

/-- 'sextonlaw05.TwinCrash': WHATEVER THE INPUT: true; the input reads as it did. -/
def twinCrashSpec : ChangeSpec := { name := "twinCrash", fn := fun _ => fun
  | [d1, d2, d3, d4, d5] => { results := [.lit (.bool true)], args := [d1, d2, d3, d4, d5] }
  | _ => none }
def twinCrashRow : OpenClaim := { program := "ytkgcaheddhfpgaa", sum := "7da2130095ae7de505e8d3b7b2140f0f9301c7f6cad378ce7609bcfee0ed2508", func := "sexton/sextonlaw05.TwinCrash", spec := "twinCrash", unfollowed := true, recurses := true, apart := false }
def TwinCrashSaid : Prop := twinCrashRow.holds Try.pinned (OpenSpec.ofChange twinCrashSpec)

/-- ITS FALSE NEIGHBOUR: 'it returns false'. Refute it at one input. -/
def twinCrashWrong : ChangeSpec := { name := "twinCrash", fn := fun _ => fun
  | [d1, d2, d3, d4, d5] => { results := [.lit (.bool false)], args := [d1, d2, d3, d4, d5] }
  | _ => none }
def TwinCrashWrongFalsely : Prop := twinCrashRow.holds Try.pinned (OpenSpec.ofChange twinCrashWrong)

/-- 'sextonlaw05.TwinRow': WHATEVER THE INPUT: true; the input reads as it did. -/
def twinRowSpec : ChangeSpec := { name := "twinRow", fn := fun _ => fun
  | [d1, d2, d3] => { results := [.lit (.bool true)], args := [d1, d2, d3] }
  | _ => none }
def twinRowRow : OpenClaim := { program := "ytkgcaheddhfpgaa", sum := "7da2130095ae7de505e8d3b7b2140f0f9301c7f6cad378ce7609bcfee0ed2508", func := "sexton/sextonlaw05.TwinRow", spec := "twinRow", unfollowed := true, recurses := true, apart := false }
def TwinRowSaid : Prop := twinRowRow.holds Try.pinned (OpenSpec.ofChange twinRowSpec)

/-- ITS FALSE NEIGHBOUR: 'it returns false'. Refute it at one input. -/
def twinRowWrong : ChangeSpec := { name := "twinRow", fn := fun _ => fun
  | [d1, d2, d3] => { results := [.lit (.bool false)], args := [d1, d2, d3] }
  | _ => none }
def TwinRowWrongFalsely : Prop := twinRowRow.holds Try.pinned (OpenSpec.ofChange twinRowWrong)

/-- 'sextonlaw05.TwinOthers': WHATEVER THE INPUT: true; the input reads as it did. -/
def twinOthersSpec : ChangeSpec := { name := "twinOthers", fn := fun _ => fun
  | [d1, d2, d3, d4, d5] => { results := [.lit (.bool true)], args := [d1, d2, d3, d4, d5] }
  | _ => none }
def twinOthersRow : OpenClaim := { program := "ytkgcaheddhfpgaa", sum := "7da2130095ae7de505e8d3b7b2140f0f9301c7f6cad378ce7609bcfee0ed2508", func := "sexton/sextonlaw05.TwinOthers", spec := "twinOthers", unfollowed := true, recurses := true, apart := false }
def TwinOthersSaid : Prop := twinOthersRow.holds Try.pinned (OpenSpec.ofChange twinOthersSpec)

/-- ITS FALSE NEIGHBOUR: 'it returns false'. Refute it at one input. -/
def twinOthersWrong : ChangeSpec := { name := "twinOthers", fn := fun _ => fun
  | [d1, d2, d3, d4, d5] => { results := [.lit (.bool false)], args := [d1, d2, d3, d4, d5] }
  | _ => none }
def TwinOthersWrongFalsely : Prop := twinOthersRow.holds Try.pinned (OpenSpec.ofChange twinOthersWrong)

/-- 'sextonlaw06.SlotBack': WHATEVER THE INPUT: true; the input reads as it did. -/
def slotBackSpec : ChangeSpec := { name := "slotBack", fn := fun _ => fun
  | [d1, d2] => { results := [.lit (.bool true)], args := [d1, d2] }
  | _ => none }
def slotBackRow : OpenClaim := { program := "ytkgcaheddhfpgaa", sum := "7da2130095ae7de505e8d3b7b2140f0f9301c7f6cad378ce7609bcfee0ed2508", func := "sexton/sextonlaw06.SlotBack", spec := "slotBack", inPlace := ["internal/abi.NoEscape"], unfollowed := true, recurses := true, apart := false }
def SlotBackSaid : Prop := slotBackRow.holds Try.pinned (OpenSpec.ofChange slotBackSpec)

/-- ITS FALSE NEIGHBOUR: 'it returns false'. Refute it at one input. -/
def slotBackWrong : ChangeSpec := { name := "slotBack", fn := fun _ => fun
  | [d1, d2] => { results := [.lit (.bool false)], args := [d1, d2] }
  | _ => none }
def SlotBackWrongFalsely : Prop := slotBackRow.holds Try.pinned (OpenSpec.ofChange slotBackWrong)

/-- 'sextonlaw06.SlotTwice': WHATEVER THE INPUT: true; the input reads as it did. -/
def slotTwiceSpec : ChangeSpec := { name := "slotTwice", fn := fun _ => fun
  | [d1, d2] => { results := [.lit (.bool true)], args := [d1, d2] }
  | _ => none }
def slotTwiceRow : OpenClaim := { program := "ytkgcaheddhfpgaa", sum := "7da2130095ae7de505e8d3b7b2140f0f9301c7f6cad378ce7609bcfee0ed2508", func := "sexton/sextonlaw06.SlotTwice", spec := "slotTwice", inPlace := ["internal/abi.NoEscape"], unfollowed := true, recurses := true, apart := false }
def SlotTwiceSaid : Prop := slotTwiceRow.holds Try.pinned (OpenSpec.ofChange slotTwiceSpec)

/-- ITS FALSE NEIGHBOUR: 'it returns false'. Refute it at one input. -/
def slotTwiceWrong : ChangeSpec := { name := "slotTwice", fn := fun _ => fun
  | [d1, d2] => { results := [.lit (.bool false)], args := [d1, d2] }
  | _ => none }
def SlotTwiceWrongFalsely : Prop := slotTwiceRow.holds Try.pinned (OpenSpec.ofChange slotTwiceWrong)

/-- 'sextonlaw06.SlotCrash': WHATEVER THE INPUT: true; the input reads as it did. -/
def slotCrashSpec : ChangeSpec := { name := "slotCrash", fn := fun _ => fun
  | [d1, d2, d3, d4] => { results := [.lit (.bool true)], args := [d1, d2, d3, d4] }
  | _ => none }
def slotCrashRow : OpenClaim := { program := "ytkgcaheddhfpgaa", sum := "7da2130095ae7de505e8d3b7b2140f0f9301c7f6cad378ce7609bcfee0ed2508", func := "sexton/sextonlaw06.SlotCrash", spec := "slotCrash", inPlace := ["internal/abi.NoEscape"], unfollowed := true, recurses := true, apart := false }
def SlotCrashSaid : Prop := slotCrashRow.holds Try.pinned (OpenSpec.ofChange slotCrashSpec)

/-- ITS FALSE NEIGHBOUR: 'it returns false'. Refute it at one input. -/
def slotCrashWrong : ChangeSpec := { name := "slotCrash", fn := fun _ => fun
  | [d1, d2, d3, d4] => { results := [.lit (.bool false)], args := [d1, d2, d3, d4] }
  | _ => none }
def SlotCrashWrongFalsely : Prop := slotCrashRow.holds Try.pinned (OpenSpec.ofChange slotCrashWrong)

/-- 'sextonlaw06.SlotRow': WHATEVER THE INPUT: true; the input reads as it did. -/
def slotRowSpec : ChangeSpec := { name := "slotRow", fn := fun _ => fun
  | [d1, d2] => { results := [.lit (.bool true)], args := [d1, d2] }
  | _ => none }
def slotRowRow : OpenClaim := { program := "ytkgcaheddhfpgaa", sum := "7da2130095ae7de505e8d3b7b2140f0f9301c7f6cad378ce7609bcfee0ed2508", func := "sexton/sextonlaw06.SlotRow", spec := "slotRow", inPlace := ["internal/abi.NoEscape"], unfollowed := true, recurses := true, apart := false }
def SlotRowSaid : Prop := slotRowRow.holds Try.pinned (OpenSpec.ofChange slotRowSpec)

/-- ITS FALSE NEIGHBOUR: 'it returns false'. Refute it at one input. -/
def slotRowWrong : ChangeSpec := { name := "slotRow", fn := fun _ => fun
  | [d1, d2] => { results := [.lit (.bool false)], args := [d1, d2] }
  | _ => none }
def SlotRowWrongFalsely : Prop := slotRowRow.holds Try.pinned (OpenSpec.ofChange slotRowWrong)

/- THE SECOND FORM. 'bulk': how many values and letters a reading holds, each counted each time it is reached (what is shared counts as often as it is met; a slice's spare places count too). A statement '..UptoSaid' is the law's where the arguments, and the package variables that the reading takes, are together of bulk at most 1048576: NARROWER than '..Said'. Prove '..Said' where nothing that the law and all that it calls make is longer than what came in: it says more and counts as full. Else prove '..UptoSaid'. A law counts once. -/
mutual
def uptoBulk {H : Type} : DataW H → Nat
  | .lit (.string bytes) => bytes.length + 1
  | .lit _ => 1
  | .nil => 1
  | .ptr d => uptoBulk d + 1
  | .slice elems spare => uptoBulkAll elems + uptoBulkAll spare + 1
  | .agg parts => uptoBulkAll parts + 1
  | .iface _ d => uptoBulk d + 1
  | .map entries => uptoBulkEntries entries + 1
  | .held _ => 1
def uptoBulkAll {H : Type} : List (DataW H) → Nat
  | [] => 0
  | d :: r => uptoBulk d + uptoBulkAll r
def uptoBulkEntries {H : Type} : List (Lit × DataW H) → Nat
  | [] => 0
  | x :: r => uptoBulkEntry x + uptoBulkEntries r
def uptoBulkEntry {H : Type} : Lit × DataW H → Nat
  | (.string bytes, d) => bytes.length + uptoBulk d + 1
  | (_, d) => uptoBulk d + 1
 end
def uptoSmall : (H : Type) → List (DataW H) → Bool := fun _ ds => decide (uptoBulkAll ds ≤ 1048576)
def OpenSpec.upto (s : _root_.Go.ChangeSpec) : _root_.Go.OpenSpec := { _root_.Go.OpenSpec.ofChange s with cond := some uptoSmall }

/-- 'sextonlaw05.TwinBack', WHERE WHAT IT READS IS OF BULK AT MOST 1048576: true; the input reads as it did. -/
def twinBackUptoRow : OpenClaim := { program := "ytkgcaheddhfpgaa", sum := "7da2130095ae7de505e8d3b7b2140f0f9301c7f6cad378ce7609bcfee0ed2508", func := "sexton/sextonlaw05.TwinBack", spec := "twinBack", unfollowed := true, recurses := true, apart := false, narrowed := true }
def TwinBackUptoSaid : Prop := twinBackUptoRow.holds Try.pinned (OpenSpec.upto twinBackSpec)

/-- 'sextonlaw05.TwinCrash', WHERE WHAT IT READS IS OF BULK AT MOST 1048576: true; the input reads as it did. -/
def twinCrashUptoRow : OpenClaim := { program := "ytkgcaheddhfpgaa", sum := "7da2130095ae7de505e8d3b7b2140f0f9301c7f6cad378ce7609bcfee0ed2508", func := "sexton/sextonlaw05.TwinCrash", spec := "twinCrash", unfollowed := true, recurses := true, apart := false, narrowed := true }
def TwinCrashUptoSaid : Prop := twinCrashUptoRow.holds Try.pinned (OpenSpec.upto twinCrashSpec)

/-- 'sextonlaw05.TwinRow', WHERE WHAT IT READS IS OF BULK AT MOST 1048576: true; the input reads as it did. -/
def twinRowUptoRow : OpenClaim := { program := "ytkgcaheddhfpgaa", sum := "7da2130095ae7de505e8d3b7b2140f0f9301c7f6cad378ce7609bcfee0ed2508", func := "sexton/sextonlaw05.TwinRow", spec := "twinRow", unfollowed := true, recurses := true, apart := false, narrowed := true }
def TwinRowUptoSaid : Prop := twinRowUptoRow.holds Try.pinned (OpenSpec.upto twinRowSpec)

/-- 'sextonlaw05.TwinOthers', WHERE WHAT IT READS IS OF BULK AT MOST 1048576: true; the input reads as it did. -/
def twinOthersUptoRow : OpenClaim := { program := "ytkgcaheddhfpgaa", sum := "7da2130095ae7de505e8d3b7b2140f0f9301c7f6cad378ce7609bcfee0ed2508", func := "sexton/sextonlaw05.TwinOthers", spec := "twinOthers", unfollowed := true, recurses := true, apart := false, narrowed := true }
def TwinOthersUptoSaid : Prop := twinOthersUptoRow.holds Try.pinned (OpenSpec.upto twinOthersSpec)

/-- 'sextonlaw06.SlotBack', WHERE WHAT IT READS IS OF BULK AT MOST 1048576: true; the input reads as it did. -/
def slotBackUptoRow : OpenClaim := { program := "ytkgcaheddhfpgaa", sum := "7da2130095ae7de505e8d3b7b2140f0f9301c7f6cad378ce7609bcfee0ed2508", func := "sexton/sextonlaw06.SlotBack", spec := "slotBack", inPlace := ["internal/abi.NoEscape"], unfollowed := true, recurses := true, apart := false, narrowed := true }
def SlotBackUptoSaid : Prop := slotBackUptoRow.holds Try.pinned (OpenSpec.upto slotBackSpec)

/-- 'sextonlaw06.SlotTwice', WHERE WHAT IT READS IS OF BULK AT MOST 1048576: true; the input reads as it did. -/
def slotTwiceUptoRow : OpenClaim := { program := "ytkgcaheddhfpgaa", sum := "7da2130095ae7de505e8d3b7b2140f0f9301c7f6cad378ce7609bcfee0ed2508", func := "sexton/sextonlaw06.SlotTwice", spec := "slotTwice", inPlace := ["internal/abi.NoEscape"], unfollowed := true, recurses := true, apart := false, narrowed := true }
def SlotTwiceUptoSaid : Prop := slotTwiceUptoRow.holds Try.pinned (OpenSpec.upto slotTwiceSpec)

/-- 'sextonlaw06.SlotCrash', WHERE WHAT IT READS IS OF BULK AT MOST 1048576: true; the input reads as it did. -/
def slotCrashUptoRow : OpenClaim := { program := "ytkgcaheddhfpgaa", sum := "7da2130095ae7de505e8d3b7b2140f0f9301c7f6cad378ce7609bcfee0ed2508", func := "sexton/sextonlaw06.SlotCrash", spec := "slotCrash", inPlace := ["internal/abi.NoEscape"], unfollowed := true, recurses := true, apart := false, narrowed := true }
def SlotCrashUptoSaid : Prop := slotCrashUptoRow.holds Try.pinned (OpenSpec.upto slotCrashSpec)

/-- 'sextonlaw06.SlotRow', WHERE WHAT IT READS IS OF BULK AT MOST 1048576: true; the input reads as it did. -/
def slotRowUptoRow : OpenClaim := { program := "ytkgcaheddhfpgaa", sum := "7da2130095ae7de505e8d3b7b2140f0f9301c7f6cad378ce7609bcfee0ed2508", func := "sexton/sextonlaw06.SlotRow", spec := "slotRow", inPlace := ["internal/abi.NoEscape"], unfollowed := true, recurses := true, apart := false, narrowed := true }
def SlotRowUptoSaid : Prop := slotRowUptoRow.holds Try.pinned (OpenSpec.upto slotRowSpec)

end Rows
end Go.Proofs.Ytkgcaheddhfpgaa
