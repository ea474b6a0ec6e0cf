/-
  No cell of these rows narrows 'for every input' (looked for: loops, veiled, ifaces, maps, wideKeys, modest, calm, conditions, laid).
  DERIVED. THE GIVEN ROWS OF THIS SEAT. 10 by the template 'for every input the law returns true; each argument reads behind the call as it read before'; 0 by the template 'total and deterministic' (their statements: YtfejidinfcmfjaaTotals.lean).
  GIVEN WITH THE SEED: the statements are not yours to turn. If you find one false, say at which input.
  Laid BY PROGRAM, IN A SANDBOX (cutbox-rows.mjs): the forced cells as the released guide's own fill.sh prints them over the translation e5d081614ba3d8f8… (all of the seat's roots in one cut). By AI agents, Wed Nov 11 2026. No macro, syntax, notation, axiom, sorry.
-/
import Derived.Test.YtfejidinfcmfjaaChecked
import GoSem.Claim
import GoSem.ClaimJoined
import GoSem.ClaimMapViews
import Derived.JoinedTies
import Derived.KernelRfl
namespace Go.Proofs.Ytfejidinfcmfjaa
/- THE CELL 'sum', in the pinned program and in every row, IS THE sha256 OF THE DUMP (.gsa) THAT YtfejidinfcmfjaaProg.lean LOADS. Nothing in Lean hashes anything: it is a label: what it is worth is what the hold of that sum in a sandbox is worth. -/
noncomputable def Try.pinned : Pinned := { name := "ytfejidinfcmfjaa", sum := "e5d081614ba3d8f807c2a353ca0c9a4d5bb4d27c8b26c4a0a871672240274830", checked := Try.checked }
namespace Rows
def none {H : Type} : Left H := { results := [], args := [] }

/-- 'sextonlaw25.NetDoes': WHATEVER THE INPUT: true; the input reads as it did. -/
def netDoesSpec : ChangeSpec := { name := "netDoes", fn := fun _ => fun
  | [d1, d2, d3, d4, d5, d6] => { results := [.lit (.bool true)], args := [d1, d2, d3, d4, d5, d6] }
  | _ => none }
def netDoesRow : OpenClaim := { program := "ytfejidinfcmfjaa", sum := "e5d081614ba3d8f807c2a353ca0c9a4d5bb4d27c8b26c4a0a871672240274830", func := "sexton/sextonlaw25.NetDoes", spec := "netDoes", unfollowed := true, recurses := true, apart := false }
def NetDoesSaid : Prop := netDoesRow.holds Try.pinned (OpenSpec.ofChange netDoesSpec)

/-- ITS FALSE NEIGHBOUR: 'it returns false'. Refute it at one input. -/
def netDoesWrong : ChangeSpec := { name := "netDoes", fn := fun _ => fun
  | [d1, d2, d3, d4, d5, d6] => { results := [.lit (.bool false)], args := [d1, d2, d3, d4, d5, d6] }
  | _ => none }
def NetDoesWrongFalsely : Prop := netDoesRow.holds Try.pinned (OpenSpec.ofChange netDoesWrong)

/-- 'sextonlaw25.NetAll': WHATEVER THE INPUT: true; the input reads as it did. -/
def netAllSpec : ChangeSpec := { name := "netAll", fn := fun _ => fun
  | [d] => { results := [.lit (.bool true)], args := [d] }
  | _ => none }
def netAllRow : OpenClaim := { program := "ytfejidinfcmfjaa", sum := "e5d081614ba3d8f807c2a353ca0c9a4d5bb4d27c8b26c4a0a871672240274830", func := "sexton/sextonlaw25.NetAll", spec := "netAll", unfollowed := true, recurses := true, apart := false }
def NetAllSaid : Prop := netAllRow.holds Try.pinned (OpenSpec.ofChange netAllSpec)

/-- ITS FALSE NEIGHBOUR: 'it returns false'. Refute it at one input. -/
def netAllWrong : ChangeSpec := { name := "netAll", fn := fun _ => fun
  | [d] => { results := [.lit (.bool false)], args := [d] }
  | _ => none }
def NetAllWrongFalsely : Prop := netAllRow.holds Try.pinned (OpenSpec.ofChange netAllWrong)

/-- 'sextonlaw25.NetSplit': WHATEVER THE INPUT: true; the input reads as it did. -/
def netSplitSpec : ChangeSpec := { name := "netSplit", fn := fun _ => fun
  | [d1, d2, d3, d4] => { results := [.lit (.bool true)], args := [d1, d2, d3, d4] }
  | _ => none }
def netSplitRow : OpenClaim := { program := "ytfejidinfcmfjaa", sum := "e5d081614ba3d8f807c2a353ca0c9a4d5bb4d27c8b26c4a0a871672240274830", func := "sexton/sextonlaw25.NetSplit", spec := "netSplit", unfollowed := true, recurses := true, apart := false }
def NetSplitSaid : Prop := netSplitRow.holds Try.pinned (OpenSpec.ofChange netSplitSpec)

/-- ITS FALSE NEIGHBOUR: 'it returns false'. Refute it at one input. -/
def netSplitWrong : ChangeSpec := { name := "netSplit", fn := fun _ => fun
  | [d1, d2, d3, d4] => { results := [.lit (.bool false)], args := [d1, d2, d3, d4] }
  | _ => none }
def NetSplitWrongFalsely : Prop := netSplitRow.holds Try.pinned (OpenSpec.ofChange netSplitWrong)

/-- 'sextonlaw25.NetCopy': WHATEVER THE INPUT: true; the input reads as it did. -/
def netCopySpec : ChangeSpec := { name := "netCopy", fn := fun _ => fun
  | [d1, d2] => { results := [.lit (.bool true)], args := [d1, d2] }
  | _ => none }
def netCopyRow : OpenClaim := { program := "ytfejidinfcmfjaa", sum := "e5d081614ba3d8f807c2a353ca0c9a4d5bb4d27c8b26c4a0a871672240274830", func := "sexton/sextonlaw25.NetCopy", spec := "netCopy", unfollowed := true, recurses := true, apart := false }
def NetCopySaid : Prop := netCopyRow.holds Try.pinned (OpenSpec.ofChange netCopySpec)

/-- ITS FALSE NEIGHBOUR: 'it returns false'. Refute it at one input. -/
def netCopyWrong : ChangeSpec := { name := "netCopy", fn := fun _ => fun
  | [d1, d2] => { results := [.lit (.bool false)], args := [d1, d2] }
  | _ => none }
def NetCopyWrongFalsely : Prop := netCopyRow.holds Try.pinned (OpenSpec.ofChange netCopyWrong)

/-- 'sextonlaw25.NetParts': WHATEVER THE INPUT: true; the input reads as it did. -/
def netPartsSpec : ChangeSpec := { name := "netParts", fn := fun _ => fun
  | [d1, d2, d3, d4, d5] => { results := [.lit (.bool true)], args := [d1, d2, d3, d4, d5] }
  | _ => none }
def netPartsRow : OpenClaim := { program := "ytfejidinfcmfjaa", sum := "e5d081614ba3d8f807c2a353ca0c9a4d5bb4d27c8b26c4a0a871672240274830", func := "sexton/sextonlaw25.NetParts", spec := "netParts", unfollowed := true, recurses := true, apart := false }
def NetPartsSaid : Prop := netPartsRow.holds Try.pinned (OpenSpec.ofChange netPartsSpec)

/-- ITS FALSE NEIGHBOUR: 'it returns false'. Refute it at one input. -/
def netPartsWrong : ChangeSpec := { name := "netParts", fn := fun _ => fun
  | [d1, d2, d3, d4, d5] => { results := [.lit (.bool false)], args := [d1, d2, d3, d4, d5] }
  | _ => none }
def NetPartsWrongFalsely : Prop := netPartsRow.holds Try.pinned (OpenSpec.ofChange netPartsWrong)

/-- 'sextonlaw23.MsgBytes': WHATEVER THE INPUT: true; the input reads as it did. -/
def msgBytesSpec : ChangeSpec := { name := "msgBytes", fn := fun _ => fun
  | [d1, d2] => { results := [.lit (.bool true)], args := [d1, d2] }
  | _ => none }
def msgBytesRow : OpenClaim := { program := "ytfejidinfcmfjaa", sum := "e5d081614ba3d8f807c2a353ca0c9a4d5bb4d27c8b26c4a0a871672240274830", func := "sexton/sextonlaw23.MsgBytes", spec := "msgBytes", inPlace := ["internal/abi.NoEscape"], unfollowed := true, recurses := true, apart := false }
def MsgBytesSaid : Prop := msgBytesRow.holds Try.pinned (OpenSpec.ofChange msgBytesSpec)

/-- ITS FALSE NEIGHBOUR: 'it returns false'. Refute it at one input. -/
def msgBytesWrong : ChangeSpec := { name := "msgBytes", fn := fun _ => fun
  | [d1, d2] => { results := [.lit (.bool false)], args := [d1, d2] }
  | _ => none }
def MsgBytesWrongFalsely : Prop := msgBytesRow.holds Try.pinned (OpenSpec.ofChange msgBytesWrong)

/-- 'sextonlaw23.MsgMakes': WHATEVER THE INPUT: true; the input reads as it did. -/
def msgMakesSpec : ChangeSpec := { name := "msgMakes", fn := fun _ => fun
  | [d1, d2, d3, d4, d5, d6] => { results := [.lit (.bool true)], args := [d1, d2, d3, d4, d5, d6] }
  | _ => none }
def msgMakesRow : OpenClaim := { program := "ytfejidinfcmfjaa", sum := "e5d081614ba3d8f807c2a353ca0c9a4d5bb4d27c8b26c4a0a871672240274830", func := "sexton/sextonlaw23.MsgMakes", spec := "msgMakes", inPlace := ["internal/abi.NoEscape"], unfollowed := true, recurses := true, apart := false }
def MsgMakesSaid : Prop := msgMakesRow.holds Try.pinned (OpenSpec.ofChange msgMakesSpec)

/-- ITS FALSE NEIGHBOUR: 'it returns false'. Refute it at one input. -/
def msgMakesWrong : ChangeSpec := { name := "msgMakes", fn := fun _ => fun
  | [d1, d2, d3, d4, d5, d6] => { results := [.lit (.bool false)], args := [d1, d2, d3, d4, d5, d6] }
  | _ => none }
def MsgMakesWrongFalsely : Prop := msgMakesRow.holds Try.pinned (OpenSpec.ofChange msgMakesWrong)

/-- 'sextonlaw23.MsgBack': WHATEVER THE INPUT: true; the input reads as it did. -/
def msgBackSpec : ChangeSpec := { name := "msgBack", fn := fun _ => fun
  | [d1, d2] => { results := [.lit (.bool true)], args := [d1, d2] }
  | _ => none }
def msgBackRow : OpenClaim := { program := "ytfejidinfcmfjaa", sum := "e5d081614ba3d8f807c2a353ca0c9a4d5bb4d27c8b26c4a0a871672240274830", func := "sexton/sextonlaw23.MsgBack", spec := "msgBack", inPlace := ["internal/abi.NoEscape"], unfollowed := true, recurses := true, apart := false }
def MsgBackSaid : Prop := msgBackRow.holds Try.pinned (OpenSpec.ofChange msgBackSpec)

/-- ITS FALSE NEIGHBOUR: 'it returns false'. Refute it at one input. -/
def msgBackWrong : ChangeSpec := { name := "msgBack", fn := fun _ => fun
  | [d1, d2] => { results := [.lit (.bool false)], args := [d1, d2] }
  | _ => none }
def MsgBackWrongFalsely : Prop := msgBackRow.holds Try.pinned (OpenSpec.ofChange msgBackWrong)

/-- 'sextonlaw23.MsgVotes': WHATEVER THE INPUT: true; the input reads as it did. -/
def msgVotesSpec : ChangeSpec := { name := "msgVotes", fn := fun _ => fun
  | [d1, d2, d3] => { results := [.lit (.bool true)], args := [d1, d2, d3] }
  | _ => none }
def msgVotesRow : OpenClaim := { program := "ytfejidinfcmfjaa", sum := "e5d081614ba3d8f807c2a353ca0c9a4d5bb4d27c8b26c4a0a871672240274830", func := "sexton/sextonlaw23.MsgVotes", spec := "msgVotes", inPlace := ["internal/abi.NoEscape"], unfollowed := true, recurses := true, apart := false }
def MsgVotesSaid : Prop := msgVotesRow.holds Try.pinned (OpenSpec.ofChange msgVotesSpec)

/-- ITS FALSE NEIGHBOUR: 'it returns false'. Refute it at one input. -/
def msgVotesWrong : ChangeSpec := { name := "msgVotes", fn := fun _ => fun
  | [d1, d2, d3] => { results := [.lit (.bool false)], args := [d1, d2, d3] }
  | _ => none }
def MsgVotesWrongFalsely : Prop := msgVotesRow.holds Try.pinned (OpenSpec.ofChange msgVotesWrong)

/-- 'sextonlaw23.MsgApart': WHATEVER THE INPUT: true; the input reads as it did. -/
def msgApartSpec : ChangeSpec := { name := "msgApart", fn := fun _ => fun
  | [d1, d2] => { results := [.lit (.bool true)], args := [d1, d2] }
  | _ => none }
def msgApartRow : OpenClaim := { program := "ytfejidinfcmfjaa", sum := "e5d081614ba3d8f807c2a353ca0c9a4d5bb4d27c8b26c4a0a871672240274830", func := "sexton/sextonlaw23.MsgApart", spec := "msgApart", inPlace := ["internal/abi.NoEscape"], unfollowed := true, recurses := true, apart := false }
def MsgApartSaid : Prop := msgApartRow.holds Try.pinned (OpenSpec.ofChange msgApartSpec)

/-- ITS FALSE NEIGHBOUR: 'it returns false'. Refute it at one input. -/
def msgApartWrong : ChangeSpec := { name := "msgApart", fn := fun _ => fun
  | [d1, d2] => { results := [.lit (.bool false)], args := [d1, d2] }
  | _ => none }
def MsgApartWrongFalsely : Prop := msgApartRow.holds Try.pinned (OpenSpec.ofChange msgApartWrong)

/- THE SECOND FORM. 'bulk': how many values and letters a reading holds, each counted each time it is reached (what is shared counts as often as it is met; a slice's spare places count too). A statement '..UptoSaid' is the law's where the arguments, and the package variables that the reading takes, are together of bulk at most 1048576: NARROWER than '..Said'. Prove '..Said' where nothing that the law and all that it calls make is longer than what came in: it says more and counts as full. Else prove '..UptoSaid'. A law counts once. -/
mutual
def uptoBulk {H : Type} : DataW H → Nat
  | .lit (.string bytes) => bytes.length + 1
  | .lit _ => 1
  | .nil => 1
  | .ptr d => uptoBulk d + 1
  | .slice elems spare => uptoBulkAll elems + uptoBulkAll spare + 1
  | .agg parts => uptoBulkAll parts + 1
  | .iface _ d => uptoBulk d + 1
  | .map entries => uptoBulkEntries entries + 1
  | .held _ => 1
def uptoBulkAll {H : Type} : List (DataW H) → Nat
  | [] => 0
  | d :: r => uptoBulk d + uptoBulkAll r
def uptoBulkEntries {H : Type} : List (Lit × DataW H) → Nat
  | [] => 0
  | x :: r => uptoBulkEntry x + uptoBulkEntries r
def uptoBulkEntry {H : Type} : Lit × DataW H → Nat
  | (.string bytes, d) => bytes.length + uptoBulk d + 1
  | (_, d) => uptoBulk d + 1
 end
def uptoSmall : (H : Type) → List (DataW H) → Bool := fun _ ds => decide (uptoBulkAll ds ≤ 1048576)
def OpenSpec.upto (s : _root_.Go.ChangeSpec) : _root_.Go.OpenSpec := { _root_.Go.OpenSpec.ofChange s with cond := some uptoSmall }

/-- 'sextonlaw25.NetDoes', WHERE WHAT IT READS IS OF BULK AT MOST 1048576: true; the input reads as it did. -/
def netDoesUptoRow : OpenClaim := { program := "ytfejidinfcmfjaa", sum := "e5d081614ba3d8f807c2a353ca0c9a4d5bb4d27c8b26c4a0a871672240274830", func := "sexton/sextonlaw25.NetDoes", spec := "netDoes", unfollowed := true, recurses := true, apart := false, narrowed := true }
def NetDoesUptoSaid : Prop := netDoesUptoRow.holds Try.pinned (OpenSpec.upto netDoesSpec)

/-- 'sextonlaw25.NetAll', WHERE WHAT IT READS IS OF BULK AT MOST 1048576: true; the input reads as it did. -/
def netAllUptoRow : OpenClaim := { program := "ytfejidinfcmfjaa", sum := "e5d081614ba3d8f807c2a353ca0c9a4d5bb4d27c8b26c4a0a871672240274830", func := "sexton/sextonlaw25.NetAll", spec := "netAll", unfollowed := true, recurses := true, apart := false, narrowed := true }
def NetAllUptoSaid : Prop := netAllUptoRow.holds Try.pinned (OpenSpec.upto netAllSpec)

/-- 'sextonlaw25.NetSplit', WHERE WHAT IT READS IS OF BULK AT MOST 1048576: true; the input reads as it did. -/
def netSplitUptoRow : OpenClaim := { program := "ytfejidinfcmfjaa", sum := "e5d081614ba3d8f807c2a353ca0c9a4d5bb4d27c8b26c4a0a871672240274830", func := "sexton/sextonlaw25.NetSplit", spec := "netSplit", unfollowed := true, recurses := true, apart := false, narrowed := true }
def NetSplitUptoSaid : Prop := netSplitUptoRow.holds Try.pinned (OpenSpec.upto netSplitSpec)

/-- 'sextonlaw25.NetCopy', WHERE WHAT IT READS IS OF BULK AT MOST 1048576: true; the input reads as it did. -/
def netCopyUptoRow : OpenClaim := { program := "ytfejidinfcmfjaa", sum := "e5d081614ba3d8f807c2a353ca0c9a4d5bb4d27c8b26c4a0a871672240274830", func := "sexton/sextonlaw25.NetCopy", spec := "netCopy", unfollowed := true, recurses := true, apart := false, narrowed := true }
def NetCopyUptoSaid : Prop := netCopyUptoRow.holds Try.pinned (OpenSpec.upto netCopySpec)

/-- 'sextonlaw25.NetParts', WHERE WHAT IT READS IS OF BULK AT MOST 1048576: true; the input reads as it did. -/
def netPartsUptoRow : OpenClaim := { program := "ytfejidinfcmfjaa", sum := "e5d081614ba3d8f807c2a353ca0c9a4d5bb4d27c8b26c4a0a871672240274830", func := "sexton/sextonlaw25.NetParts", spec := "netParts", unfollowed := true, recurses := true, apart := false, narrowed := true }
def NetPartsUptoSaid : Prop := netPartsUptoRow.holds Try.pinned (OpenSpec.upto netPartsSpec)

/-- 'sextonlaw23.MsgBytes', WHERE WHAT IT READS IS OF BULK AT MOST 1048576: true; the input reads as it did. -/
def msgBytesUptoRow : OpenClaim := { program := "ytfejidinfcmfjaa", sum := "e5d081614ba3d8f807c2a353ca0c9a4d5bb4d27c8b26c4a0a871672240274830", func := "sexton/sextonlaw23.MsgBytes", spec := "msgBytes", inPlace := ["internal/abi.NoEscape"], unfollowed := true, recurses := true, apart := false, narrowed := true }
def MsgBytesUptoSaid : Prop := msgBytesUptoRow.holds Try.pinned (OpenSpec.upto msgBytesSpec)

/-- 'sextonlaw23.MsgMakes', WHERE WHAT IT READS IS OF BULK AT MOST 1048576: true; the input reads as it did. -/
def msgMakesUptoRow : OpenClaim := { program := "ytfejidinfcmfjaa", sum := "e5d081614ba3d8f807c2a353ca0c9a4d5bb4d27c8b26c4a0a871672240274830", func := "sexton/sextonlaw23.MsgMakes", spec := "msgMakes", inPlace := ["internal/abi.NoEscape"], unfollowed := true, recurses := true, apart := false, narrowed := true }
def MsgMakesUptoSaid : Prop := msgMakesUptoRow.holds Try.pinned (OpenSpec.upto msgMakesSpec)

/-- 'sextonlaw23.MsgBack', WHERE WHAT IT READS IS OF BULK AT MOST 1048576: true; the input reads as it did. -/
def msgBackUptoRow : OpenClaim := { program := "ytfejidinfcmfjaa", sum := "e5d081614ba3d8f807c2a353ca0c9a4d5bb4d27c8b26c4a0a871672240274830", func := "sexton/sextonlaw23.MsgBack", spec := "msgBack", inPlace := ["internal/abi.NoEscape"], unfollowed := true, recurses := true, apart := false, narrowed := true }
def MsgBackUptoSaid : Prop := msgBackUptoRow.holds Try.pinned (OpenSpec.upto msgBackSpec)

/-- 'sextonlaw23.MsgVotes', WHERE WHAT IT READS IS OF BULK AT MOST 1048576: true; the input reads as it did. -/
def msgVotesUptoRow : OpenClaim := { program := "ytfejidinfcmfjaa", sum := "e5d081614ba3d8f807c2a353ca0c9a4d5bb4d27c8b26c4a0a871672240274830", func := "sexton/sextonlaw23.MsgVotes", spec := "msgVotes", inPlace := ["internal/abi.NoEscape"], unfollowed := true, recurses := true, apart := false, narrowed := true }
def MsgVotesUptoSaid : Prop := msgVotesUptoRow.holds Try.pinned (OpenSpec.upto msgVotesSpec)

/-- 'sextonlaw23.MsgApart', WHERE WHAT IT READS IS OF BULK AT MOST 1048576: true; the input reads as it did. -/
def msgApartUptoRow : OpenClaim := { program := "ytfejidinfcmfjaa", sum := "e5d081614ba3d8f807c2a353ca0c9a4d5bb4d27c8b26c4a0a871672240274830", func := "sexton/sextonlaw23.MsgApart", spec := "msgApart", inPlace := ["internal/abi.NoEscape"], unfollowed := true, recurses := true, apart := false, narrowed := true }
def MsgApartUptoSaid : Prop := msgApartUptoRow.holds Try.pinned (OpenSpec.upto msgApartSpec)

end Rows
end Go.Proofs.Ytfejidinfcmfjaa
