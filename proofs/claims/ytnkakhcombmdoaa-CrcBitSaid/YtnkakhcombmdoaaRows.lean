/-
  No cell of these rows narrows 'for every input' (looked for: loops, veiled, ifaces, maps, wideKeys, modest, calm, conditions, laid).
  DERIVED. THE GIVEN ROWS OF THIS SEAT. 10 by the template 'for every input the law returns true; each argument reads behind the call as it read before'; 0 by the template 'total and deterministic' (their statements: YtnkakhcombmdoaaTotals.lean).
  GIVEN WITH THE SEED: the statements are not yours to turn. If you find one false, say at which input.
  Laid BY PROGRAM, IN A SANDBOX (cutbox-rows.mjs): the forced cells as the released guide's own fill.sh prints them over the translation d217347430cf57d5… (all of the seat's roots in one cut). By AI agents, Wed Nov 11 2026. No macro, syntax, notation, axiom, sorry.
-/
import Derived.Test.YtnkakhcombmdoaaChecked
import GoSem.Claim
import GoSem.ClaimJoined
import GoSem.ClaimMapViews
import Derived.JoinedTies
import Derived.KernelRfl
namespace Go.Proofs.Ytnkakhcombmdoaa
/- THE CELL 'sum', in the pinned program and in every row, IS THE sha256 OF THE DUMP (.gsa) THAT YtnkakhcombmdoaaProg.lean LOADS. Nothing in Lean hashes anything: it is a label: what it is worth is what the hold of that sum in a sandbox is worth. -/
noncomputable def Try.pinned : Pinned := { name := "ytnkakhcombmdoaa", sum := "d217347430cf57d55f38021e871006700f725ab423d9fa7f413f561896b0e0b6", checked := Try.checked }
namespace Rows
def none {H : Type} : Left H := { results := [], args := [] }

/-- 'sextonlaw01.CodecLays': WHATEVER THE INPUT: true; the input reads as it did. -/
def codecLaysSpec : ChangeSpec := { name := "codecLays", fn := fun _ => fun
  | [d1, d2, d3] => { results := [.lit (.bool true)], args := [d1, d2, d3] }
  | _ => none }
def codecLaysRow : OpenClaim := { program := "ytnkakhcombmdoaa", sum := "d217347430cf57d55f38021e871006700f725ab423d9fa7f413f561896b0e0b6", func := "sexton/sextonlaw01.CodecLays", spec := "codecLays", inPlace := ["internal/abi.NoEscape"], unfollowed := true, recurses := true, apart := false }
def CodecLaysSaid : Prop := codecLaysRow.holds Try.pinned (OpenSpec.ofChange codecLaysSpec)

/-- ITS FALSE NEIGHBOUR: 'it returns false'. Refute it at one input. -/
def codecLaysWrong : ChangeSpec := { name := "codecLays", fn := fun _ => fun
  | [d1, d2, d3] => { results := [.lit (.bool false)], args := [d1, d2, d3] }
  | _ => none }
def CodecLaysWrongFalsely : Prop := codecLaysRow.holds Try.pinned (OpenSpec.ofChange codecLaysWrong)

/-- 'sextonlaw01.CodecRises': WHATEVER THE INPUT: true; the input reads as it did. -/
def codecRisesSpec : ChangeSpec := { name := "codecRises", fn := fun _ => fun
  | [d1, d2] => { results := [.lit (.bool true)], args := [d1, d2] }
  | _ => none }
def codecRisesRow : OpenClaim := { program := "ytnkakhcombmdoaa", sum := "d217347430cf57d55f38021e871006700f725ab423d9fa7f413f561896b0e0b6", func := "sexton/sextonlaw01.CodecRises", spec := "codecRises", inPlace := ["internal/abi.NoEscape"], unfollowed := true, recurses := true, apart := false }
def CodecRisesSaid : Prop := codecRisesRow.holds Try.pinned (OpenSpec.ofChange codecRisesSpec)

/-- ITS FALSE NEIGHBOUR: 'it returns false'. Refute it at one input. -/
def codecRisesWrong : ChangeSpec := { name := "codecRises", fn := fun _ => fun
  | [d1, d2] => { results := [.lit (.bool false)], args := [d1, d2] }
  | _ => none }
def CodecRisesWrongFalsely : Prop := codecRisesRow.holds Try.pinned (OpenSpec.ofChange codecRisesWrong)

/-- 'sextonlaw03.CrcBit': WHATEVER THE INPUT: true; the input reads as it did. -/
def crcBitSpec : ChangeSpec := { name := "crcBit", fn := fun _ => fun
  | [d1, d2, d3] => { results := [.lit (.bool true)], args := [d1, d2, d3] }
  | _ => none }
def crcBitRow : OpenClaim := { program := "ytnkakhcombmdoaa", sum := "d217347430cf57d55f38021e871006700f725ab423d9fa7f413f561896b0e0b6", func := "sexton/sextonlaw03.CrcBit", spec := "crcBit", unfollowed := true, recurses := true, apart := false }
def CrcBitSaid : Prop := crcBitRow.holds Try.pinned (OpenSpec.ofChange crcBitSpec)

/-- ITS FALSE NEIGHBOUR: 'it returns false'. Refute it at one input. -/
def crcBitWrong : ChangeSpec := { name := "crcBit", fn := fun _ => fun
  | [d1, d2, d3] => { results := [.lit (.bool false)], args := [d1, d2, d3] }
  | _ => none }
def CrcBitWrongFalsely : Prop := crcBitRow.holds Try.pinned (OpenSpec.ofChange crcBitWrong)

/-- 'sextonlaw03.CrcSums': WHATEVER THE INPUT: true; the input reads as it did. -/
def crcSumsSpec : ChangeSpec := { name := "crcSums", fn := fun _ => fun
  | [d1, d2, d3] => { results := [.lit (.bool true)], args := [d1, d2, d3] }
  | _ => none }
def crcSumsRow : OpenClaim := { program := "ytnkakhcombmdoaa", sum := "d217347430cf57d55f38021e871006700f725ab423d9fa7f413f561896b0e0b6", func := "sexton/sextonlaw03.CrcSums", spec := "crcSums", unfollowed := true, recurses := true, apart := false }
def CrcSumsSaid : Prop := crcSumsRow.holds Try.pinned (OpenSpec.ofChange crcSumsSpec)

/-- ITS FALSE NEIGHBOUR: 'it returns false'. Refute it at one input. -/
def crcSumsWrong : ChangeSpec := { name := "crcSums", fn := fun _ => fun
  | [d1, d2, d3] => { results := [.lit (.bool false)], args := [d1, d2, d3] }
  | _ => none }
def CrcSumsWrongFalsely : Prop := crcSumsRow.holds Try.pinned (OpenSpec.ofChange crcSumsWrong)

/-- 'sextonlaw01.CodecReads': WHATEVER THE INPUT: true; the input reads as it did. -/
def codecReadsSpec : ChangeSpec := { name := "codecReads", fn := fun _ => fun
  | [d] => { results := [.lit (.bool true)], args := [d] }
  | _ => none }
def codecReadsRow : OpenClaim := { program := "ytnkakhcombmdoaa", sum := "d217347430cf57d55f38021e871006700f725ab423d9fa7f413f561896b0e0b6", func := "sexton/sextonlaw01.CodecReads", spec := "codecReads", inPlace := ["internal/abi.NoEscape"], unfollowed := true, recurses := true, apart := false }
def CodecReadsSaid : Prop := codecReadsRow.holds Try.pinned (OpenSpec.ofChange codecReadsSpec)

/-- ITS FALSE NEIGHBOUR: 'it returns false'. Refute it at one input. -/
def codecReadsWrong : ChangeSpec := { name := "codecReads", fn := fun _ => fun
  | [d] => { results := [.lit (.bool false)], args := [d] }
  | _ => none }
def CodecReadsWrongFalsely : Prop := codecReadsRow.holds Try.pinned (OpenSpec.ofChange codecReadsWrong)

/-- 'sextonlaw01.CodecBack': WHATEVER THE INPUT: true; the input reads as it did. -/
def codecBackSpec : ChangeSpec := { name := "codecBack", fn := fun _ => fun
  | [d1, d2, d3, d4] => { results := [.lit (.bool true)], args := [d1, d2, d3, d4] }
  | _ => none }
def codecBackRow : OpenClaim := { program := "ytnkakhcombmdoaa", sum := "d217347430cf57d55f38021e871006700f725ab423d9fa7f413f561896b0e0b6", func := "sexton/sextonlaw01.CodecBack", spec := "codecBack", inPlace := ["internal/abi.NoEscape"], unfollowed := true, recurses := true, apart := false }
def CodecBackSaid : Prop := codecBackRow.holds Try.pinned (OpenSpec.ofChange codecBackSpec)

/-- ITS FALSE NEIGHBOUR: 'it returns false'. Refute it at one input. -/
def codecBackWrong : ChangeSpec := { name := "codecBack", fn := fun _ => fun
  | [d1, d2, d3, d4] => { results := [.lit (.bool false)], args := [d1, d2, d3, d4] }
  | _ => none }
def CodecBackWrongFalsely : Prop := codecBackRow.holds Try.pinned (OpenSpec.ofChange codecBackWrong)

/-- 'sextonlaw01.CodecSame': WHATEVER THE INPUT: true; the input reads as it did. -/
def codecSameSpec : ChangeSpec := { name := "codecSame", fn := fun _ => fun
  | [d] => { results := [.lit (.bool true)], args := [d] }
  | _ => none }
def codecSameRow : OpenClaim := { program := "ytnkakhcombmdoaa", sum := "d217347430cf57d55f38021e871006700f725ab423d9fa7f413f561896b0e0b6", func := "sexton/sextonlaw01.CodecSame", spec := "codecSame", inPlace := ["internal/abi.NoEscape"], unfollowed := true, recurses := true, apart := false }
def CodecSameSaid : Prop := codecSameRow.holds Try.pinned (OpenSpec.ofChange codecSameSpec)

/-- ITS FALSE NEIGHBOUR: 'it returns false'. Refute it at one input. -/
def codecSameWrong : ChangeSpec := { name := "codecSame", fn := fun _ => fun
  | [d] => { results := [.lit (.bool false)], args := [d] }
  | _ => none }
def CodecSameWrongFalsely : Prop := codecSameRow.holds Try.pinned (OpenSpec.ofChange codecSameWrong)

/-- 'sextonlaw03.CrcGets': WHATEVER THE INPUT: true; the input reads as it did. -/
def crcGetsSpec : ChangeSpec := { name := "crcGets", fn := fun _ => fun
  | [d] => { results := [.lit (.bool true)], args := [d] }
  | _ => none }
def crcGetsRow : OpenClaim := { program := "ytnkakhcombmdoaa", sum := "d217347430cf57d55f38021e871006700f725ab423d9fa7f413f561896b0e0b6", func := "sexton/sextonlaw03.CrcGets", spec := "crcGets", unfollowed := true, recurses := true, apart := false }
def CrcGetsSaid : Prop := crcGetsRow.holds Try.pinned (OpenSpec.ofChange crcGetsSpec)

/-- ITS FALSE NEIGHBOUR: 'it returns false'. Refute it at one input. -/
def crcGetsWrong : ChangeSpec := { name := "crcGets", fn := fun _ => fun
  | [d] => { results := [.lit (.bool false)], args := [d] }
  | _ => none }
def CrcGetsWrongFalsely : Prop := crcGetsRow.holds Try.pinned (OpenSpec.ofChange crcGetsWrong)

/-- 'sextonlaw03.CrcBack': WHATEVER THE INPUT: true; the input reads as it did. -/
def crcBackSpec : ChangeSpec := { name := "crcBack", fn := fun _ => fun
  | [d1, d2] => { results := [.lit (.bool true)], args := [d1, d2] }
  | _ => none }
def crcBackRow : OpenClaim := { program := "ytnkakhcombmdoaa", sum := "d217347430cf57d55f38021e871006700f725ab423d9fa7f413f561896b0e0b6", func := "sexton/sextonlaw03.CrcBack", spec := "crcBack", unfollowed := true, recurses := true, apart := false }
def CrcBackSaid : Prop := crcBackRow.holds Try.pinned (OpenSpec.ofChange crcBackSpec)

/-- ITS FALSE NEIGHBOUR: 'it returns false'. Refute it at one input. -/
def crcBackWrong : ChangeSpec := { name := "crcBack", fn := fun _ => fun
  | [d1, d2] => { results := [.lit (.bool false)], args := [d1, d2] }
  | _ => none }
def CrcBackWrongFalsely : Prop := crcBackRow.holds Try.pinned (OpenSpec.ofChange crcBackWrong)

/-- 'sextonlaw03.CrcCut': WHATEVER THE INPUT: true; the input reads as it did. -/
def crcCutSpec : ChangeSpec := { name := "crcCut", fn := fun _ => fun
  | [d1, d2] => { results := [.lit (.bool true)], args := [d1, d2] }
  | _ => none }
def crcCutRow : OpenClaim := { program := "ytnkakhcombmdoaa", sum := "d217347430cf57d55f38021e871006700f725ab423d9fa7f413f561896b0e0b6", func := "sexton/sextonlaw03.CrcCut", spec := "crcCut", unfollowed := true, recurses := true, apart := false }
def CrcCutSaid : Prop := crcCutRow.holds Try.pinned (OpenSpec.ofChange crcCutSpec)

/-- ITS FALSE NEIGHBOUR: 'it returns false'. Refute it at one input. -/
def crcCutWrong : ChangeSpec := { name := "crcCut", fn := fun _ => fun
  | [d1, d2] => { results := [.lit (.bool false)], args := [d1, d2] }
  | _ => none }
def CrcCutWrongFalsely : Prop := crcCutRow.holds Try.pinned (OpenSpec.ofChange crcCutWrong)

/- THE SECOND FORM. 'bulk': how many values and letters a reading holds, each counted each time it is reached (what is shared counts as often as it is met; a slice's spare places count too). A statement '..UptoSaid' is the law's where the arguments, and the package variables that the reading takes, are together of bulk at most 1048576: NARROWER than '..Said'. Prove '..Said' where nothing that the law and all that it calls make is longer than what came in: it says more and counts as full. Else prove '..UptoSaid'. A law counts once. -/
mutual
def uptoBulk {H : Type} : DataW H → Nat
  | .lit (.string bytes) => bytes.length + 1
  | .lit _ => 1
  | .nil => 1
  | .ptr d => uptoBulk d + 1
  | .slice elems spare => uptoBulkAll elems + uptoBulkAll spare + 1
  | .agg parts => uptoBulkAll parts + 1
  | .iface _ d => uptoBulk d + 1
  | .map entries => uptoBulkEntries entries + 1
  | .held _ => 1
def uptoBulkAll {H : Type} : List (DataW H) → Nat
  | [] => 0
  | d :: r => uptoBulk d + uptoBulkAll r
def uptoBulkEntries {H : Type} : List (Lit × DataW H) → Nat
  | [] => 0
  | x :: r => uptoBulkEntry x + uptoBulkEntries r
def uptoBulkEntry {H : Type} : Lit × DataW H → Nat
  | (.string bytes, d) => bytes.length + uptoBulk d + 1
  | (_, d) => uptoBulk d + 1
 end
def uptoSmall : (H : Type) → List (DataW H) → Bool := fun _ ds => decide (uptoBulkAll ds ≤ 1048576)
def OpenSpec.upto (s : _root_.Go.ChangeSpec) : _root_.Go.OpenSpec := { _root_.Go.OpenSpec.ofChange s with cond := some uptoSmall }

/-- 'sextonlaw01.CodecLays', WHERE WHAT IT READS IS OF BULK AT MOST 1048576: true; the input reads as it did. -/
def codecLaysUptoRow : OpenClaim := { program := "ytnkakhcombmdoaa", sum := "d217347430cf57d55f38021e871006700f725ab423d9fa7f413f561896b0e0b6", func := "sexton/sextonlaw01.CodecLays", spec := "codecLays", inPlace := ["internal/abi.NoEscape"], unfollowed := true, recurses := true, apart := false, narrowed := true }
def CodecLaysUptoSaid : Prop := codecLaysUptoRow.holds Try.pinned (OpenSpec.upto codecLaysSpec)

/-- 'sextonlaw01.CodecRises', WHERE WHAT IT READS IS OF BULK AT MOST 1048576: true; the input reads as it did. -/
def codecRisesUptoRow : OpenClaim := { program := "ytnkakhcombmdoaa", sum := "d217347430cf57d55f38021e871006700f725ab423d9fa7f413f561896b0e0b6", func := "sexton/sextonlaw01.CodecRises", spec := "codecRises", inPlace := ["internal/abi.NoEscape"], unfollowed := true, recurses := true, apart := false, narrowed := true }
def CodecRisesUptoSaid : Prop := codecRisesUptoRow.holds Try.pinned (OpenSpec.upto codecRisesSpec)

/-- 'sextonlaw03.CrcBit', WHERE WHAT IT READS IS OF BULK AT MOST 1048576: true; the input reads as it did. -/
def crcBitUptoRow : OpenClaim := { program := "ytnkakhcombmdoaa", sum := "d217347430cf57d55f38021e871006700f725ab423d9fa7f413f561896b0e0b6", func := "sexton/sextonlaw03.CrcBit", spec := "crcBit", unfollowed := true, recurses := true, apart := false, narrowed := true }
def CrcBitUptoSaid : Prop := crcBitUptoRow.holds Try.pinned (OpenSpec.upto crcBitSpec)

/-- 'sextonlaw03.CrcSums', WHERE WHAT IT READS IS OF BULK AT MOST 1048576: true; the input reads as it did. -/
def crcSumsUptoRow : OpenClaim := { program := "ytnkakhcombmdoaa", sum := "d217347430cf57d55f38021e871006700f725ab423d9fa7f413f561896b0e0b6", func := "sexton/sextonlaw03.CrcSums", spec := "crcSums", unfollowed := true, recurses := true, apart := false, narrowed := true }
def CrcSumsUptoSaid : Prop := crcSumsUptoRow.holds Try.pinned (OpenSpec.upto crcSumsSpec)

/-- 'sextonlaw01.CodecReads', WHERE WHAT IT READS IS OF BULK AT MOST 1048576: true; the input reads as it did. -/
def codecReadsUptoRow : OpenClaim := { program := "ytnkakhcombmdoaa", sum := "d217347430cf57d55f38021e871006700f725ab423d9fa7f413f561896b0e0b6", func := "sexton/sextonlaw01.CodecReads", spec := "codecReads", inPlace := ["internal/abi.NoEscape"], unfollowed := true, recurses := true, apart := false, narrowed := true }
def CodecReadsUptoSaid : Prop := codecReadsUptoRow.holds Try.pinned (OpenSpec.upto codecReadsSpec)

/-- 'sextonlaw01.CodecBack', WHERE WHAT IT READS IS OF BULK AT MOST 1048576: true; the input reads as it did. -/
def codecBackUptoRow : OpenClaim := { program := "ytnkakhcombmdoaa", sum := "d217347430cf57d55f38021e871006700f725ab423d9fa7f413f561896b0e0b6", func := "sexton/sextonlaw01.CodecBack", spec := "codecBack", inPlace := ["internal/abi.NoEscape"], unfollowed := true, recurses := true, apart := false, narrowed := true }
def CodecBackUptoSaid : Prop := codecBackUptoRow.holds Try.pinned (OpenSpec.upto codecBackSpec)

/-- 'sextonlaw01.CodecSame', WHERE WHAT IT READS IS OF BULK AT MOST 1048576: true; the input reads as it did. -/
def codecSameUptoRow : OpenClaim := { program := "ytnkakhcombmdoaa", sum := "d217347430cf57d55f38021e871006700f725ab423d9fa7f413f561896b0e0b6", func := "sexton/sextonlaw01.CodecSame", spec := "codecSame", inPlace := ["internal/abi.NoEscape"], unfollowed := true, recurses := true, apart := false, narrowed := true }
def CodecSameUptoSaid : Prop := codecSameUptoRow.holds Try.pinned (OpenSpec.upto codecSameSpec)

/-- 'sextonlaw03.CrcGets', WHERE WHAT IT READS IS OF BULK AT MOST 1048576: true; the input reads as it did. -/
def crcGetsUptoRow : OpenClaim := { program := "ytnkakhcombmdoaa", sum := "d217347430cf57d55f38021e871006700f725ab423d9fa7f413f561896b0e0b6", func := "sexton/sextonlaw03.CrcGets", spec := "crcGets", unfollowed := true, recurses := true, apart := false, narrowed := true }
def CrcGetsUptoSaid : Prop := crcGetsUptoRow.holds Try.pinned (OpenSpec.upto crcGetsSpec)

/-- 'sextonlaw03.CrcBack', WHERE WHAT IT READS IS OF BULK AT MOST 1048576: true; the input reads as it did. -/
def crcBackUptoRow : OpenClaim := { program := "ytnkakhcombmdoaa", sum := "d217347430cf57d55f38021e871006700f725ab423d9fa7f413f561896b0e0b6", func := "sexton/sextonlaw03.CrcBack", spec := "crcBack", unfollowed := true, recurses := true, apart := false, narrowed := true }
def CrcBackUptoSaid : Prop := crcBackUptoRow.holds Try.pinned (OpenSpec.upto crcBackSpec)

/-- 'sextonlaw03.CrcCut', WHERE WHAT IT READS IS OF BULK AT MOST 1048576: true; the input reads as it did. -/
def crcCutUptoRow : OpenClaim := { program := "ytnkakhcombmdoaa", sum := "d217347430cf57d55f38021e871006700f725ab423d9fa7f413f561896b0e0b6", func := "sexton/sextonlaw03.CrcCut", spec := "crcCut", unfollowed := true, recurses := true, apart := false, narrowed := true }
def CrcCutUptoSaid : Prop := crcCutUptoRow.holds Try.pinned (OpenSpec.upto crcCutSpec)

end Rows
end Go.Proofs.Ytnkakhcombmdoaa
