/-
  No cell of these rows narrows 'for every input' (looked for: loops, veiled, ifaces, maps, wideKeys, modest, calm, conditions, laid).
  DERIVED. THE GIVEN ROWS OF THIS SEAT. 9 by the template 'for every input the law returns true; each argument reads behind the call as it read before'; 0 by the template 'total and deterministic' (their statements: YtfdpebipnapelaaTotals.lean).
  GIVEN WITH THE SEED: the statements are not yours to turn. If you find one false, say at which input.
  Laid BY PROGRAM, IN A SANDBOX (cutbox-rows.mjs): the forced cells as the released guide's own fill.sh prints them over the translation 493921ee7ef36649… (all of the seat's roots in one cut). By AI agents, Wed Nov 11 2026. No macro, syntax, notation, axiom, sorry.
-/
import Derived.Test.YtfdpebipnapelaaChecked
import GoSem.Claim
import GoSem.ClaimJoined
import GoSem.ClaimMapViews
import Derived.JoinedTies
import Derived.KernelRfl
namespace Go.Proofs.Ytfdpebipnapelaa
/- THE CELL 'sum', in the pinned program and in every row, IS THE sha256 OF THE DUMP (.gsa) THAT YtfdpebipnapelaaProg.lean LOADS. Nothing in Lean hashes anything: it is a label: what it is worth is what the hold of that sum in a sandbox is worth. -/
noncomputable def Try.pinned : Pinned := { name := "ytfdpebipnapelaa", sum := "493921ee7ef3664937f7159eff4d68f88e88cbea7ea87b8d8f170d53eb1d2242", checked := Try.checked }
namespace Rows
def none {H : Type} : Left H := { results := [], args := [] }

/-- 'sextonlaw12.MetaDoes': WHATEVER THE INPUT: true; the input reads as it did. -/
def metaDoesSpec : ChangeSpec := { name := "metaDoes", fn := fun _ => fun
  | [d1, d2, d3] => { results := [.lit (.bool true)], args := [d1, d2, d3] }
  | _ => none }
def metaDoesRow : OpenClaim := { program := "ytfdpebipnapelaa", sum := "493921ee7ef3664937f7159eff4d68f88e88cbea7ea87b8d8f170d53eb1d2242", func := "sexton/sextonlaw12.MetaDoes", spec := "metaDoes", inPlace := ["internal/abi.NoEscape"], unfollowed := true, recurses := true, apart := false }
def MetaDoesSaid : Prop := metaDoesRow.holds Try.pinned (OpenSpec.ofChange metaDoesSpec)

/-- ITS FALSE NEIGHBOUR: 'it returns false'. Refute it at one input. -/
def metaDoesWrong : ChangeSpec := { name := "metaDoes", fn := fun _ => fun
  | [d1, d2, d3] => { results := [.lit (.bool false)], args := [d1, d2, d3] }
  | _ => none }
def MetaDoesWrongFalsely : Prop := metaDoesRow.holds Try.pinned (OpenSpec.ofChange metaDoesWrong)

/-- 'sextonlaw12.MetaBack': WHATEVER THE INPUT: true; the input reads as it did. -/
def metaBackSpec : ChangeSpec := { name := "metaBack", fn := fun _ => fun
  | [d1, d2, d3] => { results := [.lit (.bool true)], args := [d1, d2, d3] }
  | _ => none }
def metaBackRow : OpenClaim := { program := "ytfdpebipnapelaa", sum := "493921ee7ef3664937f7159eff4d68f88e88cbea7ea87b8d8f170d53eb1d2242", func := "sexton/sextonlaw12.MetaBack", spec := "metaBack", inPlace := ["internal/abi.NoEscape"], unfollowed := true, recurses := true, apart := false }
def MetaBackSaid : Prop := metaBackRow.holds Try.pinned (OpenSpec.ofChange metaBackSpec)

/-- ITS FALSE NEIGHBOUR: 'it returns false'. Refute it at one input. -/
def metaBackWrong : ChangeSpec := { name := "metaBack", fn := fun _ => fun
  | [d1, d2, d3] => { results := [.lit (.bool false)], args := [d1, d2, d3] }
  | _ => none }
def MetaBackWrongFalsely : Prop := metaBackRow.holds Try.pinned (OpenSpec.ofChange metaBackWrong)

/-- 'sextonlaw12.MetaFront': WHATEVER THE INPUT: true; the input reads as it did. -/
def metaFrontSpec : ChangeSpec := { name := "metaFront", fn := fun _ => fun
  | [d1, d2, d3, d4] => { results := [.lit (.bool true)], args := [d1, d2, d3, d4] }
  | _ => none }
def metaFrontRow : OpenClaim := { program := "ytfdpebipnapelaa", sum := "493921ee7ef3664937f7159eff4d68f88e88cbea7ea87b8d8f170d53eb1d2242", func := "sexton/sextonlaw12.MetaFront", spec := "metaFront", inPlace := ["internal/abi.NoEscape"], unfollowed := true, recurses := true, apart := false }
def MetaFrontSaid : Prop := metaFrontRow.holds Try.pinned (OpenSpec.ofChange metaFrontSpec)

/-- ITS FALSE NEIGHBOUR: 'it returns false'. Refute it at one input. -/
def metaFrontWrong : ChangeSpec := { name := "metaFront", fn := fun _ => fun
  | [d1, d2, d3, d4] => { results := [.lit (.bool false)], args := [d1, d2, d3, d4] }
  | _ => none }
def MetaFrontWrongFalsely : Prop := metaFrontRow.holds Try.pinned (OpenSpec.ofChange metaFrontWrong)

/-- 'sextonlaw12.MetaGone': WHATEVER THE INPUT: true; the input reads as it did. -/
def metaGoneSpec : ChangeSpec := { name := "metaGone", fn := fun _ => fun
  | [d1, d2] => { results := [.lit (.bool true)], args := [d1, d2] }
  | _ => none }
def metaGoneRow : OpenClaim := { program := "ytfdpebipnapelaa", sum := "493921ee7ef3664937f7159eff4d68f88e88cbea7ea87b8d8f170d53eb1d2242", func := "sexton/sextonlaw12.MetaGone", spec := "metaGone", inPlace := ["internal/abi.NoEscape"], unfollowed := true, recurses := true, apart := false }
def MetaGoneSaid : Prop := metaGoneRow.holds Try.pinned (OpenSpec.ofChange metaGoneSpec)

/-- ITS FALSE NEIGHBOUR: 'it returns false'. Refute it at one input. -/
def metaGoneWrong : ChangeSpec := { name := "metaGone", fn := fun _ => fun
  | [d1, d2] => { results := [.lit (.bool false)], args := [d1, d2] }
  | _ => none }
def MetaGoneWrongFalsely : Prop := metaGoneRow.holds Try.pinned (OpenSpec.ofChange metaGoneWrong)

/-- 'sextonlaw13.ChainDoes': WHATEVER THE INPUT: true; the input reads as it did. -/
def chainDoesSpec : ChangeSpec := { name := "chainDoes", fn := fun _ => fun
  | [d1, d2, d3, d4, d5] => { results := [.lit (.bool true)], args := [d1, d2, d3, d4, d5] }
  | _ => none }
def chainDoesRow : OpenClaim := { program := "ytfdpebipnapelaa", sum := "493921ee7ef3664937f7159eff4d68f88e88cbea7ea87b8d8f170d53eb1d2242", func := "sexton/sextonlaw13.ChainDoes", spec := "chainDoes", inPlace := ["internal/abi.NoEscape"], unfollowed := true, recurses := true, apart := false }
def ChainDoesSaid : Prop := chainDoesRow.holds Try.pinned (OpenSpec.ofChange chainDoesSpec)

/-- ITS FALSE NEIGHBOUR: 'it returns false'. Refute it at one input. -/
def chainDoesWrong : ChangeSpec := { name := "chainDoes", fn := fun _ => fun
  | [d1, d2, d3, d4, d5] => { results := [.lit (.bool false)], args := [d1, d2, d3, d4, d5] }
  | _ => none }
def ChainDoesWrongFalsely : Prop := chainDoesRow.holds Try.pinned (OpenSpec.ofChange chainDoesWrong)

/-- 'sextonlaw13.ChainBack': WHATEVER THE INPUT: true; the input reads as it did. -/
def chainBackSpec : ChangeSpec := { name := "chainBack", fn := fun _ => fun
  | [d1, d2] => { results := [.lit (.bool true)], args := [d1, d2] }
  | _ => none }
def chainBackRow : OpenClaim := { program := "ytfdpebipnapelaa", sum := "493921ee7ef3664937f7159eff4d68f88e88cbea7ea87b8d8f170d53eb1d2242", func := "sexton/sextonlaw13.ChainBack", spec := "chainBack", inPlace := ["internal/abi.NoEscape"], unfollowed := true, recurses := true, apart := false }
def ChainBackSaid : Prop := chainBackRow.holds Try.pinned (OpenSpec.ofChange chainBackSpec)

/-- ITS FALSE NEIGHBOUR: 'it returns false'. Refute it at one input. -/
def chainBackWrong : ChangeSpec := { name := "chainBack", fn := fun _ => fun
  | [d1, d2] => { results := [.lit (.bool false)], args := [d1, d2] }
  | _ => none }
def ChainBackWrongFalsely : Prop := chainBackRow.holds Try.pinned (OpenSpec.ofChange chainBackWrong)

/-- 'sextonlaw13.ChainWhole': WHATEVER THE INPUT: true; the input reads as it did. -/
def chainWholeSpec : ChangeSpec := { name := "chainWhole", fn := fun _ => fun
  | [d1, d2, d3, d4] => { results := [.lit (.bool true)], args := [d1, d2, d3, d4] }
  | _ => none }
def chainWholeRow : OpenClaim := { program := "ytfdpebipnapelaa", sum := "493921ee7ef3664937f7159eff4d68f88e88cbea7ea87b8d8f170d53eb1d2242", func := "sexton/sextonlaw13.ChainWhole", spec := "chainWhole", inPlace := ["internal/abi.NoEscape"], unfollowed := true, recurses := true, apart := false }
def ChainWholeSaid : Prop := chainWholeRow.holds Try.pinned (OpenSpec.ofChange chainWholeSpec)

/-- ITS FALSE NEIGHBOUR: 'it returns false'. Refute it at one input. -/
def chainWholeWrong : ChangeSpec := { name := "chainWhole", fn := fun _ => fun
  | [d1, d2, d3, d4] => { results := [.lit (.bool false)], args := [d1, d2, d3, d4] }
  | _ => none }
def ChainWholeWrongFalsely : Prop := chainWholeRow.holds Try.pinned (OpenSpec.ofChange chainWholeWrong)

/-- 'sextonlaw13.ChainLess': WHATEVER THE INPUT: true; the input reads as it did. -/
def chainLessSpec : ChangeSpec := { name := "chainLess", fn := fun _ => fun
  | [d1, d2, d3, d4] => { results := [.lit (.bool true)], args := [d1, d2, d3, d4] }
  | _ => none }
def chainLessRow : OpenClaim := { program := "ytfdpebipnapelaa", sum := "493921ee7ef3664937f7159eff4d68f88e88cbea7ea87b8d8f170d53eb1d2242", func := "sexton/sextonlaw13.ChainLess", spec := "chainLess", inPlace := ["internal/abi.NoEscape"], unfollowed := true, recurses := true, apart := false }
def ChainLessSaid : Prop := chainLessRow.holds Try.pinned (OpenSpec.ofChange chainLessSpec)

/-- ITS FALSE NEIGHBOUR: 'it returns false'. Refute it at one input. -/
def chainLessWrong : ChangeSpec := { name := "chainLess", fn := fun _ => fun
  | [d1, d2, d3, d4] => { results := [.lit (.bool false)], args := [d1, d2, d3, d4] }
  | _ => none }
def ChainLessWrongFalsely : Prop := chainLessRow.holds Try.pinned (OpenSpec.ofChange chainLessWrong)

/-- 'sextonlaw13.ChainFewer': WHATEVER THE INPUT: true; the input reads as it did. -/
def chainFewerSpec : ChangeSpec := { name := "chainFewer", fn := fun _ => fun
  | [d1, d2, d3] => { results := [.lit (.bool true)], args := [d1, d2, d3] }
  | _ => none }
def chainFewerRow : OpenClaim := { program := "ytfdpebipnapelaa", sum := "493921ee7ef3664937f7159eff4d68f88e88cbea7ea87b8d8f170d53eb1d2242", func := "sexton/sextonlaw13.ChainFewer", spec := "chainFewer", inPlace := ["internal/abi.NoEscape"], unfollowed := true, recurses := true, apart := false }
def ChainFewerSaid : Prop := chainFewerRow.holds Try.pinned (OpenSpec.ofChange chainFewerSpec)

/-- ITS FALSE NEIGHBOUR: 'it returns false'. Refute it at one input. -/
def chainFewerWrong : ChangeSpec := { name := "chainFewer", fn := fun _ => fun
  | [d1, d2, d3] => { results := [.lit (.bool false)], args := [d1, d2, d3] }
  | _ => none }
def ChainFewerWrongFalsely : Prop := chainFewerRow.holds Try.pinned (OpenSpec.ofChange chainFewerWrong)

/- THE SECOND FORM. 'bulk': how many values and letters a reading holds, each counted each time it is reached (what is shared counts as often as it is met; a slice's spare places count too). A statement '..UptoSaid' is the law's where the arguments, and the package variables that the reading takes, are together of bulk at most 1048576: NARROWER than '..Said'. Prove '..Said' where nothing that the law and all that it calls make is longer than what came in: it says more and counts as full. Else prove '..UptoSaid'. A law counts once. -/
mutual
def uptoBulk {H : Type} : DataW H → Nat
  | .lit (.string bytes) => bytes.length + 1
  | .lit _ => 1
  | .nil => 1
  | .ptr d => uptoBulk d + 1
  | .slice elems spare => uptoBulkAll elems + uptoBulkAll spare + 1
  | .agg parts => uptoBulkAll parts + 1
  | .iface _ d => uptoBulk d + 1
  | .map entries => uptoBulkEntries entries + 1
  | .held _ => 1
def uptoBulkAll {H : Type} : List (DataW H) → Nat
  | [] => 0
  | d :: r => uptoBulk d + uptoBulkAll r
def uptoBulkEntries {H : Type} : List (Lit × DataW H) → Nat
  | [] => 0
  | x :: r => uptoBulkEntry x + uptoBulkEntries r
def uptoBulkEntry {H : Type} : Lit × DataW H → Nat
  | (.string bytes, d) => bytes.length + uptoBulk d + 1
  | (_, d) => uptoBulk d + 1
 end
def uptoSmall : (H : Type) → List (DataW H) → Bool := fun _ ds => decide (uptoBulkAll ds ≤ 1048576)
def OpenSpec.upto (s : _root_.Go.ChangeSpec) : _root_.Go.OpenSpec := { _root_.Go.OpenSpec.ofChange s with cond := some uptoSmall }

/-- 'sextonlaw12.MetaDoes', WHERE WHAT IT READS IS OF BULK AT MOST 1048576: true; the input reads as it did. -/
def metaDoesUptoRow : OpenClaim := { program := "ytfdpebipnapelaa", sum := "493921ee7ef3664937f7159eff4d68f88e88cbea7ea87b8d8f170d53eb1d2242", func := "sexton/sextonlaw12.MetaDoes", spec := "metaDoes", inPlace := ["internal/abi.NoEscape"], unfollowed := true, recurses := true, apart := false, narrowed := true }
def MetaDoesUptoSaid : Prop := metaDoesUptoRow.holds Try.pinned (OpenSpec.upto metaDoesSpec)

/-- 'sextonlaw12.MetaBack', WHERE WHAT IT READS IS OF BULK AT MOST 1048576: true; the input reads as it did. -/
def metaBackUptoRow : OpenClaim := { program := "ytfdpebipnapelaa", sum := "493921ee7ef3664937f7159eff4d68f88e88cbea7ea87b8d8f170d53eb1d2242", func := "sexton/sextonlaw12.MetaBack", spec := "metaBack", inPlace := ["internal/abi.NoEscape"], unfollowed := true, recurses := true, apart := false, narrowed := true }
def MetaBackUptoSaid : Prop := metaBackUptoRow.holds Try.pinned (OpenSpec.upto metaBackSpec)

/-- 'sextonlaw12.MetaFront', WHERE WHAT IT READS IS OF BULK AT MOST 1048576: true; the input reads as it did. -/
def metaFrontUptoRow : OpenClaim := { program := "ytfdpebipnapelaa", sum := "493921ee7ef3664937f7159eff4d68f88e88cbea7ea87b8d8f170d53eb1d2242", func := "sexton/sextonlaw12.MetaFront", spec := "metaFront", inPlace := ["internal/abi.NoEscape"], unfollowed := true, recurses := true, apart := false, narrowed := true }
def MetaFrontUptoSaid : Prop := metaFrontUptoRow.holds Try.pinned (OpenSpec.upto metaFrontSpec)

/-- 'sextonlaw12.MetaGone', WHERE WHAT IT READS IS OF BULK AT MOST 1048576: true; the input reads as it did. -/
def metaGoneUptoRow : OpenClaim := { program := "ytfdpebipnapelaa", sum := "493921ee7ef3664937f7159eff4d68f88e88cbea7ea87b8d8f170d53eb1d2242", func := "sexton/sextonlaw12.MetaGone", spec := "metaGone", inPlace := ["internal/abi.NoEscape"], unfollowed := true, recurses := true, apart := false, narrowed := true }
def MetaGoneUptoSaid : Prop := metaGoneUptoRow.holds Try.pinned (OpenSpec.upto metaGoneSpec)

/-- 'sextonlaw13.ChainDoes', WHERE WHAT IT READS IS OF BULK AT MOST 1048576: true; the input reads as it did. -/
def chainDoesUptoRow : OpenClaim := { program := "ytfdpebipnapelaa", sum := "493921ee7ef3664937f7159eff4d68f88e88cbea7ea87b8d8f170d53eb1d2242", func := "sexton/sextonlaw13.ChainDoes", spec := "chainDoes", inPlace := ["internal/abi.NoEscape"], unfollowed := true, recurses := true, apart := false, narrowed := true }
def ChainDoesUptoSaid : Prop := chainDoesUptoRow.holds Try.pinned (OpenSpec.upto chainDoesSpec)

/-- 'sextonlaw13.ChainBack', WHERE WHAT IT READS IS OF BULK AT MOST 1048576: true; the input reads as it did. -/
def chainBackUptoRow : OpenClaim := { program := "ytfdpebipnapelaa", sum := "493921ee7ef3664937f7159eff4d68f88e88cbea7ea87b8d8f170d53eb1d2242", func := "sexton/sextonlaw13.ChainBack", spec := "chainBack", inPlace := ["internal/abi.NoEscape"], unfollowed := true, recurses := true, apart := false, narrowed := true }
def ChainBackUptoSaid : Prop := chainBackUptoRow.holds Try.pinned (OpenSpec.upto chainBackSpec)

/-- 'sextonlaw13.ChainWhole', WHERE WHAT IT READS IS OF BULK AT MOST 1048576: true; the input reads as it did. -/
def chainWholeUptoRow : OpenClaim := { program := "ytfdpebipnapelaa", sum := "493921ee7ef3664937f7159eff4d68f88e88cbea7ea87b8d8f170d53eb1d2242", func := "sexton/sextonlaw13.ChainWhole", spec := "chainWhole", inPlace := ["internal/abi.NoEscape"], unfollowed := true, recurses := true, apart := false, narrowed := true }
def ChainWholeUptoSaid : Prop := chainWholeUptoRow.holds Try.pinned (OpenSpec.upto chainWholeSpec)

/-- 'sextonlaw13.ChainLess', WHERE WHAT IT READS IS OF BULK AT MOST 1048576: true; the input reads as it did. -/
def chainLessUptoRow : OpenClaim := { program := "ytfdpebipnapelaa", sum := "493921ee7ef3664937f7159eff4d68f88e88cbea7ea87b8d8f170d53eb1d2242", func := "sexton/sextonlaw13.ChainLess", spec := "chainLess", inPlace := ["internal/abi.NoEscape"], unfollowed := true, recurses := true, apart := false, narrowed := true }
def ChainLessUptoSaid : Prop := chainLessUptoRow.holds Try.pinned (OpenSpec.upto chainLessSpec)

/-- 'sextonlaw13.ChainFewer', WHERE WHAT IT READS IS OF BULK AT MOST 1048576: true; the input reads as it did. -/
def chainFewerUptoRow : OpenClaim := { program := "ytfdpebipnapelaa", sum := "493921ee7ef3664937f7159eff4d68f88e88cbea7ea87b8d8f170d53eb1d2242", func := "sexton/sextonlaw13.ChainFewer", spec := "chainFewer", inPlace := ["internal/abi.NoEscape"], unfollowed := true, recurses := true, apart := false, narrowed := true }
def ChainFewerUptoSaid : Prop := chainFewerUptoRow.holds Try.pinned (OpenSpec.upto chainFewerSpec)

end Rows
end Go.Proofs.Ytfdpebipnapelaa
