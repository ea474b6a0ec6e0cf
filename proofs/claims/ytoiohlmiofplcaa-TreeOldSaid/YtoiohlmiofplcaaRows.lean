/-
  No cell of these rows narrows 'for every input' (looked for: loops, veiled, ifaces, maps, wideKeys, modest, calm, conditions, laid).
  DERIVED. THE GIVEN ROWS OF THIS SEAT. 10 by the template 'for every input the law returns true; each argument reads behind the call as it read before'; 0 by the template 'total and deterministic' (their statements: YtoiohlmiofplcaaTotals.lean).
  GIVEN WITH THE SEED: the statements are not yours to turn. If you find one false, say at which input.
  Laid BY PROGRAM, IN A SANDBOX (cutbox-rows.mjs): the forced cells as the released guide's own fill.sh prints them over the translation fb3ab5795115d888… (all of the seat's roots in one cut). By AI agents, Wed Nov 11 2026. No macro, syntax, notation, axiom, sorry.
-/
import Derived.Test.YtoiohlmiofplcaaChecked
import GoSem.Claim
import GoSem.ClaimJoined
import GoSem.ClaimMapViews
import Derived.JoinedTies
import Derived.KernelRfl
namespace Go.Proofs.Ytoiohlmiofplcaa
/- THE CELL 'sum', in the pinned program and in every row, IS THE sha256 OF THE DUMP (.gsa) THAT YtoiohlmiofplcaaProg.lean LOADS. Nothing in Lean hashes anything: it is a label: what it is worth is what the hold of that sum in a sandbox is worth. -/
noncomputable def Try.pinned : Pinned := { name := "ytoiohlmiofplcaa", sum := "fb3ab5795115d8887076bf5106dbc52f659bc14ff998ca7a985de99cb12b31e0", checked := Try.checked }
namespace Rows
def none {H : Type} : Left H := { results := [], args := [] }

/-- 'sextonlaw09.NodeDoes': WHATEVER THE INPUT: true; the input reads as it did. -/
def nodeDoesSpec : ChangeSpec := { name := "nodeDoes", fn := fun _ => fun
  | [d1, d2, d3, d4] => { results := [.lit (.bool true)], args := [d1, d2, d3, d4] }
  | _ => none }
def nodeDoesRow : OpenClaim := { program := "ytoiohlmiofplcaa", sum := "fb3ab5795115d8887076bf5106dbc52f659bc14ff998ca7a985de99cb12b31e0", func := "sexton/sextonlaw09.NodeDoes", spec := "nodeDoes", unfollowed := true, recurses := true, apart := false }
def NodeDoesSaid : Prop := nodeDoesRow.holds Try.pinned (OpenSpec.ofChange nodeDoesSpec)

/-- ITS FALSE NEIGHBOUR: 'it returns false'. Refute it at one input. -/
def nodeDoesWrong : ChangeSpec := { name := "nodeDoes", fn := fun _ => fun
  | [d1, d2, d3, d4] => { results := [.lit (.bool false)], args := [d1, d2, d3, d4] }
  | _ => none }
def NodeDoesWrongFalsely : Prop := nodeDoesRow.holds Try.pinned (OpenSpec.ofChange nodeDoesWrong)

/-- 'sextonlaw09.NodePuts': WHATEVER THE INPUT: true; the input reads as it did. -/
def nodePutsSpec : ChangeSpec := { name := "nodePuts", fn := fun _ => fun
  | [d1, d2] => { results := [.lit (.bool true)], args := [d1, d2] }
  | _ => none }
def nodePutsRow : OpenClaim := { program := "ytoiohlmiofplcaa", sum := "fb3ab5795115d8887076bf5106dbc52f659bc14ff998ca7a985de99cb12b31e0", func := "sexton/sextonlaw09.NodePuts", spec := "nodePuts", unfollowed := true, recurses := true, apart := false }
def NodePutsSaid : Prop := nodePutsRow.holds Try.pinned (OpenSpec.ofChange nodePutsSpec)

/-- ITS FALSE NEIGHBOUR: 'it returns false'. Refute it at one input. -/
def nodePutsWrong : ChangeSpec := { name := "nodePuts", fn := fun _ => fun
  | [d1, d2] => { results := [.lit (.bool false)], args := [d1, d2] }
  | _ => none }
def NodePutsWrongFalsely : Prop := nodePutsRow.holds Try.pinned (OpenSpec.ofChange nodePutsWrong)

/-- 'sextonlaw09.NodeDrops': WHATEVER THE INPUT: true; the input reads as it did. -/
def nodeDropsSpec : ChangeSpec := { name := "nodeDrops", fn := fun _ => fun
  | [d1, d2] => { results := [.lit (.bool true)], args := [d1, d2] }
  | _ => none }
def nodeDropsRow : OpenClaim := { program := "ytoiohlmiofplcaa", sum := "fb3ab5795115d8887076bf5106dbc52f659bc14ff998ca7a985de99cb12b31e0", func := "sexton/sextonlaw09.NodeDrops", spec := "nodeDrops", unfollowed := true, recurses := true, apart := false }
def NodeDropsSaid : Prop := nodeDropsRow.holds Try.pinned (OpenSpec.ofChange nodeDropsSpec)

/-- ITS FALSE NEIGHBOUR: 'it returns false'. Refute it at one input. -/
def nodeDropsWrong : ChangeSpec := { name := "nodeDrops", fn := fun _ => fun
  | [d1, d2] => { results := [.lit (.bool false)], args := [d1, d2] }
  | _ => none }
def NodeDropsWrongFalsely : Prop := nodeDropsRow.holds Try.pinned (OpenSpec.ofChange nodeDropsWrong)

/-- 'sextonlaw09.NodeLevels': WHATEVER THE INPUT: true; the input reads as it did. -/
def nodeLevelsSpec : ChangeSpec := { name := "nodeLevels", fn := fun _ => fun
  | [d1, d2, d3] => { results := [.lit (.bool true)], args := [d1, d2, d3] }
  | _ => none }
def nodeLevelsRow : OpenClaim := { program := "ytoiohlmiofplcaa", sum := "fb3ab5795115d8887076bf5106dbc52f659bc14ff998ca7a985de99cb12b31e0", func := "sexton/sextonlaw09.NodeLevels", spec := "nodeLevels", unfollowed := true, recurses := true, apart := false }
def NodeLevelsSaid : Prop := nodeLevelsRow.holds Try.pinned (OpenSpec.ofChange nodeLevelsSpec)

/-- ITS FALSE NEIGHBOUR: 'it returns false'. Refute it at one input. -/
def nodeLevelsWrong : ChangeSpec := { name := "nodeLevels", fn := fun _ => fun
  | [d1, d2, d3] => { results := [.lit (.bool false)], args := [d1, d2, d3] }
  | _ => none }
def NodeLevelsWrongFalsely : Prop := nodeLevelsRow.holds Try.pinned (OpenSpec.ofChange nodeLevelsWrong)

/-- 'sextonlaw09.NodeOrder': WHATEVER THE INPUT: true; the input reads as it did. -/
def nodeOrderSpec : ChangeSpec := { name := "nodeOrder", fn := fun _ => fun
  | [d] => { results := [.lit (.bool true)], args := [d] }
  | _ => none }
def nodeOrderRow : OpenClaim := { program := "ytoiohlmiofplcaa", sum := "fb3ab5795115d8887076bf5106dbc52f659bc14ff998ca7a985de99cb12b31e0", func := "sexton/sextonlaw09.NodeOrder", spec := "nodeOrder", unfollowed := true, recurses := true, apart := false }
def NodeOrderSaid : Prop := nodeOrderRow.holds Try.pinned (OpenSpec.ofChange nodeOrderSpec)

/-- ITS FALSE NEIGHBOUR: 'it returns false'. Refute it at one input. -/
def nodeOrderWrong : ChangeSpec := { name := "nodeOrder", fn := fun _ => fun
  | [d] => { results := [.lit (.bool false)], args := [d] }
  | _ => none }
def NodeOrderWrongFalsely : Prop := nodeOrderRow.holds Try.pinned (OpenSpec.ofChange nodeOrderWrong)

/-- 'sextonlaw10.TreeRuns': WHATEVER THE INPUT: true; the input reads as it did. -/
def treeRunsSpec : ChangeSpec := { name := "treeRuns", fn := fun _ => fun
  | [d1, d2, d3] => { results := [.lit (.bool true)], args := [d1, d2, d3] }
  | _ => none }
def treeRunsRow : OpenClaim := { program := "ytoiohlmiofplcaa", sum := "fb3ab5795115d8887076bf5106dbc52f659bc14ff998ca7a985de99cb12b31e0", func := "sexton/sextonlaw10.TreeRuns", spec := "treeRuns", unfollowed := true, recurses := true, apart := false }
def TreeRunsSaid : Prop := treeRunsRow.holds Try.pinned (OpenSpec.ofChange treeRunsSpec)

/-- ITS FALSE NEIGHBOUR: 'it returns false'. Refute it at one input. -/
def treeRunsWrong : ChangeSpec := { name := "treeRuns", fn := fun _ => fun
  | [d1, d2, d3] => { results := [.lit (.bool false)], args := [d1, d2, d3] }
  | _ => none }
def TreeRunsWrongFalsely : Prop := treeRunsRow.holds Try.pinned (OpenSpec.ofChange treeRunsWrong)

/-- 'sextonlaw10.TreeOld': WHATEVER THE INPUT: true; the input reads as it did. -/
def treeOldSpec : ChangeSpec := { name := "treeOld", fn := fun _ => fun
  | [d] => { results := [.lit (.bool true)], args := [d] }
  | _ => none }
def treeOldRow : OpenClaim := { program := "ytoiohlmiofplcaa", sum := "fb3ab5795115d8887076bf5106dbc52f659bc14ff998ca7a985de99cb12b31e0", func := "sexton/sextonlaw10.TreeOld", spec := "treeOld", unfollowed := true, recurses := true, apart := false }
def TreeOldSaid : Prop := treeOldRow.holds Try.pinned (OpenSpec.ofChange treeOldSpec)

/-- ITS FALSE NEIGHBOUR: 'it returns false'. Refute it at one input. -/
def treeOldWrong : ChangeSpec := { name := "treeOld", fn := fun _ => fun
  | [d] => { results := [.lit (.bool false)], args := [d] }
  | _ => none }
def TreeOldWrongFalsely : Prop := treeOldRow.holds Try.pinned (OpenSpec.ofChange treeOldWrong)

/-- 'sextonlaw10.TreeOrder': WHATEVER THE INPUT: true; the input reads as it did. -/
def treeOrderSpec : ChangeSpec := { name := "treeOrder", fn := fun _ => fun
  | [d] => { results := [.lit (.bool true)], args := [d] }
  | _ => none }
def treeOrderRow : OpenClaim := { program := "ytoiohlmiofplcaa", sum := "fb3ab5795115d8887076bf5106dbc52f659bc14ff998ca7a985de99cb12b31e0", func := "sexton/sextonlaw10.TreeOrder", spec := "treeOrder", unfollowed := true, recurses := true, apart := false }
def TreeOrderSaid : Prop := treeOrderRow.holds Try.pinned (OpenSpec.ofChange treeOrderSpec)

/-- ITS FALSE NEIGHBOUR: 'it returns false'. Refute it at one input. -/
def treeOrderWrong : ChangeSpec := { name := "treeOrder", fn := fun _ => fun
  | [d] => { results := [.lit (.bool false)], args := [d] }
  | _ => none }
def TreeOrderWrongFalsely : Prop := treeOrderRow.holds Try.pinned (OpenSpec.ofChange treeOrderWrong)

/-- 'sextonlaw10.TreeEmpty': WHATEVER THE INPUT: true; the input reads as it did. -/
def treeEmptySpec : ChangeSpec := { name := "treeEmpty", fn := fun _ => fun
  | [d1, d2] => { results := [.lit (.bool true)], args := [d1, d2] }
  | _ => none }
def treeEmptyRow : OpenClaim := { program := "ytoiohlmiofplcaa", sum := "fb3ab5795115d8887076bf5106dbc52f659bc14ff998ca7a985de99cb12b31e0", func := "sexton/sextonlaw10.TreeEmpty", spec := "treeEmpty", unfollowed := true, recurses := true, apart := false }
def TreeEmptySaid : Prop := treeEmptyRow.holds Try.pinned (OpenSpec.ofChange treeEmptySpec)

/-- ITS FALSE NEIGHBOUR: 'it returns false'. Refute it at one input. -/
def treeEmptyWrong : ChangeSpec := { name := "treeEmpty", fn := fun _ => fun
  | [d1, d2] => { results := [.lit (.bool false)], args := [d1, d2] }
  | _ => none }
def TreeEmptyWrongFalsely : Prop := treeEmptyRow.holds Try.pinned (OpenSpec.ofChange treeEmptyWrong)

/-- 'sextonlaw10.TreeFrom': WHATEVER THE INPUT: true; the input reads as it did. -/
def treeFromSpec : ChangeSpec := { name := "treeFrom", fn := fun _ => fun
  | [d1, d2, d3, d4] => { results := [.lit (.bool true)], args := [d1, d2, d3, d4] }
  | _ => none }
def treeFromRow : OpenClaim := { program := "ytoiohlmiofplcaa", sum := "fb3ab5795115d8887076bf5106dbc52f659bc14ff998ca7a985de99cb12b31e0", func := "sexton/sextonlaw10.TreeFrom", spec := "treeFrom", unfollowed := true, recurses := true, apart := false }
def TreeFromSaid : Prop := treeFromRow.holds Try.pinned (OpenSpec.ofChange treeFromSpec)

/-- ITS FALSE NEIGHBOUR: 'it returns false'. Refute it at one input. -/
def treeFromWrong : ChangeSpec := { name := "treeFrom", fn := fun _ => fun
  | [d1, d2, d3, d4] => { results := [.lit (.bool false)], args := [d1, d2, d3, d4] }
  | _ => none }
def TreeFromWrongFalsely : Prop := treeFromRow.holds Try.pinned (OpenSpec.ofChange treeFromWrong)

/- THE SECOND FORM. 'bulk': how many values and letters a reading holds, each counted each time it is reached (what is shared counts as often as it is met; a slice's spare places count too). A statement '..UptoSaid' is the law's where the arguments, and the package variables that the reading takes, are together of bulk at most 1048576: NARROWER than '..Said'. Prove '..Said' where nothing that the law and all that it calls make is longer than what came in: it says more and counts as full. Else prove '..UptoSaid'. A law counts once. -/
mutual
def uptoBulk {H : Type} : DataW H → Nat
  | .lit (.string bytes) => bytes.length + 1
  | .lit _ => 1
  | .nil => 1
  | .ptr d => uptoBulk d + 1
  | .slice elems spare => uptoBulkAll elems + uptoBulkAll spare + 1
  | .agg parts => uptoBulkAll parts + 1
  | .iface _ d => uptoBulk d + 1
  | .map entries => uptoBulkEntries entries + 1
  | .held _ => 1
def uptoBulkAll {H : Type} : List (DataW H) → Nat
  | [] => 0
  | d :: r => uptoBulk d + uptoBulkAll r
def uptoBulkEntries {H : Type} : List (Lit × DataW H) → Nat
  | [] => 0
  | x :: r => uptoBulkEntry x + uptoBulkEntries r
def uptoBulkEntry {H : Type} : Lit × DataW H → Nat
  | (.string bytes, d) => bytes.length + uptoBulk d + 1
  | (_, d) => uptoBulk d + 1
 end
def uptoSmall : (H : Type) → List (DataW H) → Bool := fun _ ds => decide (uptoBulkAll ds ≤ 1048576)
def OpenSpec.upto (s : _root_.Go.ChangeSpec) : _root_.Go.OpenSpec := { _root_.Go.OpenSpec.ofChange s with cond := some uptoSmall }

/-- 'sextonlaw09.NodeDoes', WHERE WHAT IT READS IS OF BULK AT MOST 1048576: true; the input reads as it did. -/
def nodeDoesUptoRow : OpenClaim := { program := "ytoiohlmiofplcaa", sum := "fb3ab5795115d8887076bf5106dbc52f659bc14ff998ca7a985de99cb12b31e0", func := "sexton/sextonlaw09.NodeDoes", spec := "nodeDoes", unfollowed := true, recurses := true, apart := false, narrowed := true }
def NodeDoesUptoSaid : Prop := nodeDoesUptoRow.holds Try.pinned (OpenSpec.upto nodeDoesSpec)

/-- 'sextonlaw09.NodePuts', WHERE WHAT IT READS IS OF BULK AT MOST 1048576: true; the input reads as it did. -/
def nodePutsUptoRow : OpenClaim := { program := "ytoiohlmiofplcaa", sum := "fb3ab5795115d8887076bf5106dbc52f659bc14ff998ca7a985de99cb12b31e0", func := "sexton/sextonlaw09.NodePuts", spec := "nodePuts", unfollowed := true, recurses := true, apart := false, narrowed := true }
def NodePutsUptoSaid : Prop := nodePutsUptoRow.holds Try.pinned (OpenSpec.upto nodePutsSpec)

/-- 'sextonlaw09.NodeDrops', WHERE WHAT IT READS IS OF BULK AT MOST 1048576: true; the input reads as it did. -/
def nodeDropsUptoRow : OpenClaim := { program := "ytoiohlmiofplcaa", sum := "fb3ab5795115d8887076bf5106dbc52f659bc14ff998ca7a985de99cb12b31e0", func := "sexton/sextonlaw09.NodeDrops", spec := "nodeDrops", unfollowed := true, recurses := true, apart := false, narrowed := true }
def NodeDropsUptoSaid : Prop := nodeDropsUptoRow.holds Try.pinned (OpenSpec.upto nodeDropsSpec)

/-- 'sextonlaw09.NodeLevels', WHERE WHAT IT READS IS OF BULK AT MOST 1048576: true; the input reads as it did. -/
def nodeLevelsUptoRow : OpenClaim := { program := "ytoiohlmiofplcaa", sum := "fb3ab5795115d8887076bf5106dbc52f659bc14ff998ca7a985de99cb12b31e0", func := "sexton/sextonlaw09.NodeLevels", spec := "nodeLevels", unfollowed := true, recurses := true, apart := false, narrowed := true }
def NodeLevelsUptoSaid : Prop := nodeLevelsUptoRow.holds Try.pinned (OpenSpec.upto nodeLevelsSpec)

/-- 'sextonlaw09.NodeOrder', WHERE WHAT IT READS IS OF BULK AT MOST 1048576: true; the input reads as it did. -/
def nodeOrderUptoRow : OpenClaim := { program := "ytoiohlmiofplcaa", sum := "fb3ab5795115d8887076bf5106dbc52f659bc14ff998ca7a985de99cb12b31e0", func := "sexton/sextonlaw09.NodeOrder", spec := "nodeOrder", unfollowed := true, recurses := true, apart := false, narrowed := true }
def NodeOrderUptoSaid : Prop := nodeOrderUptoRow.holds Try.pinned (OpenSpec.upto nodeOrderSpec)

/-- 'sextonlaw10.TreeRuns', WHERE WHAT IT READS IS OF BULK AT MOST 1048576: true; the input reads as it did. -/
def treeRunsUptoRow : OpenClaim := { program := "ytoiohlmiofplcaa", sum := "fb3ab5795115d8887076bf5106dbc52f659bc14ff998ca7a985de99cb12b31e0", func := "sexton/sextonlaw10.TreeRuns", spec := "treeRuns", unfollowed := true, recurses := true, apart := false, narrowed := true }
def TreeRunsUptoSaid : Prop := treeRunsUptoRow.holds Try.pinned (OpenSpec.upto treeRunsSpec)

/-- 'sextonlaw10.TreeOld', WHERE WHAT IT READS IS OF BULK AT MOST 1048576: true; the input reads as it did. -/
def treeOldUptoRow : OpenClaim := { program := "ytoiohlmiofplcaa", sum := "fb3ab5795115d8887076bf5106dbc52f659bc14ff998ca7a985de99cb12b31e0", func := "sexton/sextonlaw10.TreeOld", spec := "treeOld", unfollowed := true, recurses := true, apart := false, narrowed := true }
def TreeOldUptoSaid : Prop := treeOldUptoRow.holds Try.pinned (OpenSpec.upto treeOldSpec)

/-- 'sextonlaw10.TreeOrder', WHERE WHAT IT READS IS OF BULK AT MOST 1048576: true; the input reads as it did. -/
def treeOrderUptoRow : OpenClaim := { program := "ytoiohlmiofplcaa", sum := "fb3ab5795115d8887076bf5106dbc52f659bc14ff998ca7a985de99cb12b31e0", func := "sexton/sextonlaw10.TreeOrder", spec := "treeOrder", unfollowed := true, recurses := true, apart := false, narrowed := true }
def TreeOrderUptoSaid : Prop := treeOrderUptoRow.holds Try.pinned (OpenSpec.upto treeOrderSpec)

/-- 'sextonlaw10.TreeEmpty', WHERE WHAT IT READS IS OF BULK AT MOST 1048576: true; the input reads as it did. -/
def treeEmptyUptoRow : OpenClaim := { program := "ytoiohlmiofplcaa", sum := "fb3ab5795115d8887076bf5106dbc52f659bc14ff998ca7a985de99cb12b31e0", func := "sexton/sextonlaw10.TreeEmpty", spec := "treeEmpty", unfollowed := true, recurses := true, apart := false, narrowed := true }
def TreeEmptyUptoSaid : Prop := treeEmptyUptoRow.holds Try.pinned (OpenSpec.upto treeEmptySpec)

/-- 'sextonlaw10.TreeFrom', WHERE WHAT IT READS IS OF BULK AT MOST 1048576: true; the input reads as it did. -/
def treeFromUptoRow : OpenClaim := { program := "ytoiohlmiofplcaa", sum := "fb3ab5795115d8887076bf5106dbc52f659bc14ff998ca7a985de99cb12b31e0", func := "sexton/sextonlaw10.TreeFrom", spec := "treeFrom", unfollowed := true, recurses := true, apart := false, narrowed := true }
def TreeFromUptoSaid : Prop := treeFromUptoRow.holds Try.pinned (OpenSpec.upto treeFromSpec)

end Rows
end Go.Proofs.Ytoiohlmiofplcaa
