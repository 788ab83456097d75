/-
  No cell of these rows narrows 'for every input' (looked for: loops, veiled, ifaces, maps, wideKeys, modest, calm, conditions, laid).
  DERIVED. THE GIVEN ROWS OF THIS SEAT. 4 by the template 'for every input the law returns true; each argument reads behind the call as it read before'; 0 by the template 'total and deterministic' (their statements: YtfdlncakhnlgoaaTotals.lean).
  GIVEN WITH THE SEED: the statements are not yours to turn. If you find one false, say at which input.
  Laid BY PROGRAM, IN A SANDBOX (cutbox-rows.mjs): the forced cells as the released guide's own fill.sh prints them over the translation 17a350feefc9e05f… (all of the seat's roots in one cut). By AI agents, Wed Nov 11 2026. No macro, syntax, notation, axiom, sorry.
-/
import Derived.Test.YtfdlncakhnlgoaaChecked
import GoSem.Claim
import GoSem.ClaimJoined
import GoSem.ClaimMapViews
import Derived.JoinedTies
import Derived.KernelRfl
namespace Go.Proofs.Ytfdlncakhnlgoaa
/- THE CELL 'sum', in the pinned program and in every row, IS THE sha256 OF THE DUMP (.gsa) THAT YtfdlncakhnlgoaaProg.lean LOADS. Nothing in Lean hashes anything: it is a label: what it is worth is what the hold of that sum in a sandbox is worth. -/
noncomputable def Try.pinned : Pinned := { name := "ytfdlncakhnlgoaa", sum := "17a350feefc9e05f36726db43b7ecfd42137f78c9cbb349dc428f8f219095862", checked := Try.checked }
namespace Rows
def none {H : Type} : Left H := { results := [], args := [] }

/-- 'prebendlaw08.TreePaths': WHATEVER THE INPUT: true; the input reads as it did. -/
def treePathsSpec : ChangeSpec := { name := "treePaths", fn := fun _ => fun
  | [d1, d2] => { results := [.lit (.bool true)], args := [d1, d2] }
  | _ => none }
def treePathsRow : OpenClaim := { program := "ytfdlncakhnlgoaa", sum := "17a350feefc9e05f36726db43b7ecfd42137f78c9cbb349dc428f8f219095862", func := "prebend/prebendlaw08.TreePaths", spec := "treePaths", unfollowed := true, recurses := true, apart := false }
def TreePathsSaid : Prop := treePathsRow.holds Try.pinned (OpenSpec.ofChange treePathsSpec)

/-- ITS FALSE NEIGHBOUR: 'it returns false'. Refute it at one input. -/
def treePathsWrong : ChangeSpec := { name := "treePaths", fn := fun _ => fun
  | [d1, d2] => { results := [.lit (.bool false)], args := [d1, d2] }
  | _ => none }
def TreePathsWrongFalsely : Prop := treePathsRow.holds Try.pinned (OpenSpec.ofChange treePathsWrong)

/-- 'prebendlaw08.TreeUses': WHATEVER THE INPUT: true; the input reads as it did. -/
def treeUsesSpec : ChangeSpec := { name := "treeUses", fn := fun _ => fun
  | [d1, d2, d3] => { results := [.lit (.bool true)], args := [d1, d2, d3] }
  | _ => none }
def treeUsesRow : OpenClaim := { program := "ytfdlncakhnlgoaa", sum := "17a350feefc9e05f36726db43b7ecfd42137f78c9cbb349dc428f8f219095862", func := "prebend/prebendlaw08.TreeUses", spec := "treeUses", unfollowed := true, recurses := true, apart := false }
def TreeUsesSaid : Prop := treeUsesRow.holds Try.pinned (OpenSpec.ofChange treeUsesSpec)

/-- ITS FALSE NEIGHBOUR: 'it returns false'. Refute it at one input. -/
def treeUsesWrong : ChangeSpec := { name := "treeUses", fn := fun _ => fun
  | [d1, d2, d3] => { results := [.lit (.bool false)], args := [d1, d2, d3] }
  | _ => none }
def TreeUsesWrongFalsely : Prop := treeUsesRow.holds Try.pinned (OpenSpec.ofChange treeUsesWrong)

/-- 'prebendlaw08.TreeUp': WHATEVER THE INPUT: true; the input reads as it did. -/
def treeUpSpec : ChangeSpec := { name := "treeUp", fn := fun _ => fun
  | [d1, d2] => { results := [.lit (.bool true)], args := [d1, d2] }
  | _ => none }
def treeUpRow : OpenClaim := { program := "ytfdlncakhnlgoaa", sum := "17a350feefc9e05f36726db43b7ecfd42137f78c9cbb349dc428f8f219095862", func := "prebend/prebendlaw08.TreeUp", spec := "treeUp", unfollowed := true, recurses := true, apart := false }
def TreeUpSaid : Prop := treeUpRow.holds Try.pinned (OpenSpec.ofChange treeUpSpec)

/-- ITS FALSE NEIGHBOUR: 'it returns false'. Refute it at one input. -/
def treeUpWrong : ChangeSpec := { name := "treeUp", fn := fun _ => fun
  | [d1, d2] => { results := [.lit (.bool false)], args := [d1, d2] }
  | _ => none }
def TreeUpWrongFalsely : Prop := treeUpRow.holds Try.pinned (OpenSpec.ofChange treeUpWrong)

/-- 'prebendlaw08.TreeMore': WHATEVER THE INPUT: true; the input reads as it did. -/
def treeMoreSpec : ChangeSpec := { name := "treeMore", fn := fun _ => fun
  | [d1, d2, d3, d4] => { results := [.lit (.bool true)], args := [d1, d2, d3, d4] }
  | _ => none }
def treeMoreRow : OpenClaim := { program := "ytfdlncakhnlgoaa", sum := "17a350feefc9e05f36726db43b7ecfd42137f78c9cbb349dc428f8f219095862", func := "prebend/prebendlaw08.TreeMore", spec := "treeMore", unfollowed := true, recurses := true, apart := false }
def TreeMoreSaid : Prop := treeMoreRow.holds Try.pinned (OpenSpec.ofChange treeMoreSpec)

/-- ITS FALSE NEIGHBOUR: 'it returns false'. Refute it at one input. -/
def treeMoreWrong : ChangeSpec := { name := "treeMore", fn := fun _ => fun
  | [d1, d2, d3, d4] => { results := [.lit (.bool false)], args := [d1, d2, d3, d4] }
  | _ => none }
def TreeMoreWrongFalsely : Prop := treeMoreRow.holds Try.pinned (OpenSpec.ofChange treeMoreWrong)

/- THE SECOND FORM. 'bulk': how many values and letters a reading holds, each counted each time it is reached (what is shared counts as often as it is met; a slice's spare places count too). A statement '..UptoSaid' is the law's where the arguments, and the package variables that the reading takes, are together of bulk at most 1048576: NARROWER than '..Said'. Prove '..Said' where nothing that the law and all that it calls make is longer than what came in: it says more and counts as full. Else prove '..UptoSaid'. A law counts once. -/
mutual
def uptoBulk {H : Type} : DataW H → Nat
  | .lit (.string bytes) => bytes.length + 1
  | .lit _ => 1
  | .nil => 1
  | .ptr d => uptoBulk d + 1
  | .slice elems spare => uptoBulkAll elems + uptoBulkAll spare + 1
  | .agg parts => uptoBulkAll parts + 1
  | .iface _ d => uptoBulk d + 1
  | .map entries => uptoBulkEntries entries + 1
  | .held _ => 1
def uptoBulkAll {H : Type} : List (DataW H) → Nat
  | [] => 0
  | d :: r => uptoBulk d + uptoBulkAll r
def uptoBulkEntries {H : Type} : List (Lit × DataW H) → Nat
  | [] => 0
  | x :: r => uptoBulkEntry x + uptoBulkEntries r
def uptoBulkEntry {H : Type} : Lit × DataW H → Nat
  | (.string bytes, d) => bytes.length + uptoBulk d + 1
  | (_, d) => uptoBulk d + 1
 end
def uptoSmall : (H : Type) → List (DataW H) → Bool := fun _ ds => decide (uptoBulkAll ds ≤ 1048576)
def OpenSpec.upto (s : _root_.Go.ChangeSpec) : _root_.Go.OpenSpec := { _root_.Go.OpenSpec.ofChange s with cond := some uptoSmall }

/-- 'prebendlaw08.TreePaths', WHERE WHAT IT READS IS OF BULK AT MOST 1048576: true; the input reads as it did. -/
def treePathsUptoRow : OpenClaim := { program := "ytfdlncakhnlgoaa", sum := "17a350feefc9e05f36726db43b7ecfd42137f78c9cbb349dc428f8f219095862", func := "prebend/prebendlaw08.TreePaths", spec := "treePaths", unfollowed := true, recurses := true, apart := false, narrowed := true }
def TreePathsUptoSaid : Prop := treePathsUptoRow.holds Try.pinned (OpenSpec.upto treePathsSpec)

/-- 'prebendlaw08.TreeUses', WHERE WHAT IT READS IS OF BULK AT MOST 1048576: true; the input reads as it did. -/
def treeUsesUptoRow : OpenClaim := { program := "ytfdlncakhnlgoaa", sum := "17a350feefc9e05f36726db43b7ecfd42137f78c9cbb349dc428f8f219095862", func := "prebend/prebendlaw08.TreeUses", spec := "treeUses", unfollowed := true, recurses := true, apart := false, narrowed := true }
def TreeUsesUptoSaid : Prop := treeUsesUptoRow.holds Try.pinned (OpenSpec.upto treeUsesSpec)

/-- 'prebendlaw08.TreeUp', WHERE WHAT IT READS IS OF BULK AT MOST 1048576: true; the input reads as it did. -/
def treeUpUptoRow : OpenClaim := { program := "ytfdlncakhnlgoaa", sum := "17a350feefc9e05f36726db43b7ecfd42137f78c9cbb349dc428f8f219095862", func := "prebend/prebendlaw08.TreeUp", spec := "treeUp", unfollowed := true, recurses := true, apart := false, narrowed := true }
def TreeUpUptoSaid : Prop := treeUpUptoRow.holds Try.pinned (OpenSpec.upto treeUpSpec)

/-- 'prebendlaw08.TreeMore', WHERE WHAT IT READS IS OF BULK AT MOST 1048576: true; the input reads as it did. -/
def treeMoreUptoRow : OpenClaim := { program := "ytfdlncakhnlgoaa", sum := "17a350feefc9e05f36726db43b7ecfd42137f78c9cbb349dc428f8f219095862", func := "prebend/prebendlaw08.TreeMore", spec := "treeMore", unfollowed := true, recurses := true, apart := false, narrowed := true }
def TreeMoreUptoSaid : Prop := treeMoreUptoRow.holds Try.pinned (OpenSpec.upto treeMoreSpec)

end Rows
end Go.Proofs.Ytfdlncakhnlgoaa
