/-
  No cell of these rows narrows 'for every input' (looked for: loops, veiled, ifaces, maps, wideKeys, modest, calm, conditions, laid).
  DERIVED. THE GIVEN ROWS OF THIS SEAT. 5 by the template 'for every input the law returns true; each argument reads behind the call as it read before'; 0 by the template 'total and deterministic' (their statements: YtcocaapihhgckaaTotals.lean).
  GIVEN WITH THE SEED: the statements are not yours to turn. If you find one false, say at which input.
  Laid BY PROGRAM, IN A SANDBOX (cutbox-rows.mjs): the forced cells as the released guide's own fill.sh prints them over the translation 19364dc4e89184c1… (all of the seat's roots in one cut). By AI agents, Wed Nov 11 2026. No macro, syntax, notation, axiom, sorry.
-/
import Derived.Test.YtcocaapihhgckaaChecked
import GoSem.Claim
import GoSem.ClaimJoined
import GoSem.ClaimMapViews
import Derived.JoinedTies
import Derived.KernelRfl
namespace Go.Proofs.Ytcocaapihhgckaa
/- THE CELL 'sum', in the pinned program and in every row, IS THE sha256 OF THE DUMP (.gsa) THAT YtcocaapihhgckaaProg.lean LOADS. Nothing in Lean hashes anything: it is a label: what it is worth is what the hold of that sum in a sandbox is worth. -/
noncomputable def Try.pinned : Pinned := { name := "ytcocaapihhgckaa", sum := "19364dc4e89184c17f5d6176981c11da53dc5bbadc7e4d1191e4586834d4384b", checked := Try.checked }
namespace Rows
def none {H : Type} : Left H := { results := [], args := [] }

/-- 'prebendlaw02.PlaneMeets': WHATEVER THE INPUT: true; the input reads as it did. -/
def planeMeetsSpec : ChangeSpec := { name := "planeMeets", fn := fun _ => fun
  | [d1, d2] => { results := [.lit (.bool true)], args := [d1, d2] }
  | _ => none }
def planeMeetsRow : OpenClaim := { program := "ytcocaapihhgckaa", sum := "19364dc4e89184c17f5d6176981c11da53dc5bbadc7e4d1191e4586834d4384b", func := "prebend/prebendlaw02.PlaneMeets", spec := "planeMeets", apart := false }
def PlaneMeetsSaid : Prop := planeMeetsRow.holds Try.pinned (OpenSpec.ofChange planeMeetsSpec)

/-- ITS FALSE NEIGHBOUR: 'it returns false'. Refute it at one input. -/
def planeMeetsWrong : ChangeSpec := { name := "planeMeets", fn := fun _ => fun
  | [d1, d2] => { results := [.lit (.bool false)], args := [d1, d2] }
  | _ => none }
def PlaneMeetsWrongFalsely : Prop := planeMeetsRow.holds Try.pinned (OpenSpec.ofChange planeMeetsWrong)

/-- 'prebendlaw02.PlaneApart': WHATEVER THE INPUT: true; the input reads as it did. -/
def planeApartSpec : ChangeSpec := { name := "planeApart", fn := fun _ => fun
  | [d] => { results := [.lit (.bool true)], args := [d] }
  | _ => none }
def planeApartRow : OpenClaim := { program := "ytcocaapihhgckaa", sum := "19364dc4e89184c17f5d6176981c11da53dc5bbadc7e4d1191e4586834d4384b", func := "prebend/prebendlaw02.PlaneApart", spec := "planeApart", apart := false }
def PlaneApartSaid : Prop := planeApartRow.holds Try.pinned (OpenSpec.ofChange planeApartSpec)

/-- ITS FALSE NEIGHBOUR: 'it returns false'. Refute it at one input. -/
def planeApartWrong : ChangeSpec := { name := "planeApart", fn := fun _ => fun
  | [d] => { results := [.lit (.bool false)], args := [d] }
  | _ => none }
def PlaneApartWrongFalsely : Prop := planeApartRow.holds Try.pinned (OpenSpec.ofChange planeApartWrong)

/-- 'prebendlaw02.PlaneRows': WHATEVER THE INPUT: true; the input reads as it did. -/
def planeRowsSpec : ChangeSpec := { name := "planeRows", fn := fun _ => fun
  | [d1, d2, d3] => { results := [.lit (.bool true)], args := [d1, d2, d3] }
  | _ => none }
def planeRowsRow : OpenClaim := { program := "ytcocaapihhgckaa", sum := "19364dc4e89184c17f5d6176981c11da53dc5bbadc7e4d1191e4586834d4384b", func := "prebend/prebendlaw02.PlaneRows", spec := "planeRows", apart := false }
def PlaneRowsSaid : Prop := planeRowsRow.holds Try.pinned (OpenSpec.ofChange planeRowsSpec)

/-- ITS FALSE NEIGHBOUR: 'it returns false'. Refute it at one input. -/
def planeRowsWrong : ChangeSpec := { name := "planeRows", fn := fun _ => fun
  | [d1, d2, d3] => { results := [.lit (.bool false)], args := [d1, d2, d3] }
  | _ => none }
def PlaneRowsWrongFalsely : Prop := planeRowsRow.holds Try.pinned (OpenSpec.ofChange planeRowsWrong)

/-- 'prebendlaw02.PlaneCovers': WHATEVER THE INPUT: true; the input reads as it did. -/
def planeCoversSpec : ChangeSpec := { name := "planeCovers", fn := fun _ => fun
  | [d1, d2, d3, d4, d5] => { results := [.lit (.bool true)], args := [d1, d2, d3, d4, d5] }
  | _ => none }
def planeCoversRow : OpenClaim := { program := "ytcocaapihhgckaa", sum := "19364dc4e89184c17f5d6176981c11da53dc5bbadc7e4d1191e4586834d4384b", func := "prebend/prebendlaw02.PlaneCovers", spec := "planeCovers", apart := false }
def PlaneCoversSaid : Prop := planeCoversRow.holds Try.pinned (OpenSpec.ofChange planeCoversSpec)

/-- ITS FALSE NEIGHBOUR: 'it returns false'. Refute it at one input. -/
def planeCoversWrong : ChangeSpec := { name := "planeCovers", fn := fun _ => fun
  | [d1, d2, d3, d4, d5] => { results := [.lit (.bool false)], args := [d1, d2, d3, d4, d5] }
  | _ => none }
def PlaneCoversWrongFalsely : Prop := planeCoversRow.holds Try.pinned (OpenSpec.ofChange planeCoversWrong)

/-- 'prebendlaw02.PlaneMoves': WHATEVER THE INPUT: true; the input reads as it did. -/
def planeMovesSpec : ChangeSpec := { name := "planeMoves", fn := fun _ => fun
  | [d1, d2, d3] => { results := [.lit (.bool true)], args := [d1, d2, d3] }
  | _ => none }
def planeMovesRow : OpenClaim := { program := "ytcocaapihhgckaa", sum := "19364dc4e89184c17f5d6176981c11da53dc5bbadc7e4d1191e4586834d4384b", func := "prebend/prebendlaw02.PlaneMoves", spec := "planeMoves", apart := false }
def PlaneMovesSaid : Prop := planeMovesRow.holds Try.pinned (OpenSpec.ofChange planeMovesSpec)

/-- ITS FALSE NEIGHBOUR: 'it returns false'. Refute it at one input. -/
def planeMovesWrong : ChangeSpec := { name := "planeMoves", fn := fun _ => fun
  | [d1, d2, d3] => { results := [.lit (.bool false)], args := [d1, d2, d3] }
  | _ => none }
def PlaneMovesWrongFalsely : Prop := planeMovesRow.holds Try.pinned (OpenSpec.ofChange planeMovesWrong)

/- THE SECOND FORM. 'bulk': how many values and letters a reading holds, each counted each time it is reached (what is shared counts as often as it is met; a slice's spare places count too). A statement '..UptoSaid' is the law's where the arguments, and the package variables that the reading takes, are together of bulk at most 1048576: NARROWER than '..Said'. Prove '..Said' where nothing that the law and all that it calls make is longer than what came in: it says more and counts as full. Else prove '..UptoSaid'. A law counts once. -/
mutual
def uptoBulk {H : Type} : DataW H → Nat
  | .lit (.string bytes) => bytes.length + 1
  | .lit _ => 1
  | .nil => 1
  | .ptr d => uptoBulk d + 1
  | .slice elems spare => uptoBulkAll elems + uptoBulkAll spare + 1
  | .agg parts => uptoBulkAll parts + 1
  | .iface _ d => uptoBulk d + 1
  | .map entries => uptoBulkEntries entries + 1
  | .held _ => 1
def uptoBulkAll {H : Type} : List (DataW H) → Nat
  | [] => 0
  | d :: r => uptoBulk d + uptoBulkAll r
def uptoBulkEntries {H : Type} : List (Lit × DataW H) → Nat
  | [] => 0
  | x :: r => uptoBulkEntry x + uptoBulkEntries r
def uptoBulkEntry {H : Type} : Lit × DataW H → Nat
  | (.string bytes, d) => bytes.length + uptoBulk d + 1
  | (_, d) => uptoBulk d + 1
 end
def uptoSmall : (H : Type) → List (DataW H) → Bool := fun _ ds => decide (uptoBulkAll ds ≤ 1048576)
def OpenSpec.upto (s : _root_.Go.ChangeSpec) : _root_.Go.OpenSpec := { _root_.Go.OpenSpec.ofChange s with cond := some uptoSmall }

/-- 'prebendlaw02.PlaneMeets', WHERE WHAT IT READS IS OF BULK AT MOST 1048576: true; the input reads as it did. -/
def planeMeetsUptoRow : OpenClaim := { program := "ytcocaapihhgckaa", sum := "19364dc4e89184c17f5d6176981c11da53dc5bbadc7e4d1191e4586834d4384b", func := "prebend/prebendlaw02.PlaneMeets", spec := "planeMeets", apart := false, narrowed := true }
def PlaneMeetsUptoSaid : Prop := planeMeetsUptoRow.holds Try.pinned (OpenSpec.upto planeMeetsSpec)

/-- 'prebendlaw02.PlaneApart', WHERE WHAT IT READS IS OF BULK AT MOST 1048576: true; the input reads as it did. -/
def planeApartUptoRow : OpenClaim := { program := "ytcocaapihhgckaa", sum := "19364dc4e89184c17f5d6176981c11da53dc5bbadc7e4d1191e4586834d4384b", func := "prebend/prebendlaw02.PlaneApart", spec := "planeApart", apart := false, narrowed := true }
def PlaneApartUptoSaid : Prop := planeApartUptoRow.holds Try.pinned (OpenSpec.upto planeApartSpec)

/-- 'prebendlaw02.PlaneRows', WHERE WHAT IT READS IS OF BULK AT MOST 1048576: true; the input reads as it did. -/
def planeRowsUptoRow : OpenClaim := { program := "ytcocaapihhgckaa", sum := "19364dc4e89184c17f5d6176981c11da53dc5bbadc7e4d1191e4586834d4384b", func := "prebend/prebendlaw02.PlaneRows", spec := "planeRows", apart := false, narrowed := true }
def PlaneRowsUptoSaid : Prop := planeRowsUptoRow.holds Try.pinned (OpenSpec.upto planeRowsSpec)

/-- 'prebendlaw02.PlaneCovers', WHERE WHAT IT READS IS OF BULK AT MOST 1048576: true; the input reads as it did. -/
def planeCoversUptoRow : OpenClaim := { program := "ytcocaapihhgckaa", sum := "19364dc4e89184c17f5d6176981c11da53dc5bbadc7e4d1191e4586834d4384b", func := "prebend/prebendlaw02.PlaneCovers", spec := "planeCovers", apart := false, narrowed := true }
def PlaneCoversUptoSaid : Prop := planeCoversUptoRow.holds Try.pinned (OpenSpec.upto planeCoversSpec)

/-- 'prebendlaw02.PlaneMoves', WHERE WHAT IT READS IS OF BULK AT MOST 1048576: true; the input reads as it did. -/
def planeMovesUptoRow : OpenClaim := { program := "ytcocaapihhgckaa", sum := "19364dc4e89184c17f5d6176981c11da53dc5bbadc7e4d1191e4586834d4384b", func := "prebend/prebendlaw02.PlaneMoves", spec := "planeMoves", apart := false, narrowed := true }
def PlaneMovesUptoSaid : Prop := planeMovesUptoRow.holds Try.pinned (OpenSpec.upto planeMovesSpec)

end Rows
end Go.Proofs.Ytcocaapihhgckaa
