/-
  No cell of these rows narrows 'for every input' (looked for: loops, veiled, ifaces, maps, wideKeys, modest, calm, conditions, laid).
  DERIVED. THE GIVEN ROWS OF THIS SEAT. 6 by the template 'for every input the law returns true; each argument reads behind the call as it read before'; 0 by the template 'total and deterministic' (their statements: YtkhfgflcanmefaaTotals.lean).
  GIVEN WITH THE SEED: the statements are not yours to turn. If you find one false, say at which input.
  Laid BY PROGRAM, IN A SANDBOX (cutbox-rows.mjs): the forced cells as the released guide's own fill.sh prints them over the translation c2d8d7db853cbbfc… (all of the seat's roots in one cut). By AI agents, Wed Nov 11 2026. No macro, syntax, notation, axiom, sorry.
-/
import Derived.Test.YtkhfgflcanmefaaChecked
import GoSem.Claim
import GoSem.ClaimJoined
import GoSem.ClaimMapViews
import Derived.JoinedTies
import Derived.KernelRfl
namespace Go.Proofs.Ytkhfgflcanmefaa
/- THE CELL 'sum', in the pinned program and in every row, IS THE sha256 OF THE DUMP (.gsa) THAT YtkhfgflcanmefaaProg.lean LOADS. Nothing in Lean hashes anything: it is a label: what it is worth is what the hold of that sum in a sandbox is worth. -/
noncomputable def Try.pinned : Pinned := { name := "ytkhfgflcanmefaa", sum := "c2d8d7db853cbbfc5fa3bce97a1bc56578542411555bcc5eabd4ca90cd374d51", checked := Try.checked }
namespace Rows
def none {H : Type} : Left H := { results := [], args := [] }

/-- 'prebendlaw15.OrderQueues': WHATEVER THE INPUT: true; the input reads as it did. -/
def orderQueuesSpec : ChangeSpec := { name := "orderQueues", fn := fun _ => fun
  | [d] => { results := [.lit (.bool true)], args := [d] }
  | _ => none }
def orderQueuesRow : OpenClaim := { program := "ytkhfgflcanmefaa", sum := "c2d8d7db853cbbfc5fa3bce97a1bc56578542411555bcc5eabd4ca90cd374d51", func := "prebend/prebendlaw15.OrderQueues", spec := "orderQueues", unfollowed := true, recurses := true, apart := false }
def OrderQueuesSaid : Prop := orderQueuesRow.holds Try.pinned (OpenSpec.ofChange orderQueuesSpec)

/-- ITS FALSE NEIGHBOUR: 'it returns false'. Refute it at one input. -/
def orderQueuesWrong : ChangeSpec := { name := "orderQueues", fn := fun _ => fun
  | [d] => { results := [.lit (.bool false)], args := [d] }
  | _ => none }
def OrderQueuesWrongFalsely : Prop := orderQueuesRow.holds Try.pinned (OpenSpec.ofChange orderQueuesWrong)

/-- 'prebendlaw15.OrderSorted': WHATEVER THE INPUT: true; the input reads as it did. -/
def orderSortedSpec : ChangeSpec := { name := "orderSorted", fn := fun _ => fun
  | [d] => { results := [.lit (.bool true)], args := [d] }
  | _ => none }
def orderSortedRow : OpenClaim := { program := "ytkhfgflcanmefaa", sum := "c2d8d7db853cbbfc5fa3bce97a1bc56578542411555bcc5eabd4ca90cd374d51", func := "prebend/prebendlaw15.OrderSorted", spec := "orderSorted", unfollowed := true, recurses := true, apart := false }
def OrderSortedSaid : Prop := orderSortedRow.holds Try.pinned (OpenSpec.ofChange orderSortedSpec)

/-- ITS FALSE NEIGHBOUR: 'it returns false'. Refute it at one input. -/
def orderSortedWrong : ChangeSpec := { name := "orderSorted", fn := fun _ => fun
  | [d] => { results := [.lit (.bool false)], args := [d] }
  | _ => none }
def OrderSortedWrongFalsely : Prop := orderSortedRow.holds Try.pinned (OpenSpec.ofChange orderSortedWrong)

/-- 'prebendlaw15.OrderLess': WHATEVER THE INPUT: true; the input reads as it did. -/
def orderLessSpec : ChangeSpec := { name := "orderLess", fn := fun _ => fun
  | [d1, d2] => { results := [.lit (.bool true)], args := [d1, d2] }
  | _ => none }
def orderLessRow : OpenClaim := { program := "ytkhfgflcanmefaa", sum := "c2d8d7db853cbbfc5fa3bce97a1bc56578542411555bcc5eabd4ca90cd374d51", func := "prebend/prebendlaw15.OrderLess", spec := "orderLess", unfollowed := true, recurses := true, apart := false }
def OrderLessSaid : Prop := orderLessRow.holds Try.pinned (OpenSpec.ofChange orderLessSpec)

/-- ITS FALSE NEIGHBOUR: 'it returns false'. Refute it at one input. -/
def orderLessWrong : ChangeSpec := { name := "orderLess", fn := fun _ => fun
  | [d1, d2] => { results := [.lit (.bool false)], args := [d1, d2] }
  | _ => none }
def OrderLessWrongFalsely : Prop := orderLessRow.holds Try.pinned (OpenSpec.ofChange orderLessWrong)

/-- 'prebendlaw19.JobReads': WHATEVER THE INPUT: true; the input reads as it did. -/
def jobReadsSpec : ChangeSpec := { name := "jobReads", fn := fun _ => fun
  | [d1, d2, d3] => { results := [.lit (.bool true)], args := [d1, d2, d3] }
  | _ => none }
def jobReadsRow : OpenClaim := { program := "ytkhfgflcanmefaa", sum := "c2d8d7db853cbbfc5fa3bce97a1bc56578542411555bcc5eabd4ca90cd374d51", func := "prebend/prebendlaw19.JobReads", spec := "jobReads", unfollowed := true, recurses := true, apart := false }
def JobReadsSaid : Prop := jobReadsRow.holds Try.pinned (OpenSpec.ofChange jobReadsSpec)

/-- ITS FALSE NEIGHBOUR: 'it returns false'. Refute it at one input. -/
def jobReadsWrong : ChangeSpec := { name := "jobReads", fn := fun _ => fun
  | [d1, d2, d3] => { results := [.lit (.bool false)], args := [d1, d2, d3] }
  | _ => none }
def JobReadsWrongFalsely : Prop := jobReadsRow.holds Try.pinned (OpenSpec.ofChange jobReadsWrong)

/-- 'prebendlaw19.JobEnds': WHATEVER THE INPUT: true; the input reads as it did. -/
def jobEndsSpec : ChangeSpec := { name := "jobEnds", fn := fun _ => fun
  | [d1, d2, d3] => { results := [.lit (.bool true)], args := [d1, d2, d3] }
  | _ => none }
def jobEndsRow : OpenClaim := { program := "ytkhfgflcanmefaa", sum := "c2d8d7db853cbbfc5fa3bce97a1bc56578542411555bcc5eabd4ca90cd374d51", func := "prebend/prebendlaw19.JobEnds", spec := "jobEnds", unfollowed := true, recurses := true, apart := false }
def JobEndsSaid : Prop := jobEndsRow.holds Try.pinned (OpenSpec.ofChange jobEndsSpec)

/-- ITS FALSE NEIGHBOUR: 'it returns false'. Refute it at one input. -/
def jobEndsWrong : ChangeSpec := { name := "jobEnds", fn := fun _ => fun
  | [d1, d2, d3] => { results := [.lit (.bool false)], args := [d1, d2, d3] }
  | _ => none }
def JobEndsWrongFalsely : Prop := jobEndsRow.holds Try.pinned (OpenSpec.ofChange jobEndsWrong)

/-- 'prebendlaw19.JobApart': WHATEVER THE INPUT: true; the input reads as it did. -/
def jobApartSpec : ChangeSpec := { name := "jobApart", fn := fun _ => fun
  | [d1, d2] => { results := [.lit (.bool true)], args := [d1, d2] }
  | _ => none }
def jobApartRow : OpenClaim := { program := "ytkhfgflcanmefaa", sum := "c2d8d7db853cbbfc5fa3bce97a1bc56578542411555bcc5eabd4ca90cd374d51", func := "prebend/prebendlaw19.JobApart", spec := "jobApart", unfollowed := true, recurses := true, apart := false }
def JobApartSaid : Prop := jobApartRow.holds Try.pinned (OpenSpec.ofChange jobApartSpec)

/-- ITS FALSE NEIGHBOUR: 'it returns false'. Refute it at one input. -/
def jobApartWrong : ChangeSpec := { name := "jobApart", fn := fun _ => fun
  | [d1, d2] => { results := [.lit (.bool false)], args := [d1, d2] }
  | _ => none }
def JobApartWrongFalsely : Prop := jobApartRow.holds Try.pinned (OpenSpec.ofChange jobApartWrong)

/- THE SECOND FORM. 'bulk': how many values and letters a reading holds, each counted each time it is reached (what is shared counts as often as it is met; a slice's spare places count too). A statement '..UptoSaid' is the law's where the arguments, and the package variables that the reading takes, are together of bulk at most 1048576: NARROWER than '..Said'. Prove '..Said' where nothing that the law and all that it calls make is longer than what came in: it says more and counts as full. Else prove '..UptoSaid'. A law counts once. -/
mutual
def uptoBulk {H : Type} : DataW H → Nat
  | .lit (.string bytes) => bytes.length + 1
  | .lit _ => 1
  | .nil => 1
  | .ptr d => uptoBulk d + 1
  | .slice elems spare => uptoBulkAll elems + uptoBulkAll spare + 1
  | .agg parts => uptoBulkAll parts + 1
  | .iface _ d => uptoBulk d + 1
  | .map entries => uptoBulkEntries entries + 1
  | .held _ => 1
def uptoBulkAll {H : Type} : List (DataW H) → Nat
  | [] => 0
  | d :: r => uptoBulk d + uptoBulkAll r
def uptoBulkEntries {H : Type} : List (Lit × DataW H) → Nat
  | [] => 0
  | x :: r => uptoBulkEntry x + uptoBulkEntries r
def uptoBulkEntry {H : Type} : Lit × DataW H → Nat
  | (.string bytes, d) => bytes.length + uptoBulk d + 1
  | (_, d) => uptoBulk d + 1
 end
def uptoSmall : (H : Type) → List (DataW H) → Bool := fun _ ds => decide (uptoBulkAll ds ≤ 1048576)
def OpenSpec.upto (s : _root_.Go.ChangeSpec) : _root_.Go.OpenSpec := { _root_.Go.OpenSpec.ofChange s with cond := some uptoSmall }

/-- 'prebendlaw15.OrderQueues', WHERE WHAT IT READS IS OF BULK AT MOST 1048576: true; the input reads as it did. -/
def orderQueuesUptoRow : OpenClaim := { program := "ytkhfgflcanmefaa", sum := "c2d8d7db853cbbfc5fa3bce97a1bc56578542411555bcc5eabd4ca90cd374d51", func := "prebend/prebendlaw15.OrderQueues", spec := "orderQueues", unfollowed := true, recurses := true, apart := false, narrowed := true }
def OrderQueuesUptoSaid : Prop := orderQueuesUptoRow.holds Try.pinned (OpenSpec.upto orderQueuesSpec)

/-- 'prebendlaw15.OrderSorted', WHERE WHAT IT READS IS OF BULK AT MOST 1048576: true; the input reads as it did. -/
def orderSortedUptoRow : OpenClaim := { program := "ytkhfgflcanmefaa", sum := "c2d8d7db853cbbfc5fa3bce97a1bc56578542411555bcc5eabd4ca90cd374d51", func := "prebend/prebendlaw15.OrderSorted", spec := "orderSorted", unfollowed := true, recurses := true, apart := false, narrowed := true }
def OrderSortedUptoSaid : Prop := orderSortedUptoRow.holds Try.pinned (OpenSpec.upto orderSortedSpec)

/-- 'prebendlaw15.OrderLess', WHERE WHAT IT READS IS OF BULK AT MOST 1048576: true; the input reads as it did. -/
def orderLessUptoRow : OpenClaim := { program := "ytkhfgflcanmefaa", sum := "c2d8d7db853cbbfc5fa3bce97a1bc56578542411555bcc5eabd4ca90cd374d51", func := "prebend/prebendlaw15.OrderLess", spec := "orderLess", unfollowed := true, recurses := true, apart := false, narrowed := true }
def OrderLessUptoSaid : Prop := orderLessUptoRow.holds Try.pinned (OpenSpec.upto orderLessSpec)

/-- 'prebendlaw19.JobReads', WHERE WHAT IT READS IS OF BULK AT MOST 1048576: true; the input reads as it did. -/
def jobReadsUptoRow : OpenClaim := { program := "ytkhfgflcanmefaa", sum := "c2d8d7db853cbbfc5fa3bce97a1bc56578542411555bcc5eabd4ca90cd374d51", func := "prebend/prebendlaw19.JobReads", spec := "jobReads", unfollowed := true, recurses := true, apart := false, narrowed := true }
def JobReadsUptoSaid : Prop := jobReadsUptoRow.holds Try.pinned (OpenSpec.upto jobReadsSpec)

/-- 'prebendlaw19.JobEnds', WHERE WHAT IT READS IS OF BULK AT MOST 1048576: true; the input reads as it did. -/
def jobEndsUptoRow : OpenClaim := { program := "ytkhfgflcanmefaa", sum := "c2d8d7db853cbbfc5fa3bce97a1bc56578542411555bcc5eabd4ca90cd374d51", func := "prebend/prebendlaw19.JobEnds", spec := "jobEnds", unfollowed := true, recurses := true, apart := false, narrowed := true }
def JobEndsUptoSaid : Prop := jobEndsUptoRow.holds Try.pinned (OpenSpec.upto jobEndsSpec)

/-- 'prebendlaw19.JobApart', WHERE WHAT IT READS IS OF BULK AT MOST 1048576: true; the input reads as it did. -/
def jobApartUptoRow : OpenClaim := { program := "ytkhfgflcanmefaa", sum := "c2d8d7db853cbbfc5fa3bce97a1bc56578542411555bcc5eabd4ca90cd374d51", func := "prebend/prebendlaw19.JobApart", spec := "jobApart", unfollowed := true, recurses := true, apart := false, narrowed := true }
def JobApartUptoSaid : Prop := jobApartUptoRow.holds Try.pinned (OpenSpec.upto jobApartSpec)

end Rows
end Go.Proofs.Ytkhfgflcanmefaa
