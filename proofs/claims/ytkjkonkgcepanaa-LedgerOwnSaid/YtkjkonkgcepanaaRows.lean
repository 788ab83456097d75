/-
  No cell of these rows narrows 'for every input' (looked for: loops, veiled, ifaces, maps, wideKeys, modest, calm, conditions, laid).
  DERIVED. THE GIVEN ROWS OF THIS SEAT. 5 by the template 'for every input the law returns true; each argument reads behind the call as it read before'; 0 by the template 'total and deterministic' (their statements: YtkjkonkgcepanaaTotals.lean).
  GIVEN WITH THE SEED: the statements are not yours to turn. If you find one false, say at which input.
  Laid BY PROGRAM, IN A SANDBOX (cutbox-rows.mjs): the forced cells as the released guide's own fill.sh prints them over the translation 1a0489f353c73648… (all of the seat's roots in one cut). By AI agents, Wed Nov 11 2026. No macro, syntax, notation, axiom, sorry.
-/
import Derived.Test.YtkjkonkgcepanaaChecked
import GoSem.Claim
import GoSem.ClaimJoined
import GoSem.ClaimMapViews
import Derived.JoinedTies
import Derived.KernelRfl
namespace Go.Proofs.Ytkjkonkgcepanaa
/- THE CELL 'sum', in the pinned program and in every row, IS THE sha256 OF THE DUMP (.gsa) THAT YtkjkonkgcepanaaProg.lean LOADS. Nothing in Lean hashes anything: it is a label: what it is worth is what the hold of that sum in a sandbox is worth. -/
noncomputable def Try.pinned : Pinned := { name := "ytkjkonkgcepanaa", sum := "1a0489f353c73648cba0f0c6b918513611355c195234f97f16c337d508d42bac", checked := Try.checked }
namespace Rows
def none {H : Type} : Left H := { results := [], args := [] }

/-- 'prebendlaw09.LedgerPosts': WHATEVER THE INPUT: true; the input reads as it did. -/
def ledgerPostsSpec : ChangeSpec := { name := "ledgerPosts", fn := fun _ => fun
  | [d1, d2, d3] => { results := [.lit (.bool true)], args := [d1, d2, d3] }
  | _ => none }
def ledgerPostsRow : OpenClaim := { program := "ytkjkonkgcepanaa", sum := "1a0489f353c73648cba0f0c6b918513611355c195234f97f16c337d508d42bac", func := "prebend/prebendlaw09.LedgerPosts", spec := "ledgerPosts", apart := false }
def LedgerPostsSaid : Prop := ledgerPostsRow.holds Try.pinned (OpenSpec.ofChange ledgerPostsSpec)

/-- ITS FALSE NEIGHBOUR: 'it returns false'. Refute it at one input. -/
def ledgerPostsWrong : ChangeSpec := { name := "ledgerPosts", fn := fun _ => fun
  | [d1, d2, d3] => { results := [.lit (.bool false)], args := [d1, d2, d3] }
  | _ => none }
def LedgerPostsWrongFalsely : Prop := ledgerPostsRow.holds Try.pinned (OpenSpec.ofChange ledgerPostsWrong)

/-- 'prebendlaw09.LedgerZero': WHATEVER THE INPUT: true; the input reads as it did. -/
def ledgerZeroSpec : ChangeSpec := { name := "ledgerZero", fn := fun _ => fun
  | [d1, d2, d3] => { results := [.lit (.bool true)], args := [d1, d2, d3] }
  | _ => none }
def ledgerZeroRow : OpenClaim := { program := "ytkjkonkgcepanaa", sum := "1a0489f353c73648cba0f0c6b918513611355c195234f97f16c337d508d42bac", func := "prebend/prebendlaw09.LedgerZero", spec := "ledgerZero", apart := false }
def LedgerZeroSaid : Prop := ledgerZeroRow.holds Try.pinned (OpenSpec.ofChange ledgerZeroSpec)

/-- ITS FALSE NEIGHBOUR: 'it returns false'. Refute it at one input. -/
def ledgerZeroWrong : ChangeSpec := { name := "ledgerZero", fn := fun _ => fun
  | [d1, d2, d3] => { results := [.lit (.bool false)], args := [d1, d2, d3] }
  | _ => none }
def LedgerZeroWrongFalsely : Prop := ledgerZeroRow.holds Try.pinned (OpenSpec.ofChange ledgerZeroWrong)

/-- 'prebendlaw09.LedgerBack': WHATEVER THE INPUT: true; the input reads as it did. -/
def ledgerBackSpec : ChangeSpec := { name := "ledgerBack", fn := fun _ => fun
  | [d1, d2, d3] => { results := [.lit (.bool true)], args := [d1, d2, d3] }
  | _ => none }
def ledgerBackRow : OpenClaim := { program := "ytkjkonkgcepanaa", sum := "1a0489f353c73648cba0f0c6b918513611355c195234f97f16c337d508d42bac", func := "prebend/prebendlaw09.LedgerBack", spec := "ledgerBack", apart := false }
def LedgerBackSaid : Prop := ledgerBackRow.holds Try.pinned (OpenSpec.ofChange ledgerBackSpec)

/-- ITS FALSE NEIGHBOUR: 'it returns false'. Refute it at one input. -/
def ledgerBackWrong : ChangeSpec := { name := "ledgerBack", fn := fun _ => fun
  | [d1, d2, d3] => { results := [.lit (.bool false)], args := [d1, d2, d3] }
  | _ => none }
def LedgerBackWrongFalsely : Prop := ledgerBackRow.holds Try.pinned (OpenSpec.ofChange ledgerBackWrong)

/-- 'prebendlaw09.LedgerOwn': WHATEVER THE INPUT: true; the input reads as it did. -/
def ledgerOwnSpec : ChangeSpec := { name := "ledgerOwn", fn := fun _ => fun
  | [d1, d2, d3] => { results := [.lit (.bool true)], args := [d1, d2, d3] }
  | _ => none }
def ledgerOwnRow : OpenClaim := { program := "ytkjkonkgcepanaa", sum := "1a0489f353c73648cba0f0c6b918513611355c195234f97f16c337d508d42bac", func := "prebend/prebendlaw09.LedgerOwn", spec := "ledgerOwn", apart := false }
def LedgerOwnSaid : Prop := ledgerOwnRow.holds Try.pinned (OpenSpec.ofChange ledgerOwnSpec)

/-- ITS FALSE NEIGHBOUR: 'it returns false'. Refute it at one input. -/
def ledgerOwnWrong : ChangeSpec := { name := "ledgerOwn", fn := fun _ => fun
  | [d1, d2, d3] => { results := [.lit (.bool false)], args := [d1, d2, d3] }
  | _ => none }
def LedgerOwnWrongFalsely : Prop := ledgerOwnRow.holds Try.pinned (OpenSpec.ofChange ledgerOwnWrong)

/-- 'prebendlaw09.LedgerReads': WHATEVER THE INPUT: true; the input reads as it did. -/
def ledgerReadsSpec : ChangeSpec := { name := "ledgerReads", fn := fun _ => fun
  | [d1, d2, d3] => { results := [.lit (.bool true)], args := [d1, d2, d3] }
  | _ => none }
def ledgerReadsRow : OpenClaim := { program := "ytkjkonkgcepanaa", sum := "1a0489f353c73648cba0f0c6b918513611355c195234f97f16c337d508d42bac", func := "prebend/prebendlaw09.LedgerReads", spec := "ledgerReads", apart := false }
def LedgerReadsSaid : Prop := ledgerReadsRow.holds Try.pinned (OpenSpec.ofChange ledgerReadsSpec)

/-- ITS FALSE NEIGHBOUR: 'it returns false'. Refute it at one input. -/
def ledgerReadsWrong : ChangeSpec := { name := "ledgerReads", fn := fun _ => fun
  | [d1, d2, d3] => { results := [.lit (.bool false)], args := [d1, d2, d3] }
  | _ => none }
def LedgerReadsWrongFalsely : Prop := ledgerReadsRow.holds Try.pinned (OpenSpec.ofChange ledgerReadsWrong)

/- THE SECOND FORM. 'bulk': how many values and letters a reading holds, each counted each time it is reached (what is shared counts as often as it is met; a slice's spare places count too). A statement '..UptoSaid' is the law's where the arguments, and the package variables that the reading takes, are together of bulk at most 1048576: NARROWER than '..Said'. Prove '..Said' where nothing that the law and all that it calls make is longer than what came in: it says more and counts as full. Else prove '..UptoSaid'. A law counts once. -/
mutual
def uptoBulk {H : Type} : DataW H → Nat
  | .lit (.string bytes) => bytes.length + 1
  | .lit _ => 1
  | .nil => 1
  | .ptr d => uptoBulk d + 1
  | .slice elems spare => uptoBulkAll elems + uptoBulkAll spare + 1
  | .agg parts => uptoBulkAll parts + 1
  | .iface _ d => uptoBulk d + 1
  | .map entries => uptoBulkEntries entries + 1
  | .held _ => 1
def uptoBulkAll {H : Type} : List (DataW H) → Nat
  | [] => 0
  | d :: r => uptoBulk d + uptoBulkAll r
def uptoBulkEntries {H : Type} : List (Lit × DataW H) → Nat
  | [] => 0
  | x :: r => uptoBulkEntry x + uptoBulkEntries r
def uptoBulkEntry {H : Type} : Lit × DataW H → Nat
  | (.string bytes, d) => bytes.length + uptoBulk d + 1
  | (_, d) => uptoBulk d + 1
 end
def uptoSmall : (H : Type) → List (DataW H) → Bool := fun _ ds => decide (uptoBulkAll ds ≤ 1048576)
def OpenSpec.upto (s : _root_.Go.ChangeSpec) : _root_.Go.OpenSpec := { _root_.Go.OpenSpec.ofChange s with cond := some uptoSmall }

/-- 'prebendlaw09.LedgerPosts', WHERE WHAT IT READS IS OF BULK AT MOST 1048576: true; the input reads as it did. -/
def ledgerPostsUptoRow : OpenClaim := { program := "ytkjkonkgcepanaa", sum := "1a0489f353c73648cba0f0c6b918513611355c195234f97f16c337d508d42bac", func := "prebend/prebendlaw09.LedgerPosts", spec := "ledgerPosts", apart := false, narrowed := true }
def LedgerPostsUptoSaid : Prop := ledgerPostsUptoRow.holds Try.pinned (OpenSpec.upto ledgerPostsSpec)

/-- 'prebendlaw09.LedgerZero', WHERE WHAT IT READS IS OF BULK AT MOST 1048576: true; the input reads as it did. -/
def ledgerZeroUptoRow : OpenClaim := { program := "ytkjkonkgcepanaa", sum := "1a0489f353c73648cba0f0c6b918513611355c195234f97f16c337d508d42bac", func := "prebend/prebendlaw09.LedgerZero", spec := "ledgerZero", apart := false, narrowed := true }
def LedgerZeroUptoSaid : Prop := ledgerZeroUptoRow.holds Try.pinned (OpenSpec.upto ledgerZeroSpec)

/-- 'prebendlaw09.LedgerBack', WHERE WHAT IT READS IS OF BULK AT MOST 1048576: true; the input reads as it did. -/
def ledgerBackUptoRow : OpenClaim := { program := "ytkjkonkgcepanaa", sum := "1a0489f353c73648cba0f0c6b918513611355c195234f97f16c337d508d42bac", func := "prebend/prebendlaw09.LedgerBack", spec := "ledgerBack", apart := false, narrowed := true }
def LedgerBackUptoSaid : Prop := ledgerBackUptoRow.holds Try.pinned (OpenSpec.upto ledgerBackSpec)

/-- 'prebendlaw09.LedgerOwn', WHERE WHAT IT READS IS OF BULK AT MOST 1048576: true; the input reads as it did. -/
def ledgerOwnUptoRow : OpenClaim := { program := "ytkjkonkgcepanaa", sum := "1a0489f353c73648cba0f0c6b918513611355c195234f97f16c337d508d42bac", func := "prebend/prebendlaw09.LedgerOwn", spec := "ledgerOwn", apart := false, narrowed := true }
def LedgerOwnUptoSaid : Prop := ledgerOwnUptoRow.holds Try.pinned (OpenSpec.upto ledgerOwnSpec)

/-- 'prebendlaw09.LedgerReads', WHERE WHAT IT READS IS OF BULK AT MOST 1048576: true; the input reads as it did. -/
def ledgerReadsUptoRow : OpenClaim := { program := "ytkjkonkgcepanaa", sum := "1a0489f353c73648cba0f0c6b918513611355c195234f97f16c337d508d42bac", func := "prebend/prebendlaw09.LedgerReads", spec := "ledgerReads", apart := false, narrowed := true }
def LedgerReadsUptoSaid : Prop := ledgerReadsUptoRow.holds Try.pinned (OpenSpec.upto ledgerReadsSpec)

end Rows
end Go.Proofs.Ytkjkonkgcepanaa
