/-
  No cell of these rows narrows 'for every input' (looked for: loops, veiled, ifaces, maps, wideKeys, modest, calm, conditions, laid).
  DERIVED. THE GIVEN ROWS OF THIS SEAT. 13 by the template 'for every input the law returns true; each argument reads behind the call as it read before'; 0 by the template 'total and deterministic' (their statements: YtjmkpcnekghmhaaTotals.lean).
  GIVEN WITH THE SEED: the statements are not yours to turn. If you find one false, say at which input.
  Laid BY PROGRAM, IN A SANDBOX (cutbox-rows.mjs): the forced cells as the released guide's own fill.sh prints them over the translation 086238131b677dd6… (all of the seat's roots in one cut). By AI agents, Wed Nov 11 2026. No macro, syntax, notation, axiom, sorry.
-/
import Derived.Test.YtjmkpcnekghmhaaChecked
import GoSem.Claim
import GoSem.ClaimJoined
import GoSem.ClaimMapViews
import Derived.JoinedTies
import Derived.KernelRfl
namespace Go.Proofs.Ytjmkpcnekghmhaa
/- THE CELL 'sum', in the pinned program and in every row, IS THE sha256 OF THE DUMP (.gsa) THAT YtjmkpcnekghmhaaProg.lean LOADS. Nothing in Lean hashes anything: it is a label: what it is worth is what the hold of that sum in a sandbox is worth. -/
noncomputable def Try.pinned : Pinned := { name := "ytjmkpcnekghmhaa", sum := "086238131b677dd60c154148983a7c6d84617af3d5ffade092c3c857fb964888", checked := Try.checked }
namespace Rows
def none {H : Type} : Left H := { results := [], args := [] }

/-- 'prebendlaw03.OctetPuts': WHATEVER THE INPUT: true; the input reads as it did. -/
def octetPutsSpec : ChangeSpec := { name := "octetPuts", fn := fun _ => fun
  | [d1, d2, d3] => { results := [.lit (.bool true)], args := [d1, d2, d3] }
  | _ => none }
def octetPutsRow : OpenClaim := { program := "ytjmkpcnekghmhaa", sum := "086238131b677dd60c154148983a7c6d84617af3d5ffade092c3c857fb964888", func := "prebend/prebendlaw03.OctetPuts", spec := "octetPuts", apart := false }
def OctetPutsSaid : Prop := octetPutsRow.holds Try.pinned (OpenSpec.ofChange octetPutsSpec)

/-- ITS FALSE NEIGHBOUR: 'it returns false'. Refute it at one input. -/
def octetPutsWrong : ChangeSpec := { name := "octetPuts", fn := fun _ => fun
  | [d1, d2, d3] => { results := [.lit (.bool false)], args := [d1, d2, d3] }
  | _ => none }
def OctetPutsWrongFalsely : Prop := octetPutsRow.holds Try.pinned (OpenSpec.ofChange octetPutsWrong)

/-- 'prebendlaw03.OctetReads': WHATEVER THE INPUT: true; the input reads as it did. -/
def octetReadsSpec : ChangeSpec := { name := "octetReads", fn := fun _ => fun
  | [d1, d2] => { results := [.lit (.bool true)], args := [d1, d2] }
  | _ => none }
def octetReadsRow : OpenClaim := { program := "ytjmkpcnekghmhaa", sum := "086238131b677dd60c154148983a7c6d84617af3d5ffade092c3c857fb964888", func := "prebend/prebendlaw03.OctetReads", spec := "octetReads", apart := false }
def OctetReadsSaid : Prop := octetReadsRow.holds Try.pinned (OpenSpec.ofChange octetReadsSpec)

/-- ITS FALSE NEIGHBOUR: 'it returns false'. Refute it at one input. -/
def octetReadsWrong : ChangeSpec := { name := "octetReads", fn := fun _ => fun
  | [d1, d2] => { results := [.lit (.bool false)], args := [d1, d2] }
  | _ => none }
def OctetReadsWrongFalsely : Prop := octetReadsRow.holds Try.pinned (OpenSpec.ofChange octetReadsWrong)

/-- 'prebendlaw03.OctetBack': WHATEVER THE INPUT: true; the input reads as it did. -/
def octetBackSpec : ChangeSpec := { name := "octetBack", fn := fun _ => fun
  | [d1, d2, d3] => { results := [.lit (.bool true)], args := [d1, d2, d3] }
  | _ => none }
def octetBackRow : OpenClaim := { program := "ytjmkpcnekghmhaa", sum := "086238131b677dd60c154148983a7c6d84617af3d5ffade092c3c857fb964888", func := "prebend/prebendlaw03.OctetBack", spec := "octetBack", apart := false }
def OctetBackSaid : Prop := octetBackRow.holds Try.pinned (OpenSpec.ofChange octetBackSpec)

/-- ITS FALSE NEIGHBOUR: 'it returns false'. Refute it at one input. -/
def octetBackWrong : ChangeSpec := { name := "octetBack", fn := fun _ => fun
  | [d1, d2, d3] => { results := [.lit (.bool false)], args := [d1, d2, d3] }
  | _ => none }
def OctetBackWrongFalsely : Prop := octetBackRow.holds Try.pinned (OpenSpec.ofChange octetBackWrong)

/-- 'prebendlaw03.OctetOwn': WHATEVER THE INPUT: true; the input reads as it did. -/
def octetOwnSpec : ChangeSpec := { name := "octetOwn", fn := fun _ => fun
  | [d1, d2, d3, d4] => { results := [.lit (.bool true)], args := [d1, d2, d3, d4] }
  | _ => none }
def octetOwnRow : OpenClaim := { program := "ytjmkpcnekghmhaa", sum := "086238131b677dd60c154148983a7c6d84617af3d5ffade092c3c857fb964888", func := "prebend/prebendlaw03.OctetOwn", spec := "octetOwn", apart := false }
def OctetOwnSaid : Prop := octetOwnRow.holds Try.pinned (OpenSpec.ofChange octetOwnSpec)

/-- ITS FALSE NEIGHBOUR: 'it returns false'. Refute it at one input. -/
def octetOwnWrong : ChangeSpec := { name := "octetOwn", fn := fun _ => fun
  | [d1, d2, d3, d4] => { results := [.lit (.bool false)], args := [d1, d2, d3, d4] }
  | _ => none }
def OctetOwnWrongFalsely : Prop := octetOwnRow.holds Try.pinned (OpenSpec.ofChange octetOwnWrong)

/-- 'prebendlaw03.OctetNone': WHATEVER THE INPUT: true; the input reads as it did. -/
def octetNoneSpec : ChangeSpec := { name := "octetNone", fn := fun _ => fun
  | [d] => { results := [.lit (.bool true)], args := [d] }
  | _ => none }
def octetNoneRow : OpenClaim := { program := "ytjmkpcnekghmhaa", sum := "086238131b677dd60c154148983a7c6d84617af3d5ffade092c3c857fb964888", func := "prebend/prebendlaw03.OctetNone", spec := "octetNone", apart := false }
def OctetNoneSaid : Prop := octetNoneRow.holds Try.pinned (OpenSpec.ofChange octetNoneSpec)

/-- ITS FALSE NEIGHBOUR: 'it returns false'. Refute it at one input. -/
def octetNoneWrong : ChangeSpec := { name := "octetNone", fn := fun _ => fun
  | [d] => { results := [.lit (.bool false)], args := [d] }
  | _ => none }
def OctetNoneWrongFalsely : Prop := octetNoneRow.holds Try.pinned (OpenSpec.ofChange octetNoneWrong)

/-- 'prebendlaw12.EntryEncodes': WHATEVER THE INPUT: true; the input reads as it did. -/
def entryEncodesSpec : ChangeSpec := { name := "entryEncodes", fn := fun _ => fun
  | [d] => { results := [.lit (.bool true)], args := [d] }
  | _ => none }
def entryEncodesRow : OpenClaim := { program := "ytjmkpcnekghmhaa", sum := "086238131b677dd60c154148983a7c6d84617af3d5ffade092c3c857fb964888", func := "prebend/prebendlaw12.EntryEncodes", spec := "entryEncodes", apart := false }
def EntryEncodesSaid : Prop := entryEncodesRow.holds Try.pinned (OpenSpec.ofChange entryEncodesSpec)

/-- ITS FALSE NEIGHBOUR: 'it returns false'. Refute it at one input. -/
def entryEncodesWrong : ChangeSpec := { name := "entryEncodes", fn := fun _ => fun
  | [d] => { results := [.lit (.bool false)], args := [d] }
  | _ => none }
def EntryEncodesWrongFalsely : Prop := entryEncodesRow.holds Try.pinned (OpenSpec.ofChange entryEncodesWrong)

/-- 'prebendlaw12.EntryDecodes': WHATEVER THE INPUT: true; the input reads as it did. -/
def entryDecodesSpec : ChangeSpec := { name := "entryDecodes", fn := fun _ => fun
  | [d] => { results := [.lit (.bool true)], args := [d] }
  | _ => none }
def entryDecodesRow : OpenClaim := { program := "ytjmkpcnekghmhaa", sum := "086238131b677dd60c154148983a7c6d84617af3d5ffade092c3c857fb964888", func := "prebend/prebendlaw12.EntryDecodes", spec := "entryDecodes", apart := false }
def EntryDecodesSaid : Prop := entryDecodesRow.holds Try.pinned (OpenSpec.ofChange entryDecodesSpec)

/-- ITS FALSE NEIGHBOUR: 'it returns false'. Refute it at one input. -/
def entryDecodesWrong : ChangeSpec := { name := "entryDecodes", fn := fun _ => fun
  | [d] => { results := [.lit (.bool false)], args := [d] }
  | _ => none }
def EntryDecodesWrongFalsely : Prop := entryDecodesRow.holds Try.pinned (OpenSpec.ofChange entryDecodesWrong)

/-- 'prebendlaw12.EntryBack': WHATEVER THE INPUT: true; the input reads as it did. -/
def entryBackSpec : ChangeSpec := { name := "entryBack", fn := fun _ => fun
  | [d1, d2, d3] => { results := [.lit (.bool true)], args := [d1, d2, d3] }
  | _ => none }
def entryBackRow : OpenClaim := { program := "ytjmkpcnekghmhaa", sum := "086238131b677dd60c154148983a7c6d84617af3d5ffade092c3c857fb964888", func := "prebend/prebendlaw12.EntryBack", spec := "entryBack", apart := false }
def EntryBackSaid : Prop := entryBackRow.holds Try.pinned (OpenSpec.ofChange entryBackSpec)

/-- ITS FALSE NEIGHBOUR: 'it returns false'. Refute it at one input. -/
def entryBackWrong : ChangeSpec := { name := "entryBack", fn := fun _ => fun
  | [d1, d2, d3] => { results := [.lit (.bool false)], args := [d1, d2, d3] }
  | _ => none }
def EntryBackWrongFalsely : Prop := entryBackRow.holds Try.pinned (OpenSpec.ofChange entryBackWrong)

/-- 'prebendlaw12.EntryUnlike': WHATEVER THE INPUT: true; the input reads as it did. -/
def entryUnlikeSpec : ChangeSpec := { name := "entryUnlike", fn := fun _ => fun
  | [d1, d2] => { results := [.lit (.bool true)], args := [d1, d2] }
  | _ => none }
def entryUnlikeRow : OpenClaim := { program := "ytjmkpcnekghmhaa", sum := "086238131b677dd60c154148983a7c6d84617af3d5ffade092c3c857fb964888", func := "prebend/prebendlaw12.EntryUnlike", spec := "entryUnlike", apart := false }
def EntryUnlikeSaid : Prop := entryUnlikeRow.holds Try.pinned (OpenSpec.ofChange entryUnlikeSpec)

/-- ITS FALSE NEIGHBOUR: 'it returns false'. Refute it at one input. -/
def entryUnlikeWrong : ChangeSpec := { name := "entryUnlike", fn := fun _ => fun
  | [d1, d2] => { results := [.lit (.bool false)], args := [d1, d2] }
  | _ => none }
def EntryUnlikeWrongFalsely : Prop := entryUnlikeRow.holds Try.pinned (OpenSpec.ofChange entryUnlikeWrong)

/-- 'prebendlaw13.SnapEncodes': WHATEVER THE INPUT: true; the input reads as it did. -/
def snapEncodesSpec : ChangeSpec := { name := "snapEncodes", fn := fun _ => fun
  | [d] => { results := [.lit (.bool true)], args := [d] }
  | _ => none }
def snapEncodesRow : OpenClaim := { program := "ytjmkpcnekghmhaa", sum := "086238131b677dd60c154148983a7c6d84617af3d5ffade092c3c857fb964888", func := "prebend/prebendlaw13.SnapEncodes", spec := "snapEncodes", unfollowed := true, recurses := true, apart := false }
def SnapEncodesSaid : Prop := snapEncodesRow.holds Try.pinned (OpenSpec.ofChange snapEncodesSpec)

/-- ITS FALSE NEIGHBOUR: 'it returns false'. Refute it at one input. -/
def snapEncodesWrong : ChangeSpec := { name := "snapEncodes", fn := fun _ => fun
  | [d] => { results := [.lit (.bool false)], args := [d] }
  | _ => none }
def SnapEncodesWrongFalsely : Prop := snapEncodesRow.holds Try.pinned (OpenSpec.ofChange snapEncodesWrong)

/-- 'prebendlaw13.SnapDecodes': WHATEVER THE INPUT: true; the input reads as it did. -/
def snapDecodesSpec : ChangeSpec := { name := "snapDecodes", fn := fun _ => fun
  | [d] => { results := [.lit (.bool true)], args := [d] }
  | _ => none }
def snapDecodesRow : OpenClaim := { program := "ytjmkpcnekghmhaa", sum := "086238131b677dd60c154148983a7c6d84617af3d5ffade092c3c857fb964888", func := "prebend/prebendlaw13.SnapDecodes", spec := "snapDecodes", unfollowed := true, recurses := true, apart := false }
def SnapDecodesSaid : Prop := snapDecodesRow.holds Try.pinned (OpenSpec.ofChange snapDecodesSpec)

/-- ITS FALSE NEIGHBOUR: 'it returns false'. Refute it at one input. -/
def snapDecodesWrong : ChangeSpec := { name := "snapDecodes", fn := fun _ => fun
  | [d] => { results := [.lit (.bool false)], args := [d] }
  | _ => none }
def SnapDecodesWrongFalsely : Prop := snapDecodesRow.holds Try.pinned (OpenSpec.ofChange snapDecodesWrong)

/-- 'prebendlaw13.SnapBack': WHATEVER THE INPUT: true; the input reads as it did. -/
def snapBackSpec : ChangeSpec := { name := "snapBack", fn := fun _ => fun
  | [d1, d2, d3, d4] => { results := [.lit (.bool true)], args := [d1, d2, d3, d4] }
  | _ => none }
def snapBackRow : OpenClaim := { program := "ytjmkpcnekghmhaa", sum := "086238131b677dd60c154148983a7c6d84617af3d5ffade092c3c857fb964888", func := "prebend/prebendlaw13.SnapBack", spec := "snapBack", unfollowed := true, recurses := true, apart := false }
def SnapBackSaid : Prop := snapBackRow.holds Try.pinned (OpenSpec.ofChange snapBackSpec)

/-- ITS FALSE NEIGHBOUR: 'it returns false'. Refute it at one input. -/
def snapBackWrong : ChangeSpec := { name := "snapBack", fn := fun _ => fun
  | [d1, d2, d3, d4] => { results := [.lit (.bool false)], args := [d1, d2, d3, d4] }
  | _ => none }
def SnapBackWrongFalsely : Prop := snapBackRow.holds Try.pinned (OpenSpec.ofChange snapBackWrong)

/-- 'prebendlaw13.SnapUnlike': WHATEVER THE INPUT: true; the input reads as it did. -/
def snapUnlikeSpec : ChangeSpec := { name := "snapUnlike", fn := fun _ => fun
  | [d1, d2] => { results := [.lit (.bool true)], args := [d1, d2] }
  | _ => none }
def snapUnlikeRow : OpenClaim := { program := "ytjmkpcnekghmhaa", sum := "086238131b677dd60c154148983a7c6d84617af3d5ffade092c3c857fb964888", func := "prebend/prebendlaw13.SnapUnlike", spec := "snapUnlike", unfollowed := true, recurses := true, apart := false }
def SnapUnlikeSaid : Prop := snapUnlikeRow.holds Try.pinned (OpenSpec.ofChange snapUnlikeSpec)

/-- ITS FALSE NEIGHBOUR: 'it returns false'. Refute it at one input. -/
def snapUnlikeWrong : ChangeSpec := { name := "snapUnlike", fn := fun _ => fun
  | [d1, d2] => { results := [.lit (.bool false)], args := [d1, d2] }
  | _ => none }
def SnapUnlikeWrongFalsely : Prop := snapUnlikeRow.holds Try.pinned (OpenSpec.ofChange snapUnlikeWrong)

/- THE SECOND FORM. 'bulk': how many values and letters a reading holds, each counted each time it is reached (what is shared counts as often as it is met; a slice's spare places count too). A statement '..UptoSaid' is the law's where the arguments, and the package variables that the reading takes, are together of bulk at most 1048576: NARROWER than '..Said'. Prove '..Said' where nothing that the law and all that it calls make is longer than what came in: it says more and counts as full. Else prove '..UptoSaid'. A law counts once. -/
mutual
def uptoBulk {H : Type} : DataW H → Nat
  | .lit (.string bytes) => bytes.length + 1
  | .lit _ => 1
  | .nil => 1
  | .ptr d => uptoBulk d + 1
  | .slice elems spare => uptoBulkAll elems + uptoBulkAll spare + 1
  | .agg parts => uptoBulkAll parts + 1
  | .iface _ d => uptoBulk d + 1
  | .map entries => uptoBulkEntries entries + 1
  | .held _ => 1
def uptoBulkAll {H : Type} : List (DataW H) → Nat
  | [] => 0
  | d :: r => uptoBulk d + uptoBulkAll r
def uptoBulkEntries {H : Type} : List (Lit × DataW H) → Nat
  | [] => 0
  | x :: r => uptoBulkEntry x + uptoBulkEntries r
def uptoBulkEntry {H : Type} : Lit × DataW H → Nat
  | (.string bytes, d) => bytes.length + uptoBulk d + 1
  | (_, d) => uptoBulk d + 1
 end
def uptoSmall : (H : Type) → List (DataW H) → Bool := fun _ ds => decide (uptoBulkAll ds ≤ 1048576)
def OpenSpec.upto (s : _root_.Go.ChangeSpec) : _root_.Go.OpenSpec := { _root_.Go.OpenSpec.ofChange s with cond := some uptoSmall }

/-- 'prebendlaw03.OctetPuts', WHERE WHAT IT READS IS OF BULK AT MOST 1048576: true; the input reads as it did. -/
def octetPutsUptoRow : OpenClaim := { program := "ytjmkpcnekghmhaa", sum := "086238131b677dd60c154148983a7c6d84617af3d5ffade092c3c857fb964888", func := "prebend/prebendlaw03.OctetPuts", spec := "octetPuts", apart := false, narrowed := true }
def OctetPutsUptoSaid : Prop := octetPutsUptoRow.holds Try.pinned (OpenSpec.upto octetPutsSpec)

/-- 'prebendlaw03.OctetReads', WHERE WHAT IT READS IS OF BULK AT MOST 1048576: true; the input reads as it did. -/
def octetReadsUptoRow : OpenClaim := { program := "ytjmkpcnekghmhaa", sum := "086238131b677dd60c154148983a7c6d84617af3d5ffade092c3c857fb964888", func := "prebend/prebendlaw03.OctetReads", spec := "octetReads", apart := false, narrowed := true }
def OctetReadsUptoSaid : Prop := octetReadsUptoRow.holds Try.pinned (OpenSpec.upto octetReadsSpec)

/-- 'prebendlaw03.OctetBack', WHERE WHAT IT READS IS OF BULK AT MOST 1048576: true; the input reads as it did. -/
def octetBackUptoRow : OpenClaim := { program := "ytjmkpcnekghmhaa", sum := "086238131b677dd60c154148983a7c6d84617af3d5ffade092c3c857fb964888", func := "prebend/prebendlaw03.OctetBack", spec := "octetBack", apart := false, narrowed := true }
def OctetBackUptoSaid : Prop := octetBackUptoRow.holds Try.pinned (OpenSpec.upto octetBackSpec)

/-- 'prebendlaw03.OctetOwn', WHERE WHAT IT READS IS OF BULK AT MOST 1048576: true; the input reads as it did. -/
def octetOwnUptoRow : OpenClaim := { program := "ytjmkpcnekghmhaa", sum := "086238131b677dd60c154148983a7c6d84617af3d5ffade092c3c857fb964888", func := "prebend/prebendlaw03.OctetOwn", spec := "octetOwn", apart := false, narrowed := true }
def OctetOwnUptoSaid : Prop := octetOwnUptoRow.holds Try.pinned (OpenSpec.upto octetOwnSpec)

/-- 'prebendlaw03.OctetNone', WHERE WHAT IT READS IS OF BULK AT MOST 1048576: true; the input reads as it did. -/
def octetNoneUptoRow : OpenClaim := { program := "ytjmkpcnekghmhaa", sum := "086238131b677dd60c154148983a7c6d84617af3d5ffade092c3c857fb964888", func := "prebend/prebendlaw03.OctetNone", spec := "octetNone", apart := false, narrowed := true }
def OctetNoneUptoSaid : Prop := octetNoneUptoRow.holds Try.pinned (OpenSpec.upto octetNoneSpec)

/-- 'prebendlaw12.EntryEncodes', WHERE WHAT IT READS IS OF BULK AT MOST 1048576: true; the input reads as it did. -/
def entryEncodesUptoRow : OpenClaim := { program := "ytjmkpcnekghmhaa", sum := "086238131b677dd60c154148983a7c6d84617af3d5ffade092c3c857fb964888", func := "prebend/prebendlaw12.EntryEncodes", spec := "entryEncodes", apart := false, narrowed := true }
def EntryEncodesUptoSaid : Prop := entryEncodesUptoRow.holds Try.pinned (OpenSpec.upto entryEncodesSpec)

/-- 'prebendlaw12.EntryDecodes', WHERE WHAT IT READS IS OF BULK AT MOST 1048576: true; the input reads as it did. -/
def entryDecodesUptoRow : OpenClaim := { program := "ytjmkpcnekghmhaa", sum := "086238131b677dd60c154148983a7c6d84617af3d5ffade092c3c857fb964888", func := "prebend/prebendlaw12.EntryDecodes", spec := "entryDecodes", apart := false, narrowed := true }
def EntryDecodesUptoSaid : Prop := entryDecodesUptoRow.holds Try.pinned (OpenSpec.upto entryDecodesSpec)

/-- 'prebendlaw12.EntryBack', WHERE WHAT IT READS IS OF BULK AT MOST 1048576: true; the input reads as it did. -/
def entryBackUptoRow : OpenClaim := { program := "ytjmkpcnekghmhaa", sum := "086238131b677dd60c154148983a7c6d84617af3d5ffade092c3c857fb964888", func := "prebend/prebendlaw12.EntryBack", spec := "entryBack", apart := false, narrowed := true }
def EntryBackUptoSaid : Prop := entryBackUptoRow.holds Try.pinned (OpenSpec.upto entryBackSpec)

/-- 'prebendlaw12.EntryUnlike', WHERE WHAT IT READS IS OF BULK AT MOST 1048576: true; the input reads as it did. -/
def entryUnlikeUptoRow : OpenClaim := { program := "ytjmkpcnekghmhaa", sum := "086238131b677dd60c154148983a7c6d84617af3d5ffade092c3c857fb964888", func := "prebend/prebendlaw12.EntryUnlike", spec := "entryUnlike", apart := false, narrowed := true }
def EntryUnlikeUptoSaid : Prop := entryUnlikeUptoRow.holds Try.pinned (OpenSpec.upto entryUnlikeSpec)

/-- 'prebendlaw13.SnapEncodes', WHERE WHAT IT READS IS OF BULK AT MOST 1048576: true; the input reads as it did. -/
def snapEncodesUptoRow : OpenClaim := { program := "ytjmkpcnekghmhaa", sum := "086238131b677dd60c154148983a7c6d84617af3d5ffade092c3c857fb964888", func := "prebend/prebendlaw13.SnapEncodes", spec := "snapEncodes", unfollowed := true, recurses := true, apart := false, narrowed := true }
def SnapEncodesUptoSaid : Prop := snapEncodesUptoRow.holds Try.pinned (OpenSpec.upto snapEncodesSpec)

/-- 'prebendlaw13.SnapDecodes', WHERE WHAT IT READS IS OF BULK AT MOST 1048576: true; the input reads as it did. -/
def snapDecodesUptoRow : OpenClaim := { program := "ytjmkpcnekghmhaa", sum := "086238131b677dd60c154148983a7c6d84617af3d5ffade092c3c857fb964888", func := "prebend/prebendlaw13.SnapDecodes", spec := "snapDecodes", unfollowed := true, recurses := true, apart := false, narrowed := true }
def SnapDecodesUptoSaid : Prop := snapDecodesUptoRow.holds Try.pinned (OpenSpec.upto snapDecodesSpec)

/-- 'prebendlaw13.SnapBack', WHERE WHAT IT READS IS OF BULK AT MOST 1048576: true; the input reads as it did. -/
def snapBackUptoRow : OpenClaim := { program := "ytjmkpcnekghmhaa", sum := "086238131b677dd60c154148983a7c6d84617af3d5ffade092c3c857fb964888", func := "prebend/prebendlaw13.SnapBack", spec := "snapBack", unfollowed := true, recurses := true, apart := false, narrowed := true }
def SnapBackUptoSaid : Prop := snapBackUptoRow.holds Try.pinned (OpenSpec.upto snapBackSpec)

/-- 'prebendlaw13.SnapUnlike', WHERE WHAT IT READS IS OF BULK AT MOST 1048576: true; the input reads as it did. -/
def snapUnlikeUptoRow : OpenClaim := { program := "ytjmkpcnekghmhaa", sum := "086238131b677dd60c154148983a7c6d84617af3d5ffade092c3c857fb964888", func := "prebend/prebendlaw13.SnapUnlike", spec := "snapUnlike", unfollowed := true, recurses := true, apart := false, narrowed := true }
def SnapUnlikeUptoSaid : Prop := snapUnlikeUptoRow.holds Try.pinned (OpenSpec.upto snapUnlikeSpec)

end Rows
end Go.Proofs.Ytjmkpcnekghmhaa
