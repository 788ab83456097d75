/-
  No cell of these rows narrows 'for every input' (looked for: loops, veiled, ifaces, maps, wideKeys, modest, calm, conditions, laid).
  DERIVED. THE GIVEN ROWS OF THIS SEAT. 5 by the template 'for every input the law returns true; each argument reads behind the call as it read before'; 0 by the template 'total and deterministic' (their statements: YtlccomoiajnkmaaTotals.lean).
  GIVEN WITH THE SEED: the statements are not yours to turn. If you find one false, say at which input.
  Laid BY PROGRAM, IN A SANDBOX (cutbox-rows.mjs): the forced cells as the released guide's own fill.sh prints them over the translation d084414daa54cb6e… (all of the seat's roots in one cut). By AI agents, Wed Nov 11 2026. No macro, syntax, notation, axiom, sorry.
-/
import Derived.Test.YtlccomoiajnkmaaChecked
import GoSem.Claim
import GoSem.ClaimJoined
import GoSem.ClaimMapViews
import Derived.JoinedTies
import Derived.KernelRfl
namespace Go.Proofs.Ytlccomoiajnkmaa
/- THE CELL 'sum', in the pinned program and in every row, IS THE sha256 OF THE DUMP (.gsa) THAT YtlccomoiajnkmaaProg.lean LOADS. Nothing in Lean hashes anything: it is a label: what it is worth is what the hold of that sum in a sandbox is worth. -/
noncomputable def Try.pinned : Pinned := { name := "ytlccomoiajnkmaa", sum := "d084414daa54cb6ee54bc5bdae23e383974a63da2ba663ade026415d39964efc", checked := Try.checked }
namespace Rows
def none {H : Type} : Left H := { results := [], args := [] }

/-- 'prebendlaw11.DrawDraws': WHATEVER THE INPUT: true; the input reads as it did. -/
def drawDrawsSpec : ChangeSpec := { name := "drawDraws", fn := fun _ => fun
  | [d1, d2, d3, d4, d5] => { results := [.lit (.bool true)], args := [d1, d2, d3, d4, d5] }
  | _ => none }
def drawDrawsRow : OpenClaim := { program := "ytlccomoiajnkmaa", sum := "d084414daa54cb6ee54bc5bdae23e383974a63da2ba663ade026415d39964efc", func := "prebend/prebendlaw11.DrawDraws", spec := "drawDraws", unfollowed := true, recurses := true, apart := false }
def DrawDrawsSaid : Prop := drawDrawsRow.holds Try.pinned (OpenSpec.ofChange drawDrawsSpec)

/-- ITS FALSE NEIGHBOUR: 'it returns false'. Refute it at one input. -/
def drawDrawsWrong : ChangeSpec := { name := "drawDraws", fn := fun _ => fun
  | [d1, d2, d3, d4, d5] => { results := [.lit (.bool false)], args := [d1, d2, d3, d4, d5] }
  | _ => none }
def DrawDrawsWrongFalsely : Prop := drawDrawsRow.holds Try.pinned (OpenSpec.ofChange drawDrawsWrong)

/-- 'prebendlaw11.DrawLegs': WHATEVER THE INPUT: true; the input reads as it did. -/
def drawLegsSpec : ChangeSpec := { name := "drawLegs", fn := fun _ => fun
  | [d1, d2] => { results := [.lit (.bool true)], args := [d1, d2] }
  | _ => none }
def drawLegsRow : OpenClaim := { program := "ytlccomoiajnkmaa", sum := "d084414daa54cb6ee54bc5bdae23e383974a63da2ba663ade026415d39964efc", func := "prebend/prebendlaw11.DrawLegs", spec := "drawLegs", unfollowed := true, recurses := true, apart := false }
def DrawLegsSaid : Prop := drawLegsRow.holds Try.pinned (OpenSpec.ofChange drawLegsSpec)

/-- ITS FALSE NEIGHBOUR: 'it returns false'. Refute it at one input. -/
def drawLegsWrong : ChangeSpec := { name := "drawLegs", fn := fun _ => fun
  | [d1, d2] => { results := [.lit (.bool false)], args := [d1, d2] }
  | _ => none }
def DrawLegsWrongFalsely : Prop := drawLegsRow.holds Try.pinned (OpenSpec.ofChange drawLegsWrong)

/-- 'prebendlaw11.DrawTakes': WHATEVER THE INPUT: true; the input reads as it did. -/
def drawTakesSpec : ChangeSpec := { name := "drawTakes", fn := fun _ => fun
  | [d1, d2, d3, d4, d5] => { results := [.lit (.bool true)], args := [d1, d2, d3, d4, d5] }
  | _ => none }
def drawTakesRow : OpenClaim := { program := "ytlccomoiajnkmaa", sum := "d084414daa54cb6ee54bc5bdae23e383974a63da2ba663ade026415d39964efc", func := "prebend/prebendlaw11.DrawTakes", spec := "drawTakes", unfollowed := true, recurses := true, apart := false }
def DrawTakesSaid : Prop := drawTakesRow.holds Try.pinned (OpenSpec.ofChange drawTakesSpec)

/-- ITS FALSE NEIGHBOUR: 'it returns false'. Refute it at one input. -/
def drawTakesWrong : ChangeSpec := { name := "drawTakes", fn := fun _ => fun
  | [d1, d2, d3, d4, d5] => { results := [.lit (.bool false)], args := [d1, d2, d3, d4, d5] }
  | _ => none }
def DrawTakesWrongFalsely : Prop := drawTakesRow.holds Try.pinned (OpenSpec.ofChange drawTakesWrong)

/-- 'prebendlaw11.DrawCharges': WHATEVER THE INPUT: true; the input reads as it did. -/
def drawChargesSpec : ChangeSpec := { name := "drawCharges", fn := fun _ => fun
  | [d1, d2] => { results := [.lit (.bool true)], args := [d1, d2] }
  | _ => none }
def drawChargesRow : OpenClaim := { program := "ytlccomoiajnkmaa", sum := "d084414daa54cb6ee54bc5bdae23e383974a63da2ba663ade026415d39964efc", func := "prebend/prebendlaw11.DrawCharges", spec := "drawCharges", unfollowed := true, recurses := true, apart := false }
def DrawChargesSaid : Prop := drawChargesRow.holds Try.pinned (OpenSpec.ofChange drawChargesSpec)

/-- ITS FALSE NEIGHBOUR: 'it returns false'. Refute it at one input. -/
def drawChargesWrong : ChangeSpec := { name := "drawCharges", fn := fun _ => fun
  | [d1, d2] => { results := [.lit (.bool false)], args := [d1, d2] }
  | _ => none }
def DrawChargesWrongFalsely : Prop := drawChargesRow.holds Try.pinned (OpenSpec.ofChange drawChargesWrong)

/-- 'prebendlaw11.DrawRound': WHATEVER THE INPUT: true; the input reads as it did. -/
def drawRoundSpec : ChangeSpec := { name := "drawRound", fn := fun _ => fun
  | [d1, d2, d3, d4, d5, d6] => { results := [.lit (.bool true)], args := [d1, d2, d3, d4, d5, d6] }
  | _ => none }
def drawRoundRow : OpenClaim := { program := "ytlccomoiajnkmaa", sum := "d084414daa54cb6ee54bc5bdae23e383974a63da2ba663ade026415d39964efc", func := "prebend/prebendlaw11.DrawRound", spec := "drawRound", unfollowed := true, recurses := true, apart := false }
def DrawRoundSaid : Prop := drawRoundRow.holds Try.pinned (OpenSpec.ofChange drawRoundSpec)

/-- ITS FALSE NEIGHBOUR: 'it returns false'. Refute it at one input. -/
def drawRoundWrong : ChangeSpec := { name := "drawRound", fn := fun _ => fun
  | [d1, d2, d3, d4, d5, d6] => { results := [.lit (.bool false)], args := [d1, d2, d3, d4, d5, d6] }
  | _ => none }
def DrawRoundWrongFalsely : Prop := drawRoundRow.holds Try.pinned (OpenSpec.ofChange drawRoundWrong)

/- THE SECOND FORM. 'bulk': how many values and letters a reading holds, each counted each time it is reached (what is shared counts as often as it is met; a slice's spare places count too). A statement '..UptoSaid' is the law's where the arguments, and the package variables that the reading takes, are together of bulk at most 1048576: NARROWER than '..Said'. Prove '..Said' where nothing that the law and all that it calls make is longer than what came in: it says more and counts as full. Else prove '..UptoSaid'. A law counts once. -/
mutual
def uptoBulk {H : Type} : DataW H → Nat
  | .lit (.string bytes) => bytes.length + 1
  | .lit _ => 1
  | .nil => 1
  | .ptr d => uptoBulk d + 1
  | .slice elems spare => uptoBulkAll elems + uptoBulkAll spare + 1
  | .agg parts => uptoBulkAll parts + 1
  | .iface _ d => uptoBulk d + 1
  | .map entries => uptoBulkEntries entries + 1
  | .held _ => 1
def uptoBulkAll {H : Type} : List (DataW H) → Nat
  | [] => 0
  | d :: r => uptoBulk d + uptoBulkAll r
def uptoBulkEntries {H : Type} : List (Lit × DataW H) → Nat
  | [] => 0
  | x :: r => uptoBulkEntry x + uptoBulkEntries r
def uptoBulkEntry {H : Type} : Lit × DataW H → Nat
  | (.string bytes, d) => bytes.length + uptoBulk d + 1
  | (_, d) => uptoBulk d + 1
 end
def uptoSmall : (H : Type) → List (DataW H) → Bool := fun _ ds => decide (uptoBulkAll ds ≤ 1048576)
def OpenSpec.upto (s : _root_.Go.ChangeSpec) : _root_.Go.OpenSpec := { _root_.Go.OpenSpec.ofChange s with cond := some uptoSmall }

/-- 'prebendlaw11.DrawDraws', WHERE WHAT IT READS IS OF BULK AT MOST 1048576: true; the input reads as it did. -/
def drawDrawsUptoRow : OpenClaim := { program := "ytlccomoiajnkmaa", sum := "d084414daa54cb6ee54bc5bdae23e383974a63da2ba663ade026415d39964efc", func := "prebend/prebendlaw11.DrawDraws", spec := "drawDraws", unfollowed := true, recurses := true, apart := false, narrowed := true }
def DrawDrawsUptoSaid : Prop := drawDrawsUptoRow.holds Try.pinned (OpenSpec.upto drawDrawsSpec)

/-- 'prebendlaw11.DrawLegs', WHERE WHAT IT READS IS OF BULK AT MOST 1048576: true; the input reads as it did. -/
def drawLegsUptoRow : OpenClaim := { program := "ytlccomoiajnkmaa", sum := "d084414daa54cb6ee54bc5bdae23e383974a63da2ba663ade026415d39964efc", func := "prebend/prebendlaw11.DrawLegs", spec := "drawLegs", unfollowed := true, recurses := true, apart := false, narrowed := true }
def DrawLegsUptoSaid : Prop := drawLegsUptoRow.holds Try.pinned (OpenSpec.upto drawLegsSpec)

/-- 'prebendlaw11.DrawTakes', WHERE WHAT IT READS IS OF BULK AT MOST 1048576: true; the input reads as it did. -/
def drawTakesUptoRow : OpenClaim := { program := "ytlccomoiajnkmaa", sum := "d084414daa54cb6ee54bc5bdae23e383974a63da2ba663ade026415d39964efc", func := "prebend/prebendlaw11.DrawTakes", spec := "drawTakes", unfollowed := true, recurses := true, apart := false, narrowed := true }
def DrawTakesUptoSaid : Prop := drawTakesUptoRow.holds Try.pinned (OpenSpec.upto drawTakesSpec)

/-- 'prebendlaw11.DrawCharges', WHERE WHAT IT READS IS OF BULK AT MOST 1048576: true; the input reads as it did. -/
def drawChargesUptoRow : OpenClaim := { program := "ytlccomoiajnkmaa", sum := "d084414daa54cb6ee54bc5bdae23e383974a63da2ba663ade026415d39964efc", func := "prebend/prebendlaw11.DrawCharges", spec := "drawCharges", unfollowed := true, recurses := true, apart := false, narrowed := true }
def DrawChargesUptoSaid : Prop := drawChargesUptoRow.holds Try.pinned (OpenSpec.upto drawChargesSpec)

/-- 'prebendlaw11.DrawRound', WHERE WHAT IT READS IS OF BULK AT MOST 1048576: true; the input reads as it did. -/
def drawRoundUptoRow : OpenClaim := { program := "ytlccomoiajnkmaa", sum := "d084414daa54cb6ee54bc5bdae23e383974a63da2ba663ade026415d39964efc", func := "prebend/prebendlaw11.DrawRound", spec := "drawRound", unfollowed := true, recurses := true, apart := false, narrowed := true }
def DrawRoundUptoSaid : Prop := drawRoundUptoRow.holds Try.pinned (OpenSpec.upto drawRoundSpec)

end Rows
end Go.Proofs.Ytlccomoiajnkmaa
