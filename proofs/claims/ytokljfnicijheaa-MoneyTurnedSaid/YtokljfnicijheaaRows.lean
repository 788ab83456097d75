/-
  No cell of these rows narrows 'for every input' (looked for: loops, veiled, ifaces, maps, wideKeys, modest, calm, conditions, laid).
  DERIVED. THE GIVEN ROWS OF THIS SEAT. 5 by the template 'for every input the law returns true; each argument reads behind the call as it read before'; 0 by the template 'total and deterministic' (their statements: YtokljfnicijheaaTotals.lean).
  GIVEN WITH THE SEED: the statements are not yours to turn. If you find one false, say at which input.
  Laid BY PROGRAM, IN A SANDBOX (cutbox-rows.mjs): the forced cells as the released guide's own fill.sh prints them over the translation d9ee0e6573a007ad… (all of the seat's roots in one cut). By AI agents, Wed Nov 11 2026. No macro, syntax, notation, axiom, sorry.
-/
import Derived.Test.YtokljfnicijheaaChecked
import GoSem.Claim
import GoSem.ClaimJoined
import GoSem.ClaimMapViews
import Derived.JoinedTies
import Derived.KernelRfl
namespace Go.Proofs.Ytokljfnicijheaa
/- THE CELL 'sum', in the pinned program and in every row, IS THE sha256 OF THE DUMP (.gsa) THAT YtokljfnicijheaaProg.lean LOADS. Nothing in Lean hashes anything: it is a label: what it is worth is what the hold of that sum in a sandbox is worth. -/
noncomputable def Try.pinned : Pinned := { name := "ytokljfnicijheaa", sum := "d9ee0e6573a007ad2944144942f45518829636ca6b77f7b793833af88c61a268", checked := Try.checked }
namespace Rows
def none {H : Type} : Left H := { results := [], args := [] }

/-- 'prebendlaw01.MoneyAdds': WHATEVER THE INPUT: true; the input reads as it did. -/
def moneyAddsSpec : ChangeSpec := { name := "moneyAdds", fn := fun _ => fun
  | [d] => { results := [.lit (.bool true)], args := [d] }
  | _ => none }
def moneyAddsRow : OpenClaim := { program := "ytokljfnicijheaa", sum := "d9ee0e6573a007ad2944144942f45518829636ca6b77f7b793833af88c61a268", func := "prebend/prebendlaw01.MoneyAdds", spec := "moneyAdds", apart := false }
def MoneyAddsSaid : Prop := moneyAddsRow.holds Try.pinned (OpenSpec.ofChange moneyAddsSpec)

/-- ITS FALSE NEIGHBOUR: 'it returns false'. Refute it at one input. -/
def moneyAddsWrong : ChangeSpec := { name := "moneyAdds", fn := fun _ => fun
  | [d] => { results := [.lit (.bool false)], args := [d] }
  | _ => none }
def MoneyAddsWrongFalsely : Prop := moneyAddsRow.holds Try.pinned (OpenSpec.ofChange moneyAddsWrong)

/-- 'prebendlaw01.MoneyMuls': WHATEVER THE INPUT: true; the input reads as it did. -/
def moneyMulsSpec : ChangeSpec := { name := "moneyMuls", fn := fun _ => fun
  | [d] => { results := [.lit (.bool true)], args := [d] }
  | _ => none }
def moneyMulsRow : OpenClaim := { program := "ytokljfnicijheaa", sum := "d9ee0e6573a007ad2944144942f45518829636ca6b77f7b793833af88c61a268", func := "prebend/prebendlaw01.MoneyMuls", spec := "moneyMuls", apart := false }
def MoneyMulsSaid : Prop := moneyMulsRow.holds Try.pinned (OpenSpec.ofChange moneyMulsSpec)

/-- ITS FALSE NEIGHBOUR: 'it returns false'. Refute it at one input. -/
def moneyMulsWrong : ChangeSpec := { name := "moneyMuls", fn := fun _ => fun
  | [d] => { results := [.lit (.bool false)], args := [d] }
  | _ => none }
def MoneyMulsWrongFalsely : Prop := moneyMulsRow.holds Try.pinned (OpenSpec.ofChange moneyMulsWrong)

/-- 'prebendlaw01.MoneyCosts': WHATEVER THE INPUT: true; the input reads as it did. -/
def moneyCostsSpec : ChangeSpec := { name := "moneyCosts", fn := fun _ => fun
  | [d1, d2, d3] => { results := [.lit (.bool true)], args := [d1, d2, d3] }
  | _ => none }
def moneyCostsRow : OpenClaim := { program := "ytokljfnicijheaa", sum := "d9ee0e6573a007ad2944144942f45518829636ca6b77f7b793833af88c61a268", func := "prebend/prebendlaw01.MoneyCosts", spec := "moneyCosts", apart := false }
def MoneyCostsSaid : Prop := moneyCostsRow.holds Try.pinned (OpenSpec.ofChange moneyCostsSpec)

/-- ITS FALSE NEIGHBOUR: 'it returns false'. Refute it at one input. -/
def moneyCostsWrong : ChangeSpec := { name := "moneyCosts", fn := fun _ => fun
  | [d1, d2, d3] => { results := [.lit (.bool false)], args := [d1, d2, d3] }
  | _ => none }
def MoneyCostsWrongFalsely : Prop := moneyCostsRow.holds Try.pinned (OpenSpec.ofChange moneyCostsWrong)

/-- 'prebendlaw01.MoneyParts': WHATEVER THE INPUT: true; the input reads as it did. -/
def moneyPartsSpec : ChangeSpec := { name := "moneyParts", fn := fun _ => fun
  | [d1, d2] => { results := [.lit (.bool true)], args := [d1, d2] }
  | _ => none }
def moneyPartsRow : OpenClaim := { program := "ytokljfnicijheaa", sum := "d9ee0e6573a007ad2944144942f45518829636ca6b77f7b793833af88c61a268", func := "prebend/prebendlaw01.MoneyParts", spec := "moneyParts", apart := false }
def MoneyPartsSaid : Prop := moneyPartsRow.holds Try.pinned (OpenSpec.ofChange moneyPartsSpec)

/-- ITS FALSE NEIGHBOUR: 'it returns false'. Refute it at one input. -/
def moneyPartsWrong : ChangeSpec := { name := "moneyParts", fn := fun _ => fun
  | [d1, d2] => { results := [.lit (.bool false)], args := [d1, d2] }
  | _ => none }
def MoneyPartsWrongFalsely : Prop := moneyPartsRow.holds Try.pinned (OpenSpec.ofChange moneyPartsWrong)

/-- 'prebendlaw01.MoneyTurned': WHATEVER THE INPUT: true; the input reads as it did. -/
def moneyTurnedSpec : ChangeSpec := { name := "moneyTurned", fn := fun _ => fun
  | [d1, d2] => { results := [.lit (.bool true)], args := [d1, d2] }
  | _ => none }
def moneyTurnedRow : OpenClaim := { program := "ytokljfnicijheaa", sum := "d9ee0e6573a007ad2944144942f45518829636ca6b77f7b793833af88c61a268", func := "prebend/prebendlaw01.MoneyTurned", spec := "moneyTurned", apart := false }
def MoneyTurnedSaid : Prop := moneyTurnedRow.holds Try.pinned (OpenSpec.ofChange moneyTurnedSpec)

/-- ITS FALSE NEIGHBOUR: 'it returns false'. Refute it at one input. -/
def moneyTurnedWrong : ChangeSpec := { name := "moneyTurned", fn := fun _ => fun
  | [d1, d2] => { results := [.lit (.bool false)], args := [d1, d2] }
  | _ => none }
def MoneyTurnedWrongFalsely : Prop := moneyTurnedRow.holds Try.pinned (OpenSpec.ofChange moneyTurnedWrong)

/- THE SECOND FORM. 'bulk': how many values and letters a reading holds, each counted each time it is reached (what is shared counts as often as it is met; a slice's spare places count too). A statement '..UptoSaid' is the law's where the arguments, and the package variables that the reading takes, are together of bulk at most 1048576: NARROWER than '..Said'. Prove '..Said' where nothing that the law and all that it calls make is longer than what came in: it says more and counts as full. Else prove '..UptoSaid'. A law counts once. -/
mutual
def uptoBulk {H : Type} : DataW H → Nat
  | .lit (.string bytes) => bytes.length + 1
  | .lit _ => 1
  | .nil => 1
  | .ptr d => uptoBulk d + 1
  | .slice elems spare => uptoBulkAll elems + uptoBulkAll spare + 1
  | .agg parts => uptoBulkAll parts + 1
  | .iface _ d => uptoBulk d + 1
  | .map entries => uptoBulkEntries entries + 1
  | .held _ => 1
def uptoBulkAll {H : Type} : List (DataW H) → Nat
  | [] => 0
  | d :: r => uptoBulk d + uptoBulkAll r
def uptoBulkEntries {H : Type} : List (Lit × DataW H) → Nat
  | [] => 0
  | x :: r => uptoBulkEntry x + uptoBulkEntries r
def uptoBulkEntry {H : Type} : Lit × DataW H → Nat
  | (.string bytes, d) => bytes.length + uptoBulk d + 1
  | (_, d) => uptoBulk d + 1
 end
def uptoSmall : (H : Type) → List (DataW H) → Bool := fun _ ds => decide (uptoBulkAll ds ≤ 1048576)
def OpenSpec.upto (s : _root_.Go.ChangeSpec) : _root_.Go.OpenSpec := { _root_.Go.OpenSpec.ofChange s with cond := some uptoSmall }

/-- 'prebendlaw01.MoneyAdds', WHERE WHAT IT READS IS OF BULK AT MOST 1048576: true; the input reads as it did. -/
def moneyAddsUptoRow : OpenClaim := { program := "ytokljfnicijheaa", sum := "d9ee0e6573a007ad2944144942f45518829636ca6b77f7b793833af88c61a268", func := "prebend/prebendlaw01.MoneyAdds", spec := "moneyAdds", apart := false, narrowed := true }
def MoneyAddsUptoSaid : Prop := moneyAddsUptoRow.holds Try.pinned (OpenSpec.upto moneyAddsSpec)

/-- 'prebendlaw01.MoneyMuls', WHERE WHAT IT READS IS OF BULK AT MOST 1048576: true; the input reads as it did. -/
def moneyMulsUptoRow : OpenClaim := { program := "ytokljfnicijheaa", sum := "d9ee0e6573a007ad2944144942f45518829636ca6b77f7b793833af88c61a268", func := "prebend/prebendlaw01.MoneyMuls", spec := "moneyMuls", apart := false, narrowed := true }
def MoneyMulsUptoSaid : Prop := moneyMulsUptoRow.holds Try.pinned (OpenSpec.upto moneyMulsSpec)

/-- 'prebendlaw01.MoneyCosts', WHERE WHAT IT READS IS OF BULK AT MOST 1048576: true; the input reads as it did. -/
def moneyCostsUptoRow : OpenClaim := { program := "ytokljfnicijheaa", sum := "d9ee0e6573a007ad2944144942f45518829636ca6b77f7b793833af88c61a268", func := "prebend/prebendlaw01.MoneyCosts", spec := "moneyCosts", apart := false, narrowed := true }
def MoneyCostsUptoSaid : Prop := moneyCostsUptoRow.holds Try.pinned (OpenSpec.upto moneyCostsSpec)

/-- 'prebendlaw01.MoneyParts', WHERE WHAT IT READS IS OF BULK AT MOST 1048576: true; the input reads as it did. -/
def moneyPartsUptoRow : OpenClaim := { program := "ytokljfnicijheaa", sum := "d9ee0e6573a007ad2944144942f45518829636ca6b77f7b793833af88c61a268", func := "prebend/prebendlaw01.MoneyParts", spec := "moneyParts", apart := false, narrowed := true }
def MoneyPartsUptoSaid : Prop := moneyPartsUptoRow.holds Try.pinned (OpenSpec.upto moneyPartsSpec)

/-- 'prebendlaw01.MoneyTurned', WHERE WHAT IT READS IS OF BULK AT MOST 1048576: true; the input reads as it did. -/
def moneyTurnedUptoRow : OpenClaim := { program := "ytokljfnicijheaa", sum := "d9ee0e6573a007ad2944144942f45518829636ca6b77f7b793833af88c61a268", func := "prebend/prebendlaw01.MoneyTurned", spec := "moneyTurned", apart := false, narrowed := true }
def MoneyTurnedUptoSaid : Prop := moneyTurnedUptoRow.holds Try.pinned (OpenSpec.upto moneyTurnedSpec)

end Rows
end Go.Proofs.Ytokljfnicijheaa
