/-
  No cell of these rows narrows 'for every input' (looked for: loops, veiled, ifaces, maps, wideKeys, modest, calm, conditions, laid).
  DERIVED. THE GIVEN ROWS OF THIS SEAT. 10 by the template 'for every input the law returns true; each argument reads behind the call as it read before'; 0 by the template 'total and deterministic' (their statements: YtedpoahndddgfaaTotals.lean).
  GIVEN WITH THE SEED: the statements are not yours to turn. If you find one false, say at which input.
  Laid BY PROGRAM, IN A SANDBOX (cutbox-rows.mjs): the forced cells as the released guide's own fill.sh prints them over the translation bec61b74b56e0ab9… (all of the seat's roots in one cut). By AI agents, Wed Nov 11 2026. No macro, syntax, notation, axiom, sorry.
-/
import Derived.Test.YtedpoahndddgfaaChecked
import GoSem.Claim
import GoSem.ClaimJoined
import GoSem.ClaimMapViews
import Derived.JoinedTies
import Derived.KernelRfl
namespace Go.Proofs.Ytedpoahndddgfaa
/- THE CELL 'sum', in the pinned program and in every row, IS THE sha256 OF THE DUMP (.gsa) THAT YtedpoahndddgfaaProg.lean LOADS. Nothing in Lean hashes anything: it is a label: what it is worth is what the hold of that sum in a sandbox is worth. -/
noncomputable def Try.pinned : Pinned := { name := "ytedpoahndddgfaa", sum := "bec61b74b56e0ab97898639926ebf058b0834d4af2af783735d19eeadbc57904", checked := Try.checked }
namespace Rows
def none {H : Type} : Left H := { results := [], args := [] }

/-- 'prebendlaw16.ProfilePlays': WHATEVER THE INPUT: true; the input reads as it did. -/
def profilePlaysSpec : ChangeSpec := { name := "profilePlays", fn := fun _ => fun
  | [d1, d2, d3, d4, d5, d6, d7] => { results := [.lit (.bool true)], args := [d1, d2, d3, d4, d5, d6, d7] }
  | _ => none }
def profilePlaysRow : OpenClaim := { program := "ytedpoahndddgfaa", sum := "bec61b74b56e0ab97898639926ebf058b0834d4af2af783735d19eeadbc57904", func := "prebend/prebendlaw16.ProfilePlays", spec := "profilePlays", unfollowed := true, recurses := true, apart := false }
def ProfilePlaysSaid : Prop := profilePlaysRow.holds Try.pinned (OpenSpec.ofChange profilePlaysSpec)

/-- ITS FALSE NEIGHBOUR: 'it returns false'. Refute it at one input. -/
def profilePlaysWrong : ChangeSpec := { name := "profilePlays", fn := fun _ => fun
  | [d1, d2, d3, d4, d5, d6, d7] => { results := [.lit (.bool false)], args := [d1, d2, d3, d4, d5, d6, d7] }
  | _ => none }
def ProfilePlaysWrongFalsely : Prop := profilePlaysRow.holds Try.pinned (OpenSpec.ofChange profilePlaysWrong)

/-- 'prebendlaw16.ProfileCounts': WHATEVER THE INPUT: true; the input reads as it did. -/
def profileCountsSpec : ChangeSpec := { name := "profileCounts", fn := fun _ => fun
  | [d1, d2, d3] => { results := [.lit (.bool true)], args := [d1, d2, d3] }
  | _ => none }
def profileCountsRow : OpenClaim := { program := "ytedpoahndddgfaa", sum := "bec61b74b56e0ab97898639926ebf058b0834d4af2af783735d19eeadbc57904", func := "prebend/prebendlaw16.ProfileCounts", spec := "profileCounts", unfollowed := true, recurses := true, apart := false }
def ProfileCountsSaid : Prop := profileCountsRow.holds Try.pinned (OpenSpec.ofChange profileCountsSpec)

/-- ITS FALSE NEIGHBOUR: 'it returns false'. Refute it at one input. -/
def profileCountsWrong : ChangeSpec := { name := "profileCounts", fn := fun _ => fun
  | [d1, d2, d3] => { results := [.lit (.bool false)], args := [d1, d2, d3] }
  | _ => none }
def ProfileCountsWrongFalsely : Prop := profileCountsRow.holds Try.pinned (OpenSpec.ofChange profileCountsWrong)

/-- 'prebendlaw16.ProfileFits': WHATEVER THE INPUT: true; the input reads as it did. -/
def profileFitsSpec : ChangeSpec := { name := "profileFits", fn := fun _ => fun
  | [d1, d2, d3, d4] => { results := [.lit (.bool true)], args := [d1, d2, d3, d4] }
  | _ => none }
def profileFitsRow : OpenClaim := { program := "ytedpoahndddgfaa", sum := "bec61b74b56e0ab97898639926ebf058b0834d4af2af783735d19eeadbc57904", func := "prebend/prebendlaw16.ProfileFits", spec := "profileFits", unfollowed := true, recurses := true, apart := false }
def ProfileFitsSaid : Prop := profileFitsRow.holds Try.pinned (OpenSpec.ofChange profileFitsSpec)

/-- ITS FALSE NEIGHBOUR: 'it returns false'. Refute it at one input. -/
def profileFitsWrong : ChangeSpec := { name := "profileFits", fn := fun _ => fun
  | [d1, d2, d3, d4] => { results := [.lit (.bool false)], args := [d1, d2, d3, d4] }
  | _ => none }
def ProfileFitsWrongFalsely : Prop := profileFitsRow.holds Try.pinned (OpenSpec.ofChange profileFitsWrong)

/-- 'prebendlaw16.ProfileTakes': WHATEVER THE INPUT: true; the input reads as it did. -/
def profileTakesSpec : ChangeSpec := { name := "profileTakes", fn := fun _ => fun
  | [d1, d2, d3, d4, d5, d6] => { results := [.lit (.bool true)], args := [d1, d2, d3, d4, d5, d6] }
  | _ => none }
def profileTakesRow : OpenClaim := { program := "ytedpoahndddgfaa", sum := "bec61b74b56e0ab97898639926ebf058b0834d4af2af783735d19eeadbc57904", func := "prebend/prebendlaw16.ProfileTakes", spec := "profileTakes", unfollowed := true, recurses := true, apart := false }
def ProfileTakesSaid : Prop := profileTakesRow.holds Try.pinned (OpenSpec.ofChange profileTakesSpec)

/-- ITS FALSE NEIGHBOUR: 'it returns false'. Refute it at one input. -/
def profileTakesWrong : ChangeSpec := { name := "profileTakes", fn := fun _ => fun
  | [d1, d2, d3, d4, d5, d6] => { results := [.lit (.bool false)], args := [d1, d2, d3, d4, d5, d6] }
  | _ => none }
def ProfileTakesWrongFalsely : Prop := profileTakesRow.holds Try.pinned (OpenSpec.ofChange profileTakesWrong)

/-- 'prebendlaw17.EasyNexts': WHATEVER THE INPUT: true; the input reads as it did. -/
def easyNextsSpec : ChangeSpec := { name := "easyNexts", fn := fun _ => fun
  | [d1, d2, d3, d4, d5, d6] => { results := [.lit (.bool true)], args := [d1, d2, d3, d4, d5, d6] }
  | _ => none }
def easyNextsRow : OpenClaim := { program := "ytedpoahndddgfaa", sum := "bec61b74b56e0ab97898639926ebf058b0834d4af2af783735d19eeadbc57904", func := "prebend/prebendlaw17.EasyNexts", spec := "easyNexts", unfollowed := true, recurses := true, apart := false }
def EasyNextsSaid : Prop := easyNextsRow.holds Try.pinned (OpenSpec.ofChange easyNextsSpec)

/-- ITS FALSE NEIGHBOUR: 'it returns false'. Refute it at one input. -/
def easyNextsWrong : ChangeSpec := { name := "easyNexts", fn := fun _ => fun
  | [d1, d2, d3, d4, d5, d6] => { results := [.lit (.bool false)], args := [d1, d2, d3, d4, d5, d6] }
  | _ => none }
def EasyNextsWrongFalsely : Prop := easyNextsRow.holds Try.pinned (OpenSpec.ofChange easyNextsWrong)

/-- 'prebendlaw17.EasyFits': WHATEVER THE INPUT: true; the input reads as it did. -/
def easyFitsSpec : ChangeSpec := { name := "easyFits", fn := fun _ => fun
  | [d1, d2, d3, d4, d5] => { results := [.lit (.bool true)], args := [d1, d2, d3, d4, d5] }
  | _ => none }
def easyFitsRow : OpenClaim := { program := "ytedpoahndddgfaa", sum := "bec61b74b56e0ab97898639926ebf058b0834d4af2af783735d19eeadbc57904", func := "prebend/prebendlaw17.EasyFits", spec := "easyFits", unfollowed := true, recurses := true, apart := false }
def EasyFitsSaid : Prop := easyFitsRow.holds Try.pinned (OpenSpec.ofChange easyFitsSpec)

/-- ITS FALSE NEIGHBOUR: 'it returns false'. Refute it at one input. -/
def easyFitsWrong : ChangeSpec := { name := "easyFits", fn := fun _ => fun
  | [d1, d2, d3, d4, d5] => { results := [.lit (.bool false)], args := [d1, d2, d3, d4, d5] }
  | _ => none }
def EasyFitsWrongFalsely : Prop := easyFitsRow.holds Try.pinned (OpenSpec.ofChange easyFitsWrong)

/-- 'prebendlaw17.EasyRefused': WHATEVER THE INPUT: true; the input reads as it did. -/
def easyRefusedSpec : ChangeSpec := { name := "easyRefused", fn := fun _ => fun
  | [d1, d2, d3, d4] => { results := [.lit (.bool true)], args := [d1, d2, d3, d4] }
  | _ => none }
def easyRefusedRow : OpenClaim := { program := "ytedpoahndddgfaa", sum := "bec61b74b56e0ab97898639926ebf058b0834d4af2af783735d19eeadbc57904", func := "prebend/prebendlaw17.EasyRefused", spec := "easyRefused", unfollowed := true, recurses := true, apart := false }
def EasyRefusedSaid : Prop := easyRefusedRow.holds Try.pinned (OpenSpec.ofChange easyRefusedSpec)

/-- ITS FALSE NEIGHBOUR: 'it returns false'. Refute it at one input. -/
def easyRefusedWrong : ChangeSpec := { name := "easyRefused", fn := fun _ => fun
  | [d1, d2, d3, d4] => { results := [.lit (.bool false)], args := [d1, d2, d3, d4] }
  | _ => none }
def EasyRefusedWrongFalsely : Prop := easyRefusedRow.holds Try.pinned (OpenSpec.ofChange easyRefusedWrong)

/-- 'prebendlaw18.ConsPlans': WHATEVER THE INPUT: true; the input reads as it did. -/
def consPlansSpec : ChangeSpec := { name := "consPlans", fn := fun _ => fun
  | [d1, d2, d3, d4, d5] => { results := [.lit (.bool true)], args := [d1, d2, d3, d4, d5] }
  | _ => none }
def consPlansRow : OpenClaim := { program := "ytedpoahndddgfaa", sum := "bec61b74b56e0ab97898639926ebf058b0834d4af2af783735d19eeadbc57904", func := "prebend/prebendlaw18.ConsPlans", spec := "consPlans", unfollowed := true, recurses := true, apart := false }
def ConsPlansSaid : Prop := consPlansRow.holds Try.pinned (OpenSpec.ofChange consPlansSpec)

/-- ITS FALSE NEIGHBOUR: 'it returns false'. Refute it at one input. -/
def consPlansWrong : ChangeSpec := { name := "consPlans", fn := fun _ => fun
  | [d1, d2, d3, d4, d5] => { results := [.lit (.bool false)], args := [d1, d2, d3, d4, d5] }
  | _ => none }
def ConsPlansWrongFalsely : Prop := consPlansRow.holds Try.pinned (OpenSpec.ofChange consPlansWrong)

/-- 'prebendlaw18.ConsRoom': WHATEVER THE INPUT: true; the input reads as it did. -/
def consRoomSpec : ChangeSpec := { name := "consRoom", fn := fun _ => fun
  | [d1, d2, d3, d4, d5] => { results := [.lit (.bool true)], args := [d1, d2, d3, d4, d5] }
  | _ => none }
def consRoomRow : OpenClaim := { program := "ytedpoahndddgfaa", sum := "bec61b74b56e0ab97898639926ebf058b0834d4af2af783735d19eeadbc57904", func := "prebend/prebendlaw18.ConsRoom", spec := "consRoom", unfollowed := true, recurses := true, apart := false }
def ConsRoomSaid : Prop := consRoomRow.holds Try.pinned (OpenSpec.ofChange consRoomSpec)

/-- ITS FALSE NEIGHBOUR: 'it returns false'. Refute it at one input. -/
def consRoomWrong : ChangeSpec := { name := "consRoom", fn := fun _ => fun
  | [d1, d2, d3, d4, d5] => { results := [.lit (.bool false)], args := [d1, d2, d3, d4, d5] }
  | _ => none }
def ConsRoomWrongFalsely : Prop := consRoomRow.holds Try.pinned (OpenSpec.ofChange consRoomWrong)

/-- 'prebendlaw18.ConsLater': WHATEVER THE INPUT: true; the input reads as it did. -/
def consLaterSpec : ChangeSpec := { name := "consLater", fn := fun _ => fun
  | [d1, d2, d3, d4] => { results := [.lit (.bool true)], args := [d1, d2, d3, d4] }
  | _ => none }
def consLaterRow : OpenClaim := { program := "ytedpoahndddgfaa", sum := "bec61b74b56e0ab97898639926ebf058b0834d4af2af783735d19eeadbc57904", func := "prebend/prebendlaw18.ConsLater", spec := "consLater", unfollowed := true, recurses := true, apart := false }
def ConsLaterSaid : Prop := consLaterRow.holds Try.pinned (OpenSpec.ofChange consLaterSpec)

/-- ITS FALSE NEIGHBOUR: 'it returns false'. Refute it at one input. -/
def consLaterWrong : ChangeSpec := { name := "consLater", fn := fun _ => fun
  | [d1, d2, d3, d4] => { results := [.lit (.bool false)], args := [d1, d2, d3, d4] }
  | _ => none }
def ConsLaterWrongFalsely : Prop := consLaterRow.holds Try.pinned (OpenSpec.ofChange consLaterWrong)

/- THE SECOND FORM. 'bulk': how many values and letters a reading holds, each counted each time it is reached (what is shared counts as often as it is met; a slice's spare places count too). A statement '..UptoSaid' is the law's where the arguments, and the package variables that the reading takes, are together of bulk at most 1048576: NARROWER than '..Said'. Prove '..Said' where nothing that the law and all that it calls make is longer than what came in: it says more and counts as full. Else prove '..UptoSaid'. A law counts once. -/
mutual
def uptoBulk {H : Type} : DataW H → Nat
  | .lit (.string bytes) => bytes.length + 1
  | .lit _ => 1
  | .nil => 1
  | .ptr d => uptoBulk d + 1
  | .slice elems spare => uptoBulkAll elems + uptoBulkAll spare + 1
  | .agg parts => uptoBulkAll parts + 1
  | .iface _ d => uptoBulk d + 1
  | .map entries => uptoBulkEntries entries + 1
  | .held _ => 1
def uptoBulkAll {H : Type} : List (DataW H) → Nat
  | [] => 0
  | d :: r => uptoBulk d + uptoBulkAll r
def uptoBulkEntries {H : Type} : List (Lit × DataW H) → Nat
  | [] => 0
  | x :: r => uptoBulkEntry x + uptoBulkEntries r
def uptoBulkEntry {H : Type} : Lit × DataW H → Nat
  | (.string bytes, d) => bytes.length + uptoBulk d + 1
  | (_, d) => uptoBulk d + 1
 end
def uptoSmall : (H : Type) → List (DataW H) → Bool := fun _ ds => decide (uptoBulkAll ds ≤ 1048576)
def OpenSpec.upto (s : _root_.Go.ChangeSpec) : _root_.Go.OpenSpec := { _root_.Go.OpenSpec.ofChange s with cond := some uptoSmall }

/-- 'prebendlaw16.ProfilePlays', WHERE WHAT IT READS IS OF BULK AT MOST 1048576: true; the input reads as it did. -/
def profilePlaysUptoRow : OpenClaim := { program := "ytedpoahndddgfaa", sum := "bec61b74b56e0ab97898639926ebf058b0834d4af2af783735d19eeadbc57904", func := "prebend/prebendlaw16.ProfilePlays", spec := "profilePlays", unfollowed := true, recurses := true, apart := false, narrowed := true }
def ProfilePlaysUptoSaid : Prop := profilePlaysUptoRow.holds Try.pinned (OpenSpec.upto profilePlaysSpec)

/-- 'prebendlaw16.ProfileCounts', WHERE WHAT IT READS IS OF BULK AT MOST 1048576: true; the input reads as it did. -/
def profileCountsUptoRow : OpenClaim := { program := "ytedpoahndddgfaa", sum := "bec61b74b56e0ab97898639926ebf058b0834d4af2af783735d19eeadbc57904", func := "prebend/prebendlaw16.ProfileCounts", spec := "profileCounts", unfollowed := true, recurses := true, apart := false, narrowed := true }
def ProfileCountsUptoSaid : Prop := profileCountsUptoRow.holds Try.pinned (OpenSpec.upto profileCountsSpec)

/-- 'prebendlaw16.ProfileFits', WHERE WHAT IT READS IS OF BULK AT MOST 1048576: true; the input reads as it did. -/
def profileFitsUptoRow : OpenClaim := { program := "ytedpoahndddgfaa", sum := "bec61b74b56e0ab97898639926ebf058b0834d4af2af783735d19eeadbc57904", func := "prebend/prebendlaw16.ProfileFits", spec := "profileFits", unfollowed := true, recurses := true, apart := false, narrowed := true }
def ProfileFitsUptoSaid : Prop := profileFitsUptoRow.holds Try.pinned (OpenSpec.upto profileFitsSpec)

/-- 'prebendlaw16.ProfileTakes', WHERE WHAT IT READS IS OF BULK AT MOST 1048576: true; the input reads as it did. -/
def profileTakesUptoRow : OpenClaim := { program := "ytedpoahndddgfaa", sum := "bec61b74b56e0ab97898639926ebf058b0834d4af2af783735d19eeadbc57904", func := "prebend/prebendlaw16.ProfileTakes", spec := "profileTakes", unfollowed := true, recurses := true, apart := false, narrowed := true }
def ProfileTakesUptoSaid : Prop := profileTakesUptoRow.holds Try.pinned (OpenSpec.upto profileTakesSpec)

/-- 'prebendlaw17.EasyNexts', WHERE WHAT IT READS IS OF BULK AT MOST 1048576: true; the input reads as it did. -/
def easyNextsUptoRow : OpenClaim := { program := "ytedpoahndddgfaa", sum := "bec61b74b56e0ab97898639926ebf058b0834d4af2af783735d19eeadbc57904", func := "prebend/prebendlaw17.EasyNexts", spec := "easyNexts", unfollowed := true, recurses := true, apart := false, narrowed := true }
def EasyNextsUptoSaid : Prop := easyNextsUptoRow.holds Try.pinned (OpenSpec.upto easyNextsSpec)

/-- 'prebendlaw17.EasyFits', WHERE WHAT IT READS IS OF BULK AT MOST 1048576: true; the input reads as it did. -/
def easyFitsUptoRow : OpenClaim := { program := "ytedpoahndddgfaa", sum := "bec61b74b56e0ab97898639926ebf058b0834d4af2af783735d19eeadbc57904", func := "prebend/prebendlaw17.EasyFits", spec := "easyFits", unfollowed := true, recurses := true, apart := false, narrowed := true }
def EasyFitsUptoSaid : Prop := easyFitsUptoRow.holds Try.pinned (OpenSpec.upto easyFitsSpec)

/-- 'prebendlaw17.EasyRefused', WHERE WHAT IT READS IS OF BULK AT MOST 1048576: true; the input reads as it did. -/
def easyRefusedUptoRow : OpenClaim := { program := "ytedpoahndddgfaa", sum := "bec61b74b56e0ab97898639926ebf058b0834d4af2af783735d19eeadbc57904", func := "prebend/prebendlaw17.EasyRefused", spec := "easyRefused", unfollowed := true, recurses := true, apart := false, narrowed := true }
def EasyRefusedUptoSaid : Prop := easyRefusedUptoRow.holds Try.pinned (OpenSpec.upto easyRefusedSpec)

/-- 'prebendlaw18.ConsPlans', WHERE WHAT IT READS IS OF BULK AT MOST 1048576: true; the input reads as it did. -/
def consPlansUptoRow : OpenClaim := { program := "ytedpoahndddgfaa", sum := "bec61b74b56e0ab97898639926ebf058b0834d4af2af783735d19eeadbc57904", func := "prebend/prebendlaw18.ConsPlans", spec := "consPlans", unfollowed := true, recurses := true, apart := false, narrowed := true }
def ConsPlansUptoSaid : Prop := consPlansUptoRow.holds Try.pinned (OpenSpec.upto consPlansSpec)

/-- 'prebendlaw18.ConsRoom', WHERE WHAT IT READS IS OF BULK AT MOST 1048576: true; the input reads as it did. -/
def consRoomUptoRow : OpenClaim := { program := "ytedpoahndddgfaa", sum := "bec61b74b56e0ab97898639926ebf058b0834d4af2af783735d19eeadbc57904", func := "prebend/prebendlaw18.ConsRoom", spec := "consRoom", unfollowed := true, recurses := true, apart := false, narrowed := true }
def ConsRoomUptoSaid : Prop := consRoomUptoRow.holds Try.pinned (OpenSpec.upto consRoomSpec)

/-- 'prebendlaw18.ConsLater', WHERE WHAT IT READS IS OF BULK AT MOST 1048576: true; the input reads as it did. -/
def consLaterUptoRow : OpenClaim := { program := "ytedpoahndddgfaa", sum := "bec61b74b56e0ab97898639926ebf058b0834d4af2af783735d19eeadbc57904", func := "prebend/prebendlaw18.ConsLater", spec := "consLater", unfollowed := true, recurses := true, apart := false, narrowed := true }
def ConsLaterUptoSaid : Prop := consLaterUptoRow.holds Try.pinned (OpenSpec.upto consLaterSpec)

end Rows
end Go.Proofs.Ytedpoahndddgfaa
