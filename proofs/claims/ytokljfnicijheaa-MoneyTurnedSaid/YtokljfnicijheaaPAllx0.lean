/- Contracts of functions of the program, each with a plain function of the same answers; written by a program of this workplace. -/
import Derived.Test.YtokljfnicijheaaProg
import Derived.Below
import Derived.Deep.Draws
import Derived.Deep.AppendLies
import Derived.Maps.AppendAt
import Derived.OwnWalk
import Derived.Laws.BytesArg
import Derived.Laws.MakeOwn
import Derived.Laws.OwnMore
import Derived.Deep.OwnRows
import Derived.Tactics
import Derived.Lib.ConvBytes
import Derived.Laws.Slices
import Derived.WalkKit
import Derived.KernelRfl
import Derived.RowKit3
import Derived.Deep.LoopGhost
import Derived.Deep.QuietTactic
import Derived.BigQuiet
import Derived.WideLaws
import Derived.Deep.DeepCutAuto
import Derived.Deep.CutBlock
import Derived.Deep.RegionHeld3
import Derived.Laws.Rows
import Derived.Lib.AppendStr
import Derived.ArgAppend
import Derived.Laws.IdiomCopy
import Derived.OrdersHeld
import Derived.Laws.BitsLemmas
import Derived.RowKit
import Derived.Test.YtokljfnicijheaaWWords
import Derived.Test.YtokljfnicijheaaWLast
import Derived.Test.YtokljfnicijheaaWTab
import Derived.Test.YtokljfnicijheaaWFour
import Derived.Test.YtokljfnicijheaaWQPut
import Derived.Test.YtokljfnicijheaaWApart
import Derived.Test.YtokljfnicijheaaWArr
import Derived.Test.YtokljfnicijheaaWZeros
import Derived.Test.YtokljfnicijheaaWFoot
import Derived.Test.YtokljfnicijheaaWKept
import Derived.Test.YtokljfnicijheaaWShare
import Derived.Test.YtokljfnicijheaaWN
import Derived.Test.YtokljfnicijheaaWFootNe
import Derived.Test.YtokljfnicijheaaWAt
import Derived.Test.YtokljfnicijheaaWEqStruct
import Derived.Test.YtokljfnicijheaaWRepsOne
import Derived.Test.YtokljfnicijheaaWInv
import Derived.Test.YtokljfnicijheaaWInvWords
import Derived.Test.YtokljfnicijheaaWGuard
import Derived.Test.YtokljfnicijheaaWNEv
import Derived.Test.YtokljfnicijheaaWMore
namespace Go.Proofs.Ytokljfnicijheaa.PAll
open Go.RowKit Go.Proofs.YtokljfnicijheaaW.PrintWords Go.Proofs.YtokljfnicijheaaW.PrintLast Go.Proofs.YtokljfnicijheaaW.PrintMore
attribute [local go_sem] max2_int min2_int max_two min_two max_three min_three max_four min_four   -- for this text's walks alone
set_option linter.unusedVariables false
set_option linter.unusedSimpArgs false



def errW : Option Int → Value
  | none => .nilIface
  | some c => .iface 0 (.int .i64 c)
theorem errW_none : errW none = .nilIface := rfl
theorem errW_some (c : Int) : errW (some c) = .iface 0 (.int .i64 c) := rfl

theorem info3 : (Try.prog.info? 3).map (fun i => (i.zero, i.size, i.bytes)) = some (some (.int .i64 0), 1, 8) := by kernel_rfl
-- the values' own types

end Go.Proofs.Ytokljfnicijheaa.PAll
