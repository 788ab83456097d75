/- Contracts of functions of the program, each with a plain function of the same answers; written by a program of this workplace. -/
import Derived.Test.YtcocaapihhgckaaPAllx0
namespace Go.Proofs.Ytcocaapihhgckaa.PAll
open Go.RowKit Go.Proofs.YtcocaapihhgckaaW.PrintWords Go.Proofs.YtcocaapihhgckaaW.PrintLast Go.Proofs.YtcocaapihhgckaaW.PrintMore
attribute [local go_sem] max2_int min2_int max_two min_two max_three min_three max_four min_four   -- for this text's walks alone
set_option linter.unusedVariables false
set_option linter.unusedSimpArgs false

/-! ### plane_corner: function 23 -/
theorem plane_corner.calls (t n l m : Int) (w : World) :
    Calls Try.prog 23 #[.agg #[.int .i64 t, .int .i64 n, .int .i64 l, .int .i64 m]] w fun e w' => e = .returned (.complex .f64 (FloatKind.nearest .f64 t) (FloatKind.nearest .f64 n)) ∧ Below w.heap.size w w' := by
  go_enter Try.func23, Try.ntmps23
  go_wp2
  go_ret
  exact ⟨rfl, below_alloc (Below.refl _ _) _⟩
end Go.Proofs.Ytcocaapihhgckaa.PAll
