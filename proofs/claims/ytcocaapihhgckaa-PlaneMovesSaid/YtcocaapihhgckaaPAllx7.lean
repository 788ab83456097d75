/- Contracts of functions of the program, each with a plain function of the same answers; written by a program of this workplace. -/
import Derived.Test.YtcocaapihhgckaaPAllx0
import Derived.Test.YtcocaapihhgckaaPAllx4
namespace Go.Proofs.Ytcocaapihhgckaa.PAll
open Go.RowKit Go.Proofs.YtcocaapihhgckaaW.PrintWords Go.Proofs.YtcocaapihhgckaaW.PrintLast Go.Proofs.YtcocaapihhgckaaW.PrintMore
attribute [local go_sem] max2_int min2_int max_two min_two max_three min_three max_four min_four   -- for this text's walks alone
set_option linter.unusedVariables false
set_option linter.unusedSimpArgs false

/-! ### plane_short: function 24 -/
-- beside plane_size.calls
theorem short_calls (x y : Nat) (a b : Int) (w : World) (hx : Flt.Is x a) (hy : Flt.Is y b) :
    Calls Try.prog 24 #[.float .f64 x, .float .f64 y] w fun e w' => e = .returned (.bool (decide (a < b))) ∧ Drawn0 w w' := by
  have hlt : (FloatKind.f64.format.order x y == some Ordering.lt) = decide (a < b) := by
    show (Ieee.double.order x y == some Ordering.lt) = decide (a < b)
    rw [Flt.is_order hx hy]
    simp only [compare, compareOfLessAndEq]
    by_cases h : a < b
    · simp [h]
    · by_cases h2 : a = b <;> simp [h, h2]
  have HL := Aside0.mk hlt
  clear hlt hx hy
  go_enter Try.func24, Try.ntmps24
  go_wp2
  go_ret
  exact ⟨by rw [← HL.out]; rfl, by repeat (first | exact Drawn0.refl _ | apply Drawn0.step)⟩
theorem short_at (x y : Nat) (a b : Int) (p : Bool) (w : World) (hx : Flt.Is x a) (hy : Flt.Is y b) (hp : decide (a < b) = p) :
    Calls Try.prog 24 #[.float .f64 x, .float .f64 y] w fun e w' => e = .returned (.bool p) ∧ Below w.heap.size w w' := by
  subst hp
  refine (short_calls x y a b w hx hy).mono ?_
  rintro e w' ⟨rfl, h⟩
  exact ⟨rfl, h.below⟩
end Go.Proofs.Ytcocaapihhgckaa.PAll
