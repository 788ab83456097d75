/- Contracts of functions of the program, each with a plain function of the same answers; written by a program of this workplace. -/
import Derived.Test.YtcocaapihhgckaaPAllx0
import Derived.Test.YtcocaapihhgckaaPAllx2
import Derived.Test.YtcocaapihhgckaaPAllx3
import Derived.Test.YtcocaapihhgckaaPAllx4
namespace Go.Proofs.Ytcocaapihhgckaa.PAll
open Go.RowKit Go.Proofs.YtcocaapihhgckaaW.PrintWords Go.Proofs.YtcocaapihhgckaaW.PrintLast Go.Proofs.YtcocaapihhgckaaW.PrintMore
attribute [local go_sem] max2_int min2_int max_two min_two max_three min_three max_four min_four   -- for this text's walks alone
set_option linter.unusedVariables false
set_option linter.unusedSimpArgs false

/-! ### plane_Area: function 11 -/
theorem plane_Area.bds {t n l m : Int} (h : plane_Good.f t n l m = some true) : 0 ≤ t ∧ t ≤ 1099511627776 ∧ 1 ≤ l ∧ l ≤ 1048576 ∧ 0 ≤ n ∧ n ≤ 31 ∧ 1 ≤ m ∧ m ≤ 32 - n := by
  have hw : ∀ a b c : Int, plane_within.f a b c = some (decide (a ≥ b) && decide (a ≤ c)) := by
    intro a b c; unfold plane_within.f; by_cases h : a ≥ b <;> simp [h]
  unfold plane_Good.f at h
  simp only [hw, Option.bind_some] at h
  by_cases h1 : (decide (t ≥ 0) && decide (t ≤ 1099511627776)) = true
  · rw [if_pos h1] at h
    by_cases h2 : (decide (l ≥ 1) && decide (l ≤ 1048576)) = true
    · rw [if_pos h2] at h
      by_cases h3 : (decide (n ≥ 0) && decide (n ≤ 31)) = true
      · rw [if_pos h3] at h
        simp at h h1 h2 h3
        unfold wrap64 at h
        omega
      · rw [if_neg h3] at h; simp at h
    · rw [if_neg h2] at h; simp at h
  · rw [if_neg h1] at h; simp at h
theorem cells_of {w w1 : World} {cs : Array Value} {T : TypeId} (hb : Below (w.alloc (.cells cs T (0, 0))).heap.size (w.alloc (.cells cs T (0, 0))) w1) (j : Nat) {v : Value} (hj : cs[j]? = some v) : w1.cell? ⟨w.heap.size, j, none⟩ = some v :=
  (hb.cell (p := ⟨w.heap.size, j, none⟩) (by simp)).trans (by have e := heap_alloc_new w (.cells cs T (0, 0)); simp only [World.cell?, e]; simpa using hj)
def plane_Area.f (a0_0 : Int) (a0_1 : Int) (a0_2 : Int) (a0_3 : Int) : Option Int := (plane_Good.f a0_0 a0_1 a0_2 a0_3).bind fun g => if g = true then some (a0_2 * a0_3) else some 0
set_option maxRecDepth 100000 in
theorem plane_Area.calls (a0_0 : Int) (a0_1 : Int) (a0_2 : Int) (a0_3 : Int) (r : Int) (w : World) (h : plane_Area.f a0_0 a0_1 a0_2 a0_3 = some r) :
    Calls Try.prog 11 #[.agg #[.int .i64 a0_0, .int .i64 a0_1, .int .i64 a0_2, .int .i64 a0_3]] w fun e w' => e = .returned (.int .i64 r) ∧ Below w.heap.size w w' := by
  obtain ⟨g, hg, h2⟩ := Option.bind_eq_some_iff.1 h
  have HG := Aside0.mk hg
  clear h
  cases g with
  | false =>
    obtain rfl : r = 0 := by simpa using h2.symm
    clear hg h2
    go_enter Try.func11, Try.ntmps11
    go_wp2_with (go_at_call 9; refine (plane_Good.calls a0_0 a0_1 a0_2 a0_3 false _ HG.out).mono ?_; rintro e w1 ⟨rfl, hb⟩)
    go_ret
    exact ⟨rfl, (below_alloc (Below.refl _ _) _).trans (hb.mono (by simp))⟩
  | true =>
    obtain rfl : r = a0_2 * a0_3 := by simpa using h2.symm
    obtain ⟨b1, b2, b3, b4, b5, b6, b7, b8⟩ := plane_Area.bds hg
    have hp : 0 ≤ a0_2 * a0_3 ∧ a0_2 * a0_3 ≤ 1048576 * 1048576 := ⟨Int.mul_nonneg (by omega) (by omega), Int.le_trans (Int.mul_le_mul_of_nonneg_right b4 (by omega)) (Int.mul_le_mul_of_nonneg_left (by omega) (by omega))⟩
    obtain ⟨z, hz, iz⟩ := Flt.is_mul (Flt.is_int a0_2 (by omega)) (Flt.is_int a0_3 (by omega)) (by omega)
    have R1 := run_mul _ _ _ hz
    have R2 := run_toint z (a0_2 * a0_3) (Flt.is_toInt iz) (by omega) (by omega)
    clear hg h2 b1 b2 b3 b4 b5 b6 b7 b8 hp hz iz
    go_enter Try.func11, Try.ntmps11
    go_wp2_with (first | (go_at_call 9; refine (plane_Good.calls a0_0 a0_1 a0_2 a0_3 true _ HG.out).mono ?_; rintro e w1 ⟨rfl, hb⟩; have c0 := cells_of hb 0 rfl; have c1 := cells_of hb 1 rfl; have c2 := cells_of hb 2 rfl; have c3 := cells_of hb 3 rfl) | (go_at_call 22; refine (plane_size.calls a0_0 a0_1 a0_2 a0_3 _).mono ?_; rintro e w2 ⟨rfl, hb2⟩))
    go_ret
    exact ⟨rfl, ((below_alloc (Below.refl _ _) _).trans (hb.mono (by simp))).trans (hb2.mono (by have := hb.size; simp at this; omega))⟩
end Go.Proofs.Ytcocaapihhgckaa.PAll
