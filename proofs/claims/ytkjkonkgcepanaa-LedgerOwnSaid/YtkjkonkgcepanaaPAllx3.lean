/- Contracts of functions of the program, each with a plain function of the same answers; written by a program of this workplace. -/
import Derived.Test.YtkjkonkgcepanaaPAllx0
namespace Go.Proofs.Ytkjkonkgcepanaa.PAll
open Go.RowKit Go.Proofs.YtkjkonkgcepanaaW.PrintWords Go.Proofs.YtkjkonkgcepanaaW.PrintLast Go.Proofs.YtkjkonkgcepanaaW.PrintMore
attribute [local go_sem] max2_int min2_int max_two min_two max_three min_three max_four min_four   -- for this text's walks alone
set_option linter.unusedVariables false
set_option linter.unusedSimpArgs false

/-! ### ledger_place: function 22 -/
theorem place_world (p : Option Addr) (A : Option Addr) (n c : Nat) (w : World) :
    Calls Try.prog 22 #[.pointer p, .slice A n c, .int .i64 0] w fun e w' => e = .returned (.pointer p) ∧ w' = w := by
  go_enter Try.func22, Try.ntmps22
  go_wp2
  go_ret
  exact ⟨rfl, rfl⟩
theorem place_neg (p : Option Addr) (A : Option Addr) (n c : Nat) (acct : Int) (w : World) (h : acct < 0) :
    Calls Try.prog 22 #[.pointer p, .slice A n c, .int .i64 acct] w fun e w' => e = .returned (.pointer none) ∧ w' = w := by
  have c1 : (acct == 0) = false := beq_eq_false_iff_ne.mpr (by omega)
  have c2 : decide (acct < 0) = true := decide_eq_true h
  go_enter Try.func22, Try.ntmps22
  go_wp2
  go_ret
  exact ⟨rfl, rfl⟩
theorem place_past (p : Option Addr) (A : Option Addr) (n c : Nat) (acct : Int) (w : World) (h : 0 < acct) (h1 : acct < 9223372036854775808) (h2 : 3 * (n : Int) < acct) :
    Calls Try.prog 22 #[.pointer p, .slice A n c, .int .i64 acct] w fun e w' => e = .returned (.pointer none) ∧ w' = w := by
  have c1 : (acct == 0) = false := beq_eq_false_iff_ne.mpr (by omega)
  have c2 : decide (acct < 0) = false := decide_eq_false (by omega)
  have c3 : decide ((n : Int) ≤ wrap64 (Int.tdiv (wrap64 (acct - 1)) 3)) = true := by
    have e1 : wrap64 (acct - 1) = acct - 1 := by unfold wrap64; omega
    rw [e1, Int.tdiv_eq_ediv_of_nonneg (by omega)]
    have e2 : wrap64 ((acct - 1) / 3) = (acct - 1) / 3 := by unfold wrap64; omega
    rw [e2]; exact decide_eq_true (by omega)
  go_enter Try.func22, Try.ntmps22
  go_wp2
  go_ret
  exact ⟨rfl, rfl⟩
theorem place_at0 (p : Option Addr) (ad : Addr) (n c : Nat) (acct : Int) (j : Nat) (w : World) (h : acct = 1 + 3 * (j : Int)) (hj : j < n) (hn : n < 1000000) :
    Calls Try.prog 22 #[.pointer p, .slice (some ad) n c, .int .i64 acct] w fun e w' => e = .returned (.pointer (some ⟨(ad.add (j * 6)).block, (ad.add (j * 6)).off + 3, none⟩)) ∧ Below w.heap.size w w' := by
  have c1 : (acct == 0) = false := beq_eq_false_iff_ne.mpr (by omega)
  have c2 : decide (acct < 0) = false := decide_eq_false (by omega)
  have w1 : wrap64 (acct - 1) = 3 * (j : Int) := by unfold wrap64; omega
  have w2 : (3 * (j : Int)).tdiv 3 = (j : Int) := by rw [Int.tdiv_eq_ediv_of_nonneg (by omega)]; omega
  have w3 : wrap64 (j : Int) = (j : Int) := by unfold wrap64; omega
  have w4 : (3 * (j : Int)).tmod 3 = 0 := by rw [Int.tmod_eq_emod_of_nonneg (by omega)]; omega
  have c3 : decide ((n : Int) ≤ (j : Int)) = false := decide_eq_false (by omega)
  have c4 : decide (n ≤ j) = false := decide_eq_false (by omega)
  have c5 : (0 ≤ (j : Int)) = True := eq_true (by omega)
  have c6 : ((j : Int) < (n : Int)) = True := eq_true (by omega)
  have c7 : (j < n) = True := eq_true hj
  clear h hj hn
  go_enter Try.func22, Try.ntmps22
  go_wp2
  go_region
  all_goals go_wp2
  all_goals go_ret
  all_goals exact ⟨rfl, by repeat (first | exact Below.refl _ _ | apply below_drew1 | apply below_alloc | apply pw_below_drewN)⟩
theorem place_at1 (p : Option Addr) (ad : Addr) (n c : Nat) (acct : Int) (j : Nat) (w : World) (h : acct = 1 + 3 * (j : Int) + 1) (hj : j < n) (hn : n < 1000000) :
    Calls Try.prog 22 #[.pointer p, .slice (some ad) n c, .int .i64 acct] w fun e w' => e = .returned (.pointer (some ⟨(ad.add (j * 6)).block, (ad.add (j * 6)).off + 4, none⟩)) ∧ Below w.heap.size w w' := by
  have c1 : (acct == 0) = false := beq_eq_false_iff_ne.mpr (by omega)
  have c2 : decide (acct < 0) = false := decide_eq_false (by omega)
  have w1 : wrap64 (acct - 1) = 3 * (j : Int) + 1 := by unfold wrap64; omega
  have w2 : (3 * (j : Int) + 1).tdiv 3 = (j : Int) := by rw [Int.tdiv_eq_ediv_of_nonneg (by omega)]; omega
  have w3 : wrap64 (j : Int) = (j : Int) := by unfold wrap64; omega
  have w4 : (3 * (j : Int) + 1).tmod 3 = 1 := by rw [Int.tmod_eq_emod_of_nonneg (by omega)]; omega
  have c3 : decide ((n : Int) ≤ (j : Int)) = false := decide_eq_false (by omega)
  have c4 : decide (n ≤ j) = false := decide_eq_false (by omega)
  have c5 : (0 ≤ (j : Int)) = True := eq_true (by omega)
  have c6 : ((j : Int) < (n : Int)) = True := eq_true (by omega)
  have c7 : (j < n) = True := eq_true hj
  clear h hj hn
  go_enter Try.func22, Try.ntmps22
  go_wp2
  go_region
  all_goals go_wp2
  all_goals go_ret
  all_goals exact ⟨rfl, by repeat (first | exact Below.refl _ _ | apply below_drew1 | apply below_alloc | apply pw_below_drewN)⟩
theorem place_at2 (p : Option Addr) (ad : Addr) (n c : Nat) (acct : Int) (j : Nat) (w : World) (h : acct = 1 + 3 * (j : Int) + 2) (hj : j < n) (hn : n < 1000000) :
    Calls Try.prog 22 #[.pointer p, .slice (some ad) n c, .int .i64 acct] w fun e w' => e = .returned (.pointer (some ⟨(ad.add (j * 6)).block, (ad.add (j * 6)).off + 5, none⟩)) ∧ Below w.heap.size w w' := by
  have c1 : (acct == 0) = false := beq_eq_false_iff_ne.mpr (by omega)
  have c2 : decide (acct < 0) = false := decide_eq_false (by omega)
  have w1 : wrap64 (acct - 1) = 3 * (j : Int) + 2 := by unfold wrap64; omega
  have w2 : (3 * (j : Int) + 2).tdiv 3 = (j : Int) := by rw [Int.tdiv_eq_ediv_of_nonneg (by omega)]; omega
  have w3 : wrap64 (j : Int) = (j : Int) := by unfold wrap64; omega
  have w4 : (3 * (j : Int) + 2).tmod 3 = 2 := by rw [Int.tmod_eq_emod_of_nonneg (by omega)]; omega
  have c3 : decide ((n : Int) ≤ (j : Int)) = false := decide_eq_false (by omega)
  have c4 : decide (n ≤ j) = false := decide_eq_false (by omega)
  have c5 : (0 ≤ (j : Int)) = True := eq_true (by omega)
  have c6 : ((j : Int) < (n : Int)) = True := eq_true (by omega)
  have c7 : (j < n) = True := eq_true hj
  clear h hj hn
  go_enter Try.func22, Try.ntmps22
  go_wp2
  go_region
  all_goals go_wp2
  all_goals go_ret
  all_goals exact ⟨rfl, by repeat (first | exact Below.refl _ _ | apply below_drew1 | apply below_alloc | apply pw_below_drewN)⟩
theorem place_no (p : Option Addr) (A : Option Addr) (n c : Nat) (acct : Int) (w : World) (h : ¬ (0 ≤ acct ∧ acct ≤ 3 * (n : Int))) (hi : acct ≤ 9223372036854775807) :
    Calls Try.prog 22 #[.pointer p, .slice A n c, .int .i64 acct] w fun e w' => e = .returned (.pointer none) ∧ Below w.heap.size w w' := by
  by_cases n0 : acct < 0
  · exact (place_neg p A n c acct w n0).mono fun e w' h => ⟨h.1, h.2 ▸ Below.refl _ _⟩
  · exact (place_past p A n c acct w (by omega) (by omega) (by omega)).mono fun e w' h => ⟨h.1, h.2 ▸ Below.refl _ _⟩
theorem place_yes (q : Addr) (A : Option Addr) (n c : Nat) (acct : Int) (w : World) (h : 0 ≤ acct ∧ acct ≤ 3 * (n : Int)) (hn : n < 1000000) (hA : 0 < n → ∃ ad, A = some ad) :
    ∃ q2, Calls Try.prog 22 #[.pointer (some q), .slice A n c, .int .i64 acct] w fun e w' => e = .returned (.pointer (some q2)) ∧ Below w.heap.size w w' := by
  by_cases z : acct = 0
  · subst z
    exact ⟨q, (place_world _ A n c w).mono fun e w' h => ⟨h.1, h.2 ▸ Below.refl _ _⟩⟩
  · obtain ⟨ad, rfl⟩ := hA (by omega)
    obtain ⟨j, hj⟩ : ∃ j : Nat, (acct - 1) / 3 = (j : Int) := ⟨((acct - 1) / 3).toNat, by omega⟩
    have hm : (acct - 1) % 3 = 0 ∨ (acct - 1) % 3 = 1 ∨ (acct - 1) % 3 = 2 := by omega
    rcases hm with hm | hm | hm
    · exact ⟨_, place_at0 _ ad n c acct j w (by omega) (by omega) hn⟩
    · exact ⟨_, place_at1 _ ad n c acct j w (by omega) (by omega) hn⟩
    · exact ⟨_, place_at2 _ ad n c acct j w (by omega) (by omega) hn⟩
end Go.Proofs.Ytkjkonkgcepanaa.PAll
