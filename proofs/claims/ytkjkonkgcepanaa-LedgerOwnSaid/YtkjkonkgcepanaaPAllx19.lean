/- Contracts of functions of the program, each with a plain function of the same answers; written by a program of this workplace. -/
import Derived.Test.YtkjkonkgcepanaaPAllx0
import Derived.Test.YtkjkonkgcepanaaPAllx3
import Derived.Test.YtkjkonkgcepanaaPAllx8
namespace Go.Proofs.Ytkjkonkgcepanaa.PAll
open Go.RowKit Go.Proofs.YtkjkonkgcepanaaW.PrintWords Go.Proofs.YtkjkonkgcepanaaW.PrintLast Go.Proofs.YtkjkonkgcepanaaW.PrintMore
attribute [local go_sem] max2_int min2_int max_two min_two max_three min_three max_four min_four   -- for this text's walks alone
set_option linter.unusedVariables false
set_option linter.unusedSimpArgs false

/-! ### ledger_Amount: function 14 -/
-- beside ledger_place.calls, slices_Clone_Alloc.calls
/-- What is in an account. -/
def fieldOf (x : S39) (m : Int) : Int := if m = 0 then x.f3 else if m = 1 then x.f4 else x.f5
def acctOf (a0 : Int) (l : List S39) (a : Int) : Int := if a = 0 then a0 else fieldOf (rd_T39 l ((a - 1) / 3)) ((a - 1) % 3)
def ledger_Amount.f (a0 : Int) (l1 : List S39) (a2 : Int) : Option (Int × Int) := if (l1.length : Int) < 1000000 ∧ -9223372036854775808 ≤ a2 ∧ a2 ≤ 9223372036854775807 then (if 0 ≤ a2 ∧ a2 ≤ 3 * (l1.length : Int) then some (acctOf a0 l1 a2, 0) else some (0, 4)) else none
theorem clone_f (l : List S39) (h : (l.length : Int) < 1000000) : slices_Clone_Alloc.f l = some l := by
  unfold slices_Clone_Alloc.f; simp only [Option.bind_some]; rw [if_pos (by simp; omega)]; rfl
theorem box_cell {w w1 : World} {x : Value} {T : TypeId} (hb : Below (w.alloc (.cells #[x] T (0, 0))).heap.size (w.alloc (.cells #[x] T (0, 0))) w1) : w1.cell? ⟨w.heap.size, 0, none⟩ = some x :=
  (hb.cell (p := ⟨w.heap.size, 0, none⟩) (by simp)).trans (by have e := heap_alloc_new w (.cells #[x] T (0, 0)); simp only [World.cell?, e]; simp)
set_option maxHeartbeats 4000000 in
theorem amount_out (a0 : Int) (A1 : Option Addr) (c1 : Nat) (l1 : List S39) (a2 : Int) (w : World) (hr1 : Kd.C k39 w A1 l1.length l1) (hc1 : l1.length ≤ c1) (hl : (l1.length : Int) < 1000000)
    (hp : ∀ p A c w, Calls Try.prog 22 #[.pointer p, .slice A l1.length c, .int .i64 a2] w fun e w' => e = .returned (.pointer none) ∧ w' = w) :
    Calls Try.prog 14 #[.int .i64 a0, .slice A1 l1.length c1, .int .i64 a2] w fun e w' => e = .returned (.tuple #[.int .i64 0, .int .i64 4]) ∧ Below w.heap.size w w' := by
  have HR1 := Aside0.mk hr1
  have HC1 := Aside0.mk hc1
  have HP := Aside0.mk hp
  have HF := Aside0.mk (clone_f l1 hl)
  clear hr1 hc1 hp hl
  go_enter Try.func14, Try.ntmps14
  go_wp2_with (first | (go_at_call 20; with_reducible refine (slices_Clone_Alloc.calls A1 c1 l1 l1 _ (Kd.C_below HR1.out (below_alloc (Below.refl _ _) _)) HC1.out HF.out).mono ?_; rintro e w1 ⟨v, rfl, ho, hb⟩; obtain ⟨A, c, rfl, hcc, hC⟩ := Kd.R_reads ho; have HB := Aside0.mk ((below_alloc (Below.refl w.heap.size w) _).trans (hb.mono (by simp))); clear ho hb hcc hC) | (go_at_call 22; with_reducible refine (HP.out _ _ _ _).mono ?_; rintro e w2 ⟨rfl, rfl⟩))
  go_ret2
  exact ⟨rfl, HB.out⟩
set_option maxHeartbeats 4000000 in
theorem amount_world (a0 : Int) (A1 : Option Addr) (c1 : Nat) (l1 : List S39) (w : World) (hr1 : Kd.C k39 w A1 l1.length l1) (hc1 : l1.length ≤ c1) (hl : (l1.length : Int) < 1000000) :
    Calls Try.prog 14 #[.int .i64 a0, .slice A1 l1.length c1, .int .i64 0] w fun e w' => e = .returned (.tuple #[.int .i64 a0, .int .i64 0]) ∧ Below w.heap.size w w' := by
  have HR1 := Aside0.mk hr1
  have HC1 := Aside0.mk hc1
  have HF := Aside0.mk (clone_f l1 hl)
  clear hr1 hc1 hl
  go_enter Try.func14, Try.ntmps14
  go_wp2_with (first | (go_at_call 20; with_reducible refine (slices_Clone_Alloc.calls A1 c1 l1 l1 _ (Kd.C_below HR1.out (below_alloc (Below.refl _ _) _)) HC1.out HF.out).mono ?_; rintro e w1 ⟨v, rfl, ho, hb⟩; obtain ⟨A, c, rfl, hcc, hC⟩ := Kd.R_reads ho; have HB := Aside0.mk ((below_alloc (Below.refl w.heap.size w) _).trans (hb.mono (by simp))); have hx : w1.cell? ⟨w.heap.size, 0, none⟩ = some (.int .i64 a0) := box_cell hb; clear ho hb hcc hC) | (go_at_call 22; with_reducible refine (place_world _ _ _ _ _).mono ?_; rintro e w2 ⟨rfl, rfl⟩))
  go_ret2
  exact ⟨rfl, HB.out⟩
set_option maxHeartbeats 4000000 in
theorem amount_at0 (a0 : Int) (A1 : Option Addr) (c1 : Nat) (l1 : List S39) (a2 : Int) (j : Nat) (w : World) (hr1 : Kd.C k39 w A1 l1.length l1) (hc1 : l1.length ≤ c1) (hl : (l1.length : Int) < 1000000) (h : a2 = 1 + 3 * (j : Int)) (hj : j < l1.length) :
    Calls Try.prog 14 #[.int .i64 a0, .slice A1 l1.length c1, .int .i64 a2] w fun e w' => e = .returned (.tuple #[.int .i64 (rd_T39 l1 (j : Int)).f3, .int .i64 0]) ∧ Below w.heap.size w w' := by
  have HR1 := Aside0.mk hr1
  have HC1 := Aside0.mk hc1
  have HF := Aside0.mk (clone_f l1 hl)
  have HJ := Aside0.mk hj
  have HL := Aside0.mk hl
  have HA := Aside0.mk h
  clear hr1 hc1 hl hj h
  go_enter Try.func14, Try.ntmps14
  go_wp2_with (first | (go_at_call 20; with_reducible refine (slices_Clone_Alloc.calls A1 c1 l1 l1 _ (Kd.C_below HR1.out (below_alloc (Below.refl _ _) _)) HC1.out HF.out).mono ?_; rintro e w1 ⟨v, rfl, ho, hb⟩; obtain ⟨A, c, rfl, hcc, hC⟩ := Kd.R_reads ho; obtain ⟨ad, hA, q0, q1, q2, q3, q4, q5⟩ := at_T39 hC (j : Int) (by omega) (by have := HJ.out; omega); cases hA; rw [show ((j : Int)).toNat = j by omega] at q3 q4 q5; clear q0 q1 q2; have HB := Aside0.mk ((below_alloc (Below.refl w.heap.size w) _).trans (hb.mono (by simp))); clear ho hb hcc hC) | (go_at_call 22; with_reducible refine (place_at0 _ ad _ _ a2 j _ HA.out HJ.out (by have := HL.out; omega)).mono ?_; rintro e w2 ⟨rfl, hb⟩; replace q3 := (hb.cell (World.block_lt_of_cell? _ _ q3)).trans q3; replace q4 := (hb.cell (World.block_lt_of_cell? _ _ q4)).trans q4; replace q5 := (hb.cell (World.block_lt_of_cell? _ _ q5)).trans q5; have HB2 := Aside0.mk (HB.out.trans (hb.mono HB.out.size)); clear hb))
  go_ret2
  exact ⟨rfl, HB2.out⟩
set_option maxHeartbeats 4000000 in
theorem amount_at1 (a0 : Int) (A1 : Option Addr) (c1 : Nat) (l1 : List S39) (a2 : Int) (j : Nat) (w : World) (hr1 : Kd.C k39 w A1 l1.length l1) (hc1 : l1.length ≤ c1) (hl : (l1.length : Int) < 1000000) (h : a2 = 1 + 3 * (j : Int) + 1) (hj : j < l1.length) :
    Calls Try.prog 14 #[.int .i64 a0, .slice A1 l1.length c1, .int .i64 a2] w fun e w' => e = .returned (.tuple #[.int .i64 (rd_T39 l1 (j : Int)).f4, .int .i64 0]) ∧ Below w.heap.size w w' := by
  have HR1 := Aside0.mk hr1
  have HC1 := Aside0.mk hc1
  have HF := Aside0.mk (clone_f l1 hl)
  have HJ := Aside0.mk hj
  have HL := Aside0.mk hl
  have HA := Aside0.mk h
  clear hr1 hc1 hl hj h
  go_enter Try.func14, Try.ntmps14
  go_wp2_with (first | (go_at_call 20; with_reducible refine (slices_Clone_Alloc.calls A1 c1 l1 l1 _ (Kd.C_below HR1.out (below_alloc (Below.refl _ _) _)) HC1.out HF.out).mono ?_; rintro e w1 ⟨v, rfl, ho, hb⟩; obtain ⟨A, c, rfl, hcc, hC⟩ := Kd.R_reads ho; obtain ⟨ad, hA, q0, q1, q2, q3, q4, q5⟩ := at_T39 hC (j : Int) (by omega) (by have := HJ.out; omega); cases hA; rw [show ((j : Int)).toNat = j by omega] at q3 q4 q5; clear q0 q1 q2; have HB := Aside0.mk ((below_alloc (Below.refl w.heap.size w) _).trans (hb.mono (by simp))); clear ho hb hcc hC) | (go_at_call 22; with_reducible refine (place_at1 _ ad _ _ a2 j _ HA.out HJ.out (by have := HL.out; omega)).mono ?_; rintro e w2 ⟨rfl, hb⟩; replace q3 := (hb.cell (World.block_lt_of_cell? _ _ q3)).trans q3; replace q4 := (hb.cell (World.block_lt_of_cell? _ _ q4)).trans q4; replace q5 := (hb.cell (World.block_lt_of_cell? _ _ q5)).trans q5; have HB2 := Aside0.mk (HB.out.trans (hb.mono HB.out.size)); clear hb))
  go_ret2
  exact ⟨rfl, HB2.out⟩
set_option maxHeartbeats 4000000 in
theorem amount_at2 (a0 : Int) (A1 : Option Addr) (c1 : Nat) (l1 : List S39) (a2 : Int) (j : Nat) (w : World) (hr1 : Kd.C k39 w A1 l1.length l1) (hc1 : l1.length ≤ c1) (hl : (l1.length : Int) < 1000000) (h : a2 = 1 + 3 * (j : Int) + 2) (hj : j < l1.length) :
    Calls Try.prog 14 #[.int .i64 a0, .slice A1 l1.length c1, .int .i64 a2] w fun e w' => e = .returned (.tuple #[.int .i64 (rd_T39 l1 (j : Int)).f5, .int .i64 0]) ∧ Below w.heap.size w w' := by
  have HR1 := Aside0.mk hr1
  have HC1 := Aside0.mk hc1
  have HF := Aside0.mk (clone_f l1 hl)
  have HJ := Aside0.mk hj
  have HL := Aside0.mk hl
  have HA := Aside0.mk h
  clear hr1 hc1 hl hj h
  go_enter Try.func14, Try.ntmps14
  go_wp2_with (first | (go_at_call 20; with_reducible refine (slices_Clone_Alloc.calls A1 c1 l1 l1 _ (Kd.C_below HR1.out (below_alloc (Below.refl _ _) _)) HC1.out HF.out).mono ?_; rintro e w1 ⟨v, rfl, ho, hb⟩; obtain ⟨A, c, rfl, hcc, hC⟩ := Kd.R_reads ho; obtain ⟨ad, hA, q0, q1, q2, q3, q4, q5⟩ := at_T39 hC (j : Int) (by omega) (by have := HJ.out; omega); cases hA; rw [show ((j : Int)).toNat = j by omega] at q3 q4 q5; clear q0 q1 q2; have HB := Aside0.mk ((below_alloc (Below.refl w.heap.size w) _).trans (hb.mono (by simp))); clear ho hb hcc hC) | (go_at_call 22; with_reducible refine (place_at2 _ ad _ _ a2 j _ HA.out HJ.out (by have := HL.out; omega)).mono ?_; rintro e w2 ⟨rfl, hb⟩; replace q3 := (hb.cell (World.block_lt_of_cell? _ _ q3)).trans q3; replace q4 := (hb.cell (World.block_lt_of_cell? _ _ q4)).trans q4; replace q5 := (hb.cell (World.block_lt_of_cell? _ _ q5)).trans q5; have HB2 := Aside0.mk (HB.out.trans (hb.mono HB.out.size)); clear hb))
  go_ret2
  exact ⟨rfl, HB2.out⟩
theorem ledger_Amount.calls (a0 : Int) (A1 : Option Addr) (c1 : Nat) (l1 : List S39) (a2 : Int) (r1 : Int) (r2 : Int) (w : World) (hr1 : Kd.C k39 w A1 l1.length l1) (hc1 : l1.length ≤ c1) (h : ledger_Amount.f a0 l1 a2 = some (r1, r2)) :
    Calls Try.prog 14 #[.int .i64 a0, .slice A1 l1.length c1, .int .i64 a2] w fun e w' => e = .returned (.tuple #[.int .i64 r1, .int .i64 r2]) ∧ Below w.heap.size w w' := by
  unfold ledger_Amount.f at h
  by_cases c : (l1.length : Int) < 1000000 ∧ -9223372036854775808 ≤ a2 ∧ a2 ≤ 9223372036854775807
  · rw [if_pos c] at h
    by_cases c2 : 0 ≤ a2 ∧ a2 ≤ 3 * (l1.length : Int)
    · rw [if_pos c2] at h
      obtain ⟨rfl, rfl⟩ : acctOf a0 l1 a2 = r1 ∧ 0 = r2 := by simpa using h
      by_cases z : a2 = 0
      · subst z; exact amount_world a0 A1 c1 l1 w hr1 hc1 c.1
      · have e0 : acctOf a0 l1 a2 = fieldOf (rd_T39 l1 ((a2 - 1) / 3)) ((a2 - 1) % 3) := by unfold acctOf; rw [if_neg z]
        obtain ⟨j, hj⟩ : ∃ j : Nat, (a2 - 1) / 3 = (j : Int) := ⟨((a2 - 1) / 3).toNat, by omega⟩
        have hm : (a2 - 1) % 3 = 0 ∨ (a2 - 1) % 3 = 1 ∨ (a2 - 1) % 3 = 2 := by omega
        rw [e0, hj]
        rcases hm with hm | hm | hm <;> rw [hm]
        · exact amount_at0 a0 A1 c1 l1 a2 j w hr1 hc1 c.1 (by omega) (by omega)
        · exact amount_at1 a0 A1 c1 l1 a2 j w hr1 hc1 c.1 (by omega) (by omega)
        · exact amount_at2 a0 A1 c1 l1 a2 j w hr1 hc1 c.1 (by omega) (by omega)
    · rw [if_neg c2] at h
      obtain ⟨rfl, rfl⟩ : 0 = r1 ∧ 4 = r2 := by simpa using h
      refine amount_out a0 A1 c1 l1 a2 w hr1 hc1 c.1 (fun p A c' w' => ?_)
      by_cases n : a2 < 0
      · exact place_neg _ _ _ _ _ _ n
      · exact place_past _ _ _ _ _ _ (by omega) (by omega) (by omega)
  · rw [if_neg c] at h; simp at h
end Go.Proofs.Ytkjkonkgcepanaa.PAll
