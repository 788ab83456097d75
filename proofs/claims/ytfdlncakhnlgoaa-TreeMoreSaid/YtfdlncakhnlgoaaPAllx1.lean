/- Contracts of functions of the program, each with a plain function of the same answers; written by a program of this workplace. -/
import Derived.Test.YtfdlncakhnlgoaaPAllx0
namespace Go.Proofs.Ytfdlncakhnlgoaa.PAll
open Go.RowKit Go.Proofs.YtfdlncakhnlgoaaW.PrintWords Go.Proofs.YtfdlncakhnlgoaaW.PrintLast Go.Proofs.YtfdlncakhnlgoaaW.PrintMore
attribute [local go_sem] max2_int min2_int max_two min_two max_three min_three max_four min_four   -- for this text's walks alone
set_option linter.unusedVariables false
set_option linter.unusedSimpArgs false

/-! ### prebendlaw08_few: function 7 -/
def prebendlaw08_few.f (l0 : List (S40)) (l1 : List (S43)) : Option ((List (S40)) × (List (S43))) := if (l0.length : Int) > 20 then (if 20 ≤ (l0.length : Int) then ((some (l0.take 20 : List (S40))).bind fun y101 => (if (l1.length : Int) > 20 then (if 20 ≤ (l1.length : Int) then (some (y101, (l1.take 20))) else (none)) else (some (y101, l1)))) else (none)) else (if (l1.length : Int) > 20 then (if 20 ≤ (l1.length : Int) then (some (l0, (l1.take 20))) else (none)) else (some (l0, l1)))
set_option maxHeartbeats 8000000 in
set_option maxRecDepth 100000 in
theorem prebendlaw08_few.calls (P0_ : Nat → Prop) (A0 : Option Addr) (c0 : Nat) (l0 : List (S40)) (P1_ : Nat → Prop) (A1 : Option Addr) (c1 : Nat) (l1 : List (S43)) (r1 : List (S40)) (r2 : List (S43)) (w : World) (hs0 : Kd.V k40 40 w w.heap.size (fun k_ => P0_ k_) (.slice A0 l0.length c0) l0) (hs1 : Kd.V k43 43 w w.heap.size (fun k_ => P1_ k_) (.slice A1 l1.length c1) l1) (h : prebendlaw08_few.f l0 l1 = some (r1, r2)) :
    Calls Try.prog 7 #[.slice A0 l0.length c0, .slice A1 l1.length c1] w fun e w' => ∃ v0_ v1_ : Value, e = .returned (.tuple #[v0_, v1_]) ∧ Kd.V k40 40 w' w.heap.size (fun k_ => ((P0_ k_ ∨ P1_ k_) ∨ w.heap.size ≤ k_)) v0_ r1 ∧ Kd.V k43 43 w' w.heap.size (fun k_ => ((P0_ k_ ∨ P1_ k_) ∨ w.heap.size ≤ k_)) v1_ r2 ∧ Below w.heap.size w w' := by
  have HO0 := Aside0.mk (show Kd.V k40 40 w w.heap.size (fun k_ => ((P0_ k_ ∨ P1_ k_) ∨ w.heap.size ≤ k_)) (.slice A0 l0.length c0) l0 from Kd.V_mono hs0 (fun k_ hk => .inl (.inl hk)))
  have HO1 := Aside0.mk (show Kd.V k43 43 w w.heap.size (fun k_ => ((P0_ k_ ∨ P1_ k_) ∨ w.heap.size ≤ k_)) (.slice A1 l1.length c1) l1 from Kd.V_mono hs1 (fun k_ hk => .inl (.inr hk)))
  have HB := Aside0.mk (Below.refl w.heap.size w)
  have H : (if (l0.length : Int) > 20 then (if 20 ≤ (l0.length : Int) then ((some (l0.take 20 : List (S40))).bind fun y101 => (if (l1.length : Int) > 20 then (if 20 ≤ (l1.length : Int) then (some (y101, (l1.take 20))) else (none)) else (some (y101, l1)))) else (none)) else (if (l1.length : Int) > 20 then (if 20 ≤ (l1.length : Int) then (some (l0, (l1.take 20))) else (none)) else (some (l0, l1)))) = some (r1, r2) := h
  clear h
  by_cases c3 : (l0.length : Int) > 20
  · rw [if_pos c3] at H
    have c3b0 : decide (20 < (l0.length : Int)) = true := decide_eq_true c3
    have c3b1 : decide (20 < l0.length) = true := decide_eq_true (by omega)
    clear c3
    by_cases c4 : 20 ≤ (l0.length : Int)
    · rw [if_pos c4] at H
      have c4b0 := eq_true c4
      have c4b1 : decide (20 ≤ (l0.length : Int)) = true := decide_eq_true c4
      clear c4
      obtain ⟨y101, hy101⟩ : ∃ y_ : List (S40), y_ = (l0.take 20) := ⟨_, rfl⟩
      replace H : (if (l1.length : Int) > 20 then (if 20 ≤ (l1.length : Int) then (some (y101, (l1.take 20))) else (none)) else (some (y101, l1))) = some (r1, r2) := by first | (rw [hy101]; with_reducible exact H) | (have H2_ := (Option.bind_some _ _).symm.trans H; rw [hy101]; with_reducible exact H2_) | (have H2_ := (Option.bind_some _ _).symm.trans H; with_reducible exact H2_) | with_reducible exact H | (rw [hy101]; exact H) | exact H
      have Ny101 := Aside0.mk hy101
      clear hy101
      by_cases c5 : (l1.length : Int) > 20
      · rw [if_pos c5] at H
        have c5b0 : decide (20 < (l1.length : Int)) = true := decide_eq_true c5
        have c5b1 : decide (20 < l1.length) = true := decide_eq_true (by omega)
        clear c5
        by_cases c6 : 20 ≤ (l1.length : Int)
        · rw [if_pos c6] at H
          have c6b0 := eq_true c6
          have c6b1 : decide (20 ≤ (l1.length : Int)) = true := decide_eq_true c6
          clear c6
          obtain ⟨y106, hy106⟩ : ∃ y_ : List (S43), y_ = (l1.take 20) := ⟨_, rfl⟩
          replace H : (some (y101, y106)) = some (r1, r2) := by first | (rw [hy106]; with_reducible exact H) | (have H2_ := (Option.bind_some _ _).symm.trans H; rw [hy106]; with_reducible exact H2_) | (have H2_ := (Option.bind_some _ _).symm.trans H; with_reducible exact H2_) | with_reducible exact H | (rw [hy106]; exact H) | exact H
          have Ny106 := Aside0.mk hy106
          clear hy106
          simp only [Option.some.injEq, Prod.mk.injEq] at H
          obtain ⟨rfl, rfl⟩ := H
          have q7 : (20 : Int) ≤ ((l0.length : Int) : Int) := of_decide_eq_true (by first | (with_reducible assumption) | assumption)
          obtain ⟨i07, hi07, _, hsz7, _⟩ := info_parts info40
          have hroom7 : l0.length ≤ c0 := (Kd.V_reads' HO0.out).2.1
          have hC7 : Kd.F k40 _ _ A0 l0.length l0 := (Kd.V_at (base := w.heap.size) HO0.out).2.2
          have hcut7 := cut_to (P := Try.prog) 22 40 .i64 Try.underlying22 hi07 A0 l0.length c0 20 (by omega) q7 hroom7
          have hr7 := Kd.F_take (m := 20) hC7 (by omega)
          have hy7 : y101.length = (20 : Int).toNat := (by rw [Ny101.out, List.length_take]; omega)
          rw [← Ny101.out] at hr7
          rw [← hy7] at hcut7
          have HO105 := Aside0.mk (show Kd.V k40 40 _ w.heap.size _ (.slice A0 y101.length c0) y101 from Kd.V_mk (by omega) hr7)
          have HC105 := Aside0.mk (show y101.length ≤ c0 from by omega)
          clear hr7 hC7 hroom7 hi07 hsz7
          have KY7 := Aside0.mk hy7
          clear hy7
          replace q7 := eq_true q7
          have q8 : (20 : Int) ≤ ((l1.length : Int) : Int) := of_decide_eq_true (by first | (with_reducible assumption) | assumption)
          obtain ⟨i08, hi08, _, hsz8, _⟩ := info_parts info43
          have hroom8 : l1.length ≤ c1 := (Kd.V_reads' HO1.out).2.1
          have hC8 : Kd.F k43 _ _ A1 l1.length l1 := (Kd.V_at (base := w.heap.size) HO1.out).2.2
          have hcut8 := cut_to (P := Try.prog) 23 43 .i64 Try.underlying23 hi08 A1 l1.length c1 20 (by omega) q8 hroom8
          have hr8 := Kd.F_take (m := 20) hC8 (by omega)
          have hy8 : y106.length = (20 : Int).toNat := (by rw [Ny106.out, List.length_take]; omega)
          rw [← Ny106.out] at hr8
          rw [← hy8] at hcut8
          have HO110 := Aside0.mk (show Kd.V k43 43 _ w.heap.size _ (.slice A1 y106.length c1) y106 from Kd.V_mk (by omega) hr8)
          have HC110 := Aside0.mk (show y106.length ≤ c1 from by omega)
          clear hr8 hC8 hroom8 hi08 hsz8
          have KY8 := Aside0.mk hy8
          clear hy8
          replace q8 := eq_true q8
          go_enter Try.func7, Try.ntmps7
          go_wp2
          go_ret2
          exact ⟨_, _, by first | rfl | (simp [errW_none, errW_some] <;> rfl) | (simp [*, errW_none, errW_some] <;> rfl), by (with_reducible repeat (first | apply Kd.V_alloc | apply Kd.V_drewN | apply Kd.V_drew)); exact HO105.out, by (with_reducible repeat (first | apply Kd.V_alloc | apply Kd.V_drewN | apply Kd.V_drew)); exact HO110.out, by repeat (first | (with_reducible first | exact HB.out | apply below_alloc | apply pw_below_drewN | apply below_drew1) | exact HB.out)⟩
        · rw [if_neg c6] at H
          exact absurd H (by simp)
      · rw [if_neg c5] at H
        have c5b0 : decide (20 < (l1.length : Int)) = false := decide_eq_false c5
        have c5b1 : decide (20 < l1.length) = false := decide_eq_false (by omega)
        clear c5
        simp only [Option.some.injEq, Prod.mk.injEq] at H
        obtain ⟨rfl, rfl⟩ := H
        have q9 : (20 : Int) ≤ ((l0.length : Int) : Int) := of_decide_eq_true (by first | (with_reducible assumption) | assumption)
        obtain ⟨i09, hi09, _, hsz9, _⟩ := info_parts info40
        have hroom9 : l0.length ≤ c0 := (Kd.V_reads' HO0.out).2.1
        have hC9 : Kd.F k40 _ _ A0 l0.length l0 := (Kd.V_at (base := w.heap.size) HO0.out).2.2
        have hcut9 := cut_to (P := Try.prog) 22 40 .i64 Try.underlying22 hi09 A0 l0.length c0 20 (by omega) q9 hroom9
        have hr9 := Kd.F_take (m := 20) hC9 (by omega)
        have hy9 : y101.length = (20 : Int).toNat := (by rw [Ny101.out, List.length_take]; omega)
        rw [← Ny101.out] at hr9
        rw [← hy9] at hcut9
        have HO105 := Aside0.mk (show Kd.V k40 40 _ w.heap.size _ (.slice A0 y101.length c0) y101 from Kd.V_mk (by omega) hr9)
        have HC105 := Aside0.mk (show y101.length ≤ c0 from by omega)
        clear hr9 hC9 hroom9 hi09 hsz9
        have KY9 := Aside0.mk hy9
        clear hy9
        replace q9 := eq_true q9
        go_enter Try.func7, Try.ntmps7
        go_wp2
        go_ret2
        exact ⟨_, _, by first | rfl | (simp [errW_none, errW_some] <;> rfl) | (simp [*, errW_none, errW_some] <;> rfl), by (with_reducible repeat (first | apply Kd.V_alloc | apply Kd.V_drewN | apply Kd.V_drew)); exact HO105.out, by (with_reducible repeat (first | apply Kd.V_alloc | apply Kd.V_drewN | apply Kd.V_drew)); exact HO1.out, by repeat (first | (with_reducible first | exact HB.out | apply below_alloc | apply pw_below_drewN | apply below_drew1) | exact HB.out)⟩
    · rw [if_neg c4] at H
      exact absurd H (by simp)
  · rw [if_neg c3] at H
    have c3b0 : decide (20 < (l0.length : Int)) = false := decide_eq_false c3
    have c3b1 : decide (20 < l0.length) = false := decide_eq_false (by omega)
    clear c3
    by_cases c10 : (l1.length : Int) > 20
    · rw [if_pos c10] at H
      have c10b0 : decide (20 < (l1.length : Int)) = true := decide_eq_true c10
      have c10b1 : decide (20 < l1.length) = true := decide_eq_true (by omega)
      clear c10
      by_cases c11 : 20 ≤ (l1.length : Int)
      · rw [if_pos c11] at H
        have c11b0 := eq_true c11
        have c11b1 : decide (20 ≤ (l1.length : Int)) = true := decide_eq_true c11
        clear c11
        obtain ⟨y111, hy111⟩ : ∃ y_ : List (S43), y_ = (l1.take 20) := ⟨_, rfl⟩
        replace H : (some (l0, y111)) = some (r1, r2) := by first | (rw [hy111]; with_reducible exact H) | (have H2_ := (Option.bind_some _ _).symm.trans H; rw [hy111]; with_reducible exact H2_) | (have H2_ := (Option.bind_some _ _).symm.trans H; with_reducible exact H2_) | with_reducible exact H | (rw [hy111]; exact H) | exact H
        have Ny111 := Aside0.mk hy111
        clear hy111
        simp only [Option.some.injEq, Prod.mk.injEq] at H
        obtain ⟨rfl, rfl⟩ := H
        have q12 : (20 : Int) ≤ ((l1.length : Int) : Int) := of_decide_eq_true (by first | (with_reducible assumption) | assumption)
        obtain ⟨i012, hi012, _, hsz12, _⟩ := info_parts info43
        have hroom12 : l1.length ≤ c1 := (Kd.V_reads' HO1.out).2.1
        have hC12 : Kd.F k43 _ _ A1 l1.length l1 := (Kd.V_at (base := w.heap.size) HO1.out).2.2
        have hcut12 := cut_to (P := Try.prog) 23 43 .i64 Try.underlying23 hi012 A1 l1.length c1 20 (by omega) q12 hroom12
        have hr12 := Kd.F_take (m := 20) hC12 (by omega)
        have hy12 : y111.length = (20 : Int).toNat := (by rw [Ny111.out, List.length_take]; omega)
        rw [← Ny111.out] at hr12
        rw [← hy12] at hcut12
        have HO115 := Aside0.mk (show Kd.V k43 43 _ w.heap.size _ (.slice A1 y111.length c1) y111 from Kd.V_mk (by omega) hr12)
        have HC115 := Aside0.mk (show y111.length ≤ c1 from by omega)
        clear hr12 hC12 hroom12 hi012 hsz12
        have KY12 := Aside0.mk hy12
        clear hy12
        replace q12 := eq_true q12
        go_enter Try.func7, Try.ntmps7
        go_wp2
        go_ret2
        exact ⟨_, _, by first | rfl | (simp [errW_none, errW_some] <;> rfl) | (simp [*, errW_none, errW_some] <;> rfl), by (with_reducible repeat (first | apply Kd.V_alloc | apply Kd.V_drewN | apply Kd.V_drew)); exact HO0.out, by (with_reducible repeat (first | apply Kd.V_alloc | apply Kd.V_drewN | apply Kd.V_drew)); exact HO115.out, by repeat (first | (with_reducible first | exact HB.out | apply below_alloc | apply pw_below_drewN | apply below_drew1) | exact HB.out)⟩
      · rw [if_neg c11] at H
        exact absurd H (by simp)
    · rw [if_neg c10] at H
      have c10b0 : decide (20 < (l1.length : Int)) = false := decide_eq_false c10
      have c10b1 : decide (20 < l1.length) = false := decide_eq_false (by omega)
      clear c10
      simp only [Option.some.injEq, Prod.mk.injEq] at H
      obtain ⟨rfl, rfl⟩ := H
      go_enter Try.func7, Try.ntmps7
      go_wp2
      go_ret2
      exact ⟨_, _, by first | rfl | (simp [errW_none, errW_some] <;> rfl) | (simp [*, errW_none, errW_some] <;> rfl), by (with_reducible repeat (first | apply Kd.V_alloc | apply Kd.V_drewN | apply Kd.V_drew)); exact HO0.out, by (with_reducible repeat (first | apply Kd.V_alloc | apply Kd.V_drewN | apply Kd.V_drew)); exact HO1.out, by repeat (first | (with_reducible first | exact HB.out | apply below_alloc | apply pw_below_drewN | apply below_drew1) | exact HB.out)⟩

end Go.Proofs.Ytfdlncakhnlgoaa.PAll
