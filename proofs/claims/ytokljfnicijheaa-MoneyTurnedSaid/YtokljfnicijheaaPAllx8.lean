/- Contracts of functions of the program, each with a plain function of the same answers; written by a program of this workplace. -/
import Derived.Test.YtokljfnicijheaaPAllx0
import Derived.Test.YtokljfnicijheaaPAllx6
import Derived.Test.YtokljfnicijheaaPAllx7
namespace Go.Proofs.Ytokljfnicijheaa.PAll
open Go.RowKit Go.Proofs.YtokljfnicijheaaW.PrintWords Go.Proofs.YtokljfnicijheaaW.PrintLast Go.Proofs.YtokljfnicijheaaW.PrintMore
attribute [local go_sem] max2_int min2_int max_two min_two max_three min_three max_four min_four   -- for this text's walks alone
set_option linter.unusedVariables false
set_option linter.unusedSimpArgs false

/-! ### money_times: function 18 -/
def money_times.j0 : Nat → Int → Int → Int → Bool → Option (Int × Bool)
  | 0, _, _, _, _ => none
  | k + 1, x0, x1, x7, x21 => if x21 = true then (some (0, false)) else (if ((decide (x0 < 0)) != (decide (x1 < 0))) = true then (some (wrap64 (-(wrap64 (x7))), true)) else (some (wrap64 (x7), true)))
def money_times.f (k : Nat) (a0 : Int) (a1 : Int) : Option (Int × Bool) := (money_size.f a0).bind fun t121 => ((money_size.f a1).bind fun t122 => ((bits_Mul64.f t121 t122).bind fun bt123 => (if bt123.1 > 0 then (money_times.j0 k a0 a1 bt123.2 true) else (money_times.j0 k a0 a1 bt123.2 (decide (bt123.2 > 1152921504606846976))))))
theorem money_times.mono_l : ∀ k, (∀ y0 y1 y2 y3, LeO (money_times.j0 k y0 y1 y2 y3) (money_times.j0 (k + 1) y0 y1 y2 y3))
  | 0 => fun _ _ _ _ r h => by simp [money_times.j0] at h
  | k + 1 => by
    have ih0 := money_times.mono_l k
    · intro y0 y1 y2 y3
      unfold money_times.j0
      repeat' first
      | (with_reducible exact ih0 _ _ _ _)
      | (with_reducible exact LeO.refl _)
      | (with_reducible exact LeO.none _)
      | (with_reducible refine LeO.ite ?_ ?_)
      | (with_reducible refine LeO.bind ?_ (fun _ => ?_))
      | exact ih0 _ _ _ _
      | exact LeO.none _
      | refine LeO.ite ?_ ?_
      | refine LeO.bind ?_ (fun _ => ?_)
theorem money_times.mono : ∀ a0 a1 k, LeO (money_times.f k a0 a1) (money_times.f (k + 1) a0 a1) := by
  intro a0 a1 k
  have ih0 := money_times.mono_l k
  unfold money_times.f
  repeat' first
      | (with_reducible exact ih0 _ _ _ _)
      | (with_reducible exact LeO.refl _)
      | (with_reducible exact LeO.none _)
      | (with_reducible refine LeO.ite ?_ ?_)
      | (with_reducible refine LeO.bind ?_ (fun _ => ?_))
      | exact ih0 _ _ _ _
      | exact LeO.none _
      | refine LeO.ite ?_ ?_
      | refine LeO.bind ?_ (fun _ => ?_)
set_option maxHeartbeats 8000000 in
set_option maxRecDepth 100000 in
theorem money_times.calls (k : Nat) (a0 : Int) (a1 : Int) (r1 : Int) (r2 : Bool) (w : World) (h : money_times.f k a0 a1 = some (r1, r2)) :
    Calls Try.prog 18 #[.int .i64 a0, .int .i64 a1] w fun e w' => e = .returned (.tuple #[.int .i64 r1, .bool r2]) ∧ Drawn0 w w' := by
  have H : ((money_size.f a0).bind fun t121 => ((money_size.f a1).bind fun t122 => ((bits_Mul64.f t121 t122).bind fun bt123 => (if bt123.1 > 0 then (money_times.j0 k a0 a1 bt123.2 true) else (money_times.j0 k a0 a1 bt123.2 (decide (bt123.2 > 1152921504606846976))))))) = some (r1, r2) := h
  clear h
  replace H := Option.bind_eq_some_iff.mp H
  obtain ⟨t121, A30, H⟩ := H
  replace H : ((money_size.f a1).bind fun t122 => ((bits_Mul64.f t121 t122).bind fun bt123 => (if bt123.1 > 0 then (money_times.j0 k a0 a1 bt123.2 true) else (money_times.j0 k a0 a1 bt123.2 (decide (bt123.2 > 1152921504606846976)))))) = some (r1, r2) := H
  have A3 := Aside0.mk A30
  clear A30
  replace H := Option.bind_eq_some_iff.mp H
  obtain ⟨t122, A40, H⟩ := H
  replace H : ((bits_Mul64.f t121 t122).bind fun bt123 => (if bt123.1 > 0 then (money_times.j0 k a0 a1 bt123.2 true) else (money_times.j0 k a0 a1 bt123.2 (decide (bt123.2 > 1152921504606846976))))) = some (r1, r2) := H
  have A4 := Aside0.mk A40
  clear A40
  replace H := Option.bind_eq_some_iff.mp H
  obtain ⟨⟨t123, t124⟩, A50, H⟩ := H
  replace H : (if t123 > 0 then (money_times.j0 k a0 a1 t124 true) else (money_times.j0 k a0 a1 t124 (decide (t124 > 1152921504606846976)))) = some (r1, r2) := H
  have A5 := Aside0.mk A50
  clear A50
  have HC6 := Aside0.mk H
  clear H
  go_enter Try.func18, Try.ntmps18
  go_upto_region 2 with (first | ((with_reducible refine gate_callee (f := 21) rfl ?_); refine goesL_ (some 10) rfl rfl Try.func21 (by kernel_rfl) rfl #[.int .i64 a0] rfl (by (try simp only [List.map_toArray, List.map_cons, List.map_nil]); first | done | rfl | (simp only [List.length_drop, List.length_take]; rfl)) ?_; (with_reducible refine (money_size.calls a0 t121 _ A3.out).mono ?_); rintro e w' ⟨rfl, ⟨nd, rfl⟩⟩; refine ⟨_, rfl, ?_⟩) | ((with_reducible refine gate_callee (f := 21) rfl ?_); refine goesL_ (some 12) rfl rfl Try.func21 (by kernel_rfl) rfl #[.int .i64 a1] rfl (by (try simp only [List.map_toArray, List.map_cons, List.map_nil]); first | done | rfl | (simp only [List.length_drop, List.length_take]; rfl)) ?_; (with_reducible refine (money_size.calls a1 t122 _ A4.out).mono ?_); rintro e w' ⟨rfl, ⟨nd, rfl⟩⟩; refine ⟨_, rfl, ?_⟩) | ((with_reducible refine gate_callee (f := 20) rfl ?_); refine goesL_ (some 13) rfl rfl Try.func20 (by kernel_rfl) rfl #[.int .u64 t121, .int .u64 t122] rfl (by (try simp only [List.map_toArray, List.map_cons, List.map_nil]); first | done | rfl | (simp only [List.length_drop, List.length_take]; rfl)) ?_; (with_reducible refine (bits_Mul64.calls t121 t122 t123 t124 _ A5.out).mono ?_); rintro e w' ⟨rfl, ⟨nd, rfl⟩⟩; refine ⟨_, rfl, ?_⟩))
  (try simp only [Act.put, List.setIfInBounds_toArray, List.set_cons_zero, List.set_cons_succ])
  go_cut [21] (fun v21 wc => ∃ (kq : Nat) (x21_5 : Bool), v21 = .bool x21_5 ∧ Aside0 (money_times.j0 kq a0 a1 t124 x21_5 = some (r1, r2)) ∧ Aside0 (kq ≤ k) ∧ Drawn0 w wc)
  case first =>
    have H := HC6.out
    clear HC6
    by_cases c7 : t123 > 0
    · rw [if_pos c7] at H
      have c7b0 : decide (0 < t123) = true := decide_eq_true c7
      clear c7
      (first | rw [c7b0] | (simp only [i64_w, i32_w]; rw [c7b0]) | skip)
      have H' := Aside0.mk H
      clear H
      go_wp2
      go_meet
      case rel => exact ⟨_, (true), (by first | rfl | (simp; done) | (simp [*]; done)), H', ⟨by first | omega | exact Nat.le_refl _⟩, by repeat (first | exact Drawn0.refl _ | apply Drawn0.step)⟩
    · rw [if_neg c7] at H
      have c7b0 : decide (0 < t123) = false := decide_eq_false c7
      clear c7
      (first | rw [c7b0] | (simp only [i64_w, i32_w]; rw [c7b0]) | skip)
      have H' := Aside0.mk H
      clear H
      go_wp2
      go_meet
      case rel => exact ⟨_, (decide (t124 > 1152921504606846976)), (by first | rfl | (simp; done) | (simp [*]; done)), H', ⟨by first | omega | exact Nat.le_refl _⟩, by repeat (first | exact Drawn0.refl _ | apply Drawn0.step)⟩
  case rest =>
    clear HC6
    try clear c1
    try clear c2
    try clear p2
    try clear c7
    try clear c7b0
    obtain ⟨kq, x21_5, rfl, HA, HJ5, ⟨mc5, rfl⟩⟩ := hcut
    cases kq with
    | zero => exact absurd HA.out (by simp [money_times.j0])
    | succ kj5 =>
      have H := HA.out
      clear HA
      simp only [money_times.j0] at H
      by_cases c8 : x21_5 = true
      · subst c8
        have H1 : (some (0, false)) = some (r1, r2) := by rw [if_pos rfl] at H; exact H
        clear H
        have H := H1
        clear H1
        simp only [Option.some.injEq, Prod.mk.injEq] at H
        obtain ⟨rfl, rfl⟩ := H
        go_wp2
        go_ret2
        exact ⟨by first | rfl | (simp; done) | (simp [*]; done), by repeat (first | exact Drawn0.refl _ | apply Drawn0.step)⟩
      · replace c8 := Bool.eq_false_iff.mpr c8
        subst c8
        have H1 : (if ((decide (a0 < 0)) != (decide (a1 < 0))) = true then (some (wrap64 (-(wrap64 (t124))), true)) else (some (wrap64 (t124), true))) = some (r1, r2) := by rw [if_neg (show ¬ (false = true) by decide)] at H; exact H
        clear H
        have H := H1
        clear H1
        by_cases c9 : ((decide (a0 < 0)) != (decide (a1 < 0))) = true
        · rw [if_pos c9] at H
          have c9b0 : ((decide (a0 < 0)) != (decide (a1 < 0))) = true := c9
          (try (have c9b1 : decide ((decide (a0 < 0)) = (decide (a1 < 0))) = false := by simpa using c9))
          (try (have c9b2 : ((decide (a0 < 0)) == (decide (a1 < 0))) = false := by simpa using c9))
          (try (have c9b3 : ¬ ((decide (a0 < 0)) = (decide (a1 < 0))) := by simpa using c9))
          clear c9
          simp only [Option.some.injEq, Prod.mk.injEq] at H
          obtain ⟨rfl, rfl⟩ := H
          go_wp2
          go_ret2
          exact ⟨by first | rfl | (simp; done) | (simp [*]; done), by repeat (first | exact Drawn0.refl _ | apply Drawn0.step)⟩
        · rw [if_neg c9] at H
          have c9b0 : ((decide (a0 < 0)) != (decide (a1 < 0))) = false := by simpa using c9
          (try (have c9b1 : decide ((decide (a0 < 0)) = (decide (a1 < 0))) = true := by simpa using c9))
          (try (have c9b2 : ((decide (a0 < 0)) == (decide (a1 < 0))) = true := by simpa using c9))
          clear c9
          simp only [Option.some.injEq, Prod.mk.injEq] at H
          obtain ⟨rfl, rfl⟩ := H
          go_wp2
          go_ret2
          exact ⟨by first | rfl | (simp; done) | (simp [*]; done), by repeat (first | exact Drawn0.refl _ | apply Drawn0.step)⟩

end Go.Proofs.Ytokljfnicijheaa.PAll
