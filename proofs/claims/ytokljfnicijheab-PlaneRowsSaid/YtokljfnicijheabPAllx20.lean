/- Contracts of functions of the program, each with a plain function of the same answers; written by a program of this workplace. -/
import Derived.Test.YtokljfnicijheabPAllx0
import Derived.Test.YtokljfnicijheabPAllx13
namespace Go.Proofs.Ytokljfnicijheab.PAll
open Go.RowKit Go.Proofs.YtokljfnicijheabW.PrintWords Go.Proofs.YtokljfnicijheabW.PrintLast Go.Proofs.YtokljfnicijheabW.PrintMore
attribute [local go_sem] max2_int min2_int max_two min_two max_three min_three max_four min_four   -- for this text's walks alone
set_option linter.unusedVariables false
set_option linter.unusedSimpArgs false

/-! ### prebendref02_Rows: function 19 -/
mutual
def prebendref02_Rows.j0 : Nat → Int → Int → Int → List (S23) → Bool → Option ((List (S23)))
  | 0, _, _, _, _, _ => none
  | k + 1, x0, x1, x2, x7, x17 => if x17 = true then (some x7) else (prebendref02_Rows.l0 k x0 x1 x2 x7 0)
def prebendref02_Rows.l0 : Nat → Int → Int → Int → List (S23) → Int → Option ((List (S23)))
  | 0, _, _, _, _, _ => none
  | k + 1, x0, x1, x2, x7, x8 => if x8 < 32 then (if 0 ≤ (IntKind.u64.wrap (x8)) then (if (Go.bits .and .i64 (shr .i64 x2 (IntKind.u64.wrap (x8))) 1) = 0 then (prebendref02_Rows.l0 k x0 x1 x2 x7 (wrap64 (x8 + 1))) else (if x8 > 0 then (if 0 ≤ (IntKind.u64.wrap (wrap64 (x8 - 1))) then (if (Go.bits .and .i64 (shr .i64 x2 (IntKind.u64.wrap (wrap64 (x8 - 1)))) 1) = 1 then (if 0 ≤ (wrap64 ((x7.length : Int) - 1)) then (if (wrap64 ((x7.length : Int) - 1)) < (x7.length : Int) then (prebendref02_Rows.l0 k x0 x1 x2 (x7.set ((wrap64 ((x7.length : Int) - 1)) : Int).toNat (⟨(rd_T23 x7 (wrap64 ((x7.length : Int) - 1))).f0, (rd_T23 x7 (wrap64 ((x7.length : Int) - 1))).f1, (rd_T23 x7 (wrap64 ((x7.length : Int) - 1))).f2, wrap64 (((rd_T23 x7 (wrap64 ((x7.length : Int) - 1))).f3) + 1)⟩ : S23)) (wrap64 (x8 + 1))) else (none)) else (none)) else (if x7.length < 4398046511104 then (prebendref02_Rows.l0 k x0 x1 x2 (x7 ++ [(⟨x0, x8, x1, 1⟩ : S23)]) (wrap64 (x8 + 1))) else (none))) else (none)) else (if x7.length < 4398046511104 then (prebendref02_Rows.l0 k x0 x1 x2 (x7 ++ [(⟨x0, x8, x1, 1⟩ : S23)]) (wrap64 (x8 + 1))) else (none)))) else (none)) else (some x7)
end
def prebendref02_Rows.f (k : Nat) (a0 : Int) (a1 : Int) (a2 : Int) : Option ((List (S23))) := (some (([] : List (S23)) : List (S23))).bind fun y178 => ((prebendref02_in.f a0 0 1099511627776).bind fun t181 => (if t181 = true then ((prebendref02_in.f a1 1 1048576).bind fun t182 => (prebendref02_Rows.j0 k a0 a1 a2 y178 (!t182))) else (prebendref02_Rows.j0 k a0 a1 a2 y178 true)))
theorem prebendref02_Rows.mono_l : ∀ k, (∀ y0 y1 y2 y3 y4, LeO (prebendref02_Rows.j0 k y0 y1 y2 y3 y4) (prebendref02_Rows.j0 (k + 1) y0 y1 y2 y3 y4)) ∧ (∀ y0 y1 y2 y3 y4, LeO (prebendref02_Rows.l0 k y0 y1 y2 y3 y4) (prebendref02_Rows.l0 (k + 1) y0 y1 y2 y3 y4))
  | 0 => ⟨fun _ _ _ _ _ r h => by simp [prebendref02_Rows.j0] at h, fun _ _ _ _ _ r h => by simp [prebendref02_Rows.l0] at h⟩
  | k + 1 => by
    obtain ⟨ih0, ih1⟩ := prebendref02_Rows.mono_l k
    refine ⟨?_, ?_⟩
    · intro y0 y1 y2 y3 y4
      unfold prebendref02_Rows.j0
      repeat' first
      | (with_reducible exact ih0 _ _ _ _ _)
      | (with_reducible exact ih1 _ _ _ _ _)
      | (with_reducible exact LeO.refl _)
      | (with_reducible exact LeO.none _)
      | (with_reducible refine LeO.ite ?_ ?_)
      | (with_reducible refine LeO.bind ?_ (fun _ => ?_))
      | exact ih0 _ _ _ _ _
      | exact ih1 _ _ _ _ _
      | exact LeO.none _
      | refine LeO.ite ?_ ?_
      | refine LeO.bind ?_ (fun _ => ?_)
    · intro y0 y1 y2 y3 y4
      unfold prebendref02_Rows.l0
      repeat' first
      | (with_reducible exact ih0 _ _ _ _ _)
      | (with_reducible exact ih1 _ _ _ _ _)
      | (with_reducible exact LeO.refl _)
      | (with_reducible exact LeO.none _)
      | (with_reducible refine LeO.ite ?_ ?_)
      | (with_reducible refine LeO.bind ?_ (fun _ => ?_))
      | exact ih0 _ _ _ _ _
      | exact ih1 _ _ _ _ _
      | exact LeO.none _
      | refine LeO.ite ?_ ?_
      | refine LeO.bind ?_ (fun _ => ?_)
theorem prebendref02_Rows.mono : ∀ a0 a1 a2 k, LeO (prebendref02_Rows.f k a0 a1 a2) (prebendref02_Rows.f (k + 1) a0 a1 a2) := by
  intro a0 a1 a2 k
  obtain ⟨ih0, ih1⟩ := prebendref02_Rows.mono_l k
  unfold prebendref02_Rows.f
  repeat' first
      | (with_reducible exact ih0 _ _ _ _ _)
      | (with_reducible exact ih1 _ _ _ _ _)
      | (with_reducible exact LeO.refl _)
      | (with_reducible exact LeO.none _)
      | (with_reducible refine LeO.ite ?_ ?_)
      | (with_reducible refine LeO.bind ?_ (fun _ => ?_))
      | exact ih0 _ _ _ _ _
      | exact ih1 _ _ _ _ _
      | exact LeO.none _
      | refine LeO.ite ?_ ?_
      | refine LeO.bind ?_ (fun _ => ?_)
set_option maxHeartbeats 8000000 in
set_option maxRecDepth 100000 in
theorem prebendref02_Rows.calls (k : Nat) (a0 : Int) (a1 : Int) (a2 : Int) (r : List (S23)) (w : World) (h : prebendref02_Rows.f k a0 a1 a2 = some r) :
    Calls Try.prog 19 #[.int .i64 a0, .int .i64 a1, .int .i64 a2] w fun e w' => ∃ v0_ : Value, e = .returned (v0_) ∧ Kd.R k23 23 w' w.heap.size (fun _ => True) v0_ r ∧ Below w.heap.size w w' := by
  have hu23 := Try.underlying23
  have HB := Aside0.mk (Below.refl w.heap.size w)
  have H : ((some (([] : List (S23)) : List (S23))).bind fun y178 => ((prebendref02_in.f a0 0 1099511627776).bind fun t181 => (if t181 = true then ((prebendref02_in.f a1 1 1048576).bind fun t182 => (prebendref02_Rows.j0 k a0 a1 a2 y178 (!t182))) else (prebendref02_Rows.j0 k a0 a1 a2 y178 true)))) = some r := h
  clear h
  obtain ⟨y178, hy178⟩ : ∃ y_ : List (S23), y_ = (([] : List (S23))) := ⟨_, rfl⟩
  replace H : ((prebendref02_in.f a0 0 1099511627776).bind fun t181 => (if t181 = true then ((prebendref02_in.f a1 1 1048576).bind fun t182 => (prebendref02_Rows.j0 k a0 a1 a2 y178 (!t182))) else (prebendref02_Rows.j0 k a0 a1 a2 y178 true))) = some r := by first | (rw [hy178]; with_reducible exact H) | (have H2_ := (Option.bind_some _ _).symm.trans H; rw [hy178]; with_reducible exact H2_) | (have H2_ := (Option.bind_some _ _).symm.trans H; with_reducible exact H2_) | with_reducible exact H | (rw [hy178]; exact H) | exact H
  have Ny178 := Aside0.mk hy178
  clear hy178
  have HC4 := Aside0.mk H
  clear H
  go_enter Try.func19, Try.ntmps19
  go_upto_region 2 with (first | ((with_reducible refine gate_dst (N := 9) rfl ?_); refine Kd.R_lit k23 _ 23 ?hg (N := 9) ?hd (xs := ([] : List (S23))) (inner := []) (ok := fun _ => True) (okp := fun _ => True) ?hr ?hp (fun _ hk => hk) trivial (Below.refl _ _) (Nat.le_refl _) (by simp) ?_; (case hd => rfl); (case hg => rfl); (case hr => first | (go_simp; done) | (go_simp; rfl)); (case hp => exact (Reps.none _ _)); intro v179 w5 ho6 hb hg_ hnew_; clear hg_ hnew_; (first | rw [← Ny178.out] at ho6 | (simp only [Int.reduceToNat] at ho6; rw [← Ny178.out] at ho6)); have n0_ := Aside0.mk (Kd.R_lower ho6 (below_size (by repeat (first | (with_reducible first | exact HB.out | apply below_alloc | apply pw_below_drewN | apply below_drew1) | exact HB.out)))); have n1_ := Aside0.mk (below_step (by repeat (first | (with_reducible first | exact HB.out | apply below_alloc | apply pw_below_drewN | apply below_drew1) | exact HB.out)) hb); clear HB; have HO180 := n0_; have HB := n1_; clear n0_ n1_; clear hb ho6))
  (try simp only [Act.put, List.setIfInBounds_toArray, List.set_cons_zero, List.set_cons_succ])
  go_cut [17] (fun v17 wc => ∃ (kq : Nat) (x17_3 : Bool), v17 = .bool x17_3 ∧ Aside0 (prebendref02_Rows.j0 kq a0 a1 a2 y178 x17_3 = some r) ∧ Aside0 (kq ≤ k) ∧ Aside0 (Kd.R k23 23 wc w.heap.size (fun _ => True) v179 y178) ∧ Aside0 (Below w.heap.size w wc))
  case first =>
    have H := HC4.out
    clear HC4
    replace H := Option.bind_eq_some_iff.mp H
    obtain ⟨t181, A70, H⟩ := H
    replace H : (if t181 = true then ((prebendref02_in.f a1 1 1048576).bind fun t182 => (prebendref02_Rows.j0 k a0 a1 a2 y178 (!t182))) else (prebendref02_Rows.j0 k a0 a1 a2 y178 true)) = some r := H
    have A7 := Aside0.mk A70
    clear A70
    by_cases c8 : t181 = true
    · subst c8
      have H1 : ((prebendref02_in.f a1 1 1048576).bind fun t182 => (prebendref02_Rows.j0 k a0 a1 a2 y178 (!t182))) = some r := by rw [if_pos rfl] at H; exact H
      clear H
      have H := H1
      clear H1
      replace H := Option.bind_eq_some_iff.mp H
      obtain ⟨t182, A90, H⟩ := H
      replace H : (prebendref02_Rows.j0 k a0 a1 a2 y178 (!t182)) = some r := H
      have A9 := Aside0.mk A90
      clear A90
      have H' := Aside0.mk H
      clear H
      go_wp2_with (first | ((with_reducible refine gate_callee (f := 21) rfl ?_); refine goesL_ (some 11) rfl rfl Try.func21 (by kernel_rfl) rfl #[.int .i64 a0, .int .i64 0, .int .i64 1099511627776] rfl (by (try simp only [List.map_toArray, List.map_cons, List.map_nil]); first | done | rfl | (simp only [List.length_drop, List.length_take]; rfl)) ?_; (with_reducible refine (prebendref02_in.calls a0 0 1099511627776 true _ A7.out).mono ?_); rintro e w' ⟨rfl, ⟨nd, rfl⟩⟩; refine ⟨_, rfl, ?_⟩) | (go_at_call 21; (with_reducible refine (prebendref02_in.calls a1 1 1048576 t182 _ A9.out).mono ?_); rintro e w' ⟨rfl, ⟨nd, rfl⟩⟩))
      go_meet
      case rel => exact ⟨_, (!t182), (by first | rfl | (simp; done) | (simp [*]; done)), H', ⟨by first | omega | exact Nat.le_refl _⟩, ⟨by (with_reducible repeat (first | apply Kd.R_alloc | apply Kd.R_drewN | apply Kd.R_drew)); exact HO180.out⟩, ⟨by repeat (first | (with_reducible first | exact HB.out | apply below_alloc | apply pw_below_drewN | apply below_drew1) | exact HB.out)⟩⟩
    · replace c8 := Bool.eq_false_iff.mpr c8
      subst c8
      have H1 : (prebendref02_Rows.j0 k a0 a1 a2 y178 true) = some r := by rw [if_neg (show ¬ (false = true) by decide)] at H; exact H
      clear H
      have H := H1
      clear H1
      have H' := Aside0.mk H
      clear H
      go_wp2_with (first | ((with_reducible refine gate_callee (f := 21) rfl ?_); refine goesL_ (some 11) rfl rfl Try.func21 (by kernel_rfl) rfl #[.int .i64 a0, .int .i64 0, .int .i64 1099511627776] rfl (by (try simp only [List.map_toArray, List.map_cons, List.map_nil]); first | done | rfl | (simp only [List.length_drop, List.length_take]; rfl)) ?_; (with_reducible refine (prebendref02_in.calls a0 0 1099511627776 false _ A7.out).mono ?_); rintro e w' ⟨rfl, ⟨nd, rfl⟩⟩; refine ⟨_, rfl, ?_⟩))
      go_meet
      case rel => exact ⟨_, (true), (by first | rfl | (simp; done) | (simp [*]; done)), H', ⟨by first | omega | exact Nat.le_refl _⟩, ⟨by (with_reducible repeat (first | apply Kd.R_alloc | apply Kd.R_drewN | apply Kd.R_drew)); exact HO180.out⟩, ⟨by repeat (first | (with_reducible first | exact HB.out | apply below_alloc | apply pw_below_drewN | apply below_drew1) | exact HB.out)⟩⟩
  case rest =>
    clear HC4
    try clear c1
    try clear c2
    try clear p2
    try clear c8
    obtain ⟨kq, x17_3, rfl, HA, HJ3, HO_7, HB⟩ := hcut
    cases kq with
    | zero => exact absurd HA.out (by simp [prebendref02_Rows.j0])
    | succ kj3 =>
      have H := HA.out
      clear HA
      simp only [prebendref02_Rows.j0] at H
      by_cases c10 : x17_3 = true
      · subst c10
        have H1 : (some y178) = some r := by rw [if_pos rfl] at H; exact H
        clear H
        have H := H1
        clear H1
        obtain rfl := Option.some.inj H
        go_wp2
        go_ret
        exact ⟨_, by first | rfl | (simp [errW_none, errW_some] <;> rfl) | (simp [*, errW_none, errW_some] <;> rfl), by (with_reducible repeat (first | apply Kd.R_alloc | apply Kd.R_drewN | apply Kd.R_drew)); exact HO_7.out, by repeat (first | (with_reducible first | exact HB.out | apply below_alloc | apply pw_below_drewN | apply below_drew1) | exact HB.out)⟩
      · replace c10 := Bool.eq_false_iff.mpr c10
        subst c10
        have H1 : (prebendref02_Rows.l0 kj3 a0 a1 a2 y178 0) = some r := by rw [if_neg (show ¬ (false = true) by decide)] at H; exact H
        clear H
        have H := H1
        clear H1
        have H' := Aside0.mk H
        clear H
        go_wp2
        go_loopg [7, 8] kj3 (fun kq v7 v8 w' => ∃ (x7_2 : List (S23)) (x8_2 : Int), v8 = .int .i64 x8_2 ∧ Aside0 (prebendref02_Rows.l0 kq a0 a1 a2 x7_2 x8_2 = some r) ∧ Aside0 (kq ≤ kj3) ∧ Aside0 (Kd.R k23 23 w' w.heap.size (fun _ => True) v7 x7_2) ∧ Aside0 (Below w.heap.size w w'))
        case atStart => exact ⟨(y178), (0), (by first | rfl | (simp; done) | (simp [*]; done)), H', ⟨Nat.le_refl _⟩, ⟨by (with_reducible repeat (first | apply Kd.R_alloc | apply Kd.R_drewN | apply Kd.R_drew)); exact HO_7.out⟩, ⟨by repeat (first | (with_reducible first | exact HB.out | apply below_alloc | apply pw_below_drewN | apply below_drew1) | exact HB.out)⟩⟩
        case round =>
          clear H'
          try clear c1
          try clear c2
          try clear p2
          try clear c8
          try clear c10
          try clear p2
          obtain ⟨x7_2, x8_2, rfl, HA, HK2, HO_7, HB⟩ := hrel
          cases gk with
          | zero => exact absurd HA.out (by simp [prebendref02_Rows.l0])
          | succ k2 =>
            have H := HA.out
            clear HA
            simp only [prebendref02_Rows.l0] at H
            by_cases c11 : x8_2 < 32
            · rw [if_pos c11] at H
              have c11b0 : decide (x8_2 < 32) = true := decide_eq_true c11
              clear c11
              obtain ⟨ji12, hji12⟩ : ∃ j_ : Int, (IntKind.u64.wrap (x8_2)) = j_ := ⟨_, rfl⟩
              replace H : (if 0 ≤ (ji12) then (if (Go.bits .and .i64 (shr .i64 a2 (ji12)) 1) = 0 then (prebendref02_Rows.l0 k2 a0 a1 a2 x7_2 (wrap64 (x8_2 + 1))) else (if x8_2 > 0 then (if 0 ≤ (IntKind.u64.wrap (wrap64 (x8_2 - 1))) then (if (Go.bits .and .i64 (shr .i64 a2 (IntKind.u64.wrap (wrap64 (x8_2 - 1)))) 1) = 1 then (if 0 ≤ (wrap64 ((x7_2.length : Int) - 1)) then (if (wrap64 ((x7_2.length : Int) - 1)) < (x7_2.length : Int) then (prebendref02_Rows.l0 k2 a0 a1 a2 (x7_2.set ((wrap64 ((x7_2.length : Int) - 1)) : Int).toNat (⟨(rd_T23 x7_2 (wrap64 ((x7_2.length : Int) - 1))).f0, (rd_T23 x7_2 (wrap64 ((x7_2.length : Int) - 1))).f1, (rd_T23 x7_2 (wrap64 ((x7_2.length : Int) - 1))).f2, wrap64 (((rd_T23 x7_2 (wrap64 ((x7_2.length : Int) - 1))).f3) + 1)⟩ : S23)) (wrap64 (x8_2 + 1))) else (none)) else (none)) else (if x7_2.length < 4398046511104 then (prebendref02_Rows.l0 k2 a0 a1 a2 (x7_2 ++ [(⟨a0, x8_2, a1, 1⟩ : S23)]) (wrap64 (x8_2 + 1))) else (none))) else (none)) else (if x7_2.length < 4398046511104 then (prebendref02_Rows.l0 k2 a0 a1 a2 (x7_2 ++ [(⟨a0, x8_2, a1, 1⟩ : S23)]) (wrap64 (x8_2 + 1))) else (none)))) else (none)) = some r := by first | (rw [hji12] at H; exact H) | (simp only [hji12] at H ⊢; exact H)
              by_cases c13 : 0 ≤ (ji12)
              · rw [if_pos c13] at H
                have c13b0 := eq_true c13
                have c13b1 : decide (0 ≤ (ji12)) = true := decide_eq_true c13
                clear c13
                obtain ⟨ji14, hji14⟩ : ∃ j_ : Int, (shr .i64 a2 (ji12)) = j_ := ⟨_, rfl⟩
                replace H : (if (Go.bits .and .i64 (ji14) 1) = 0 then (prebendref02_Rows.l0 k2 a0 a1 a2 x7_2 (wrap64 (x8_2 + 1))) else (if x8_2 > 0 then (if 0 ≤ (IntKind.u64.wrap (wrap64 (x8_2 - 1))) then (if (Go.bits .and .i64 (shr .i64 a2 (IntKind.u64.wrap (wrap64 (x8_2 - 1)))) 1) = 1 then (if 0 ≤ (wrap64 ((x7_2.length : Int) - 1)) then (if (wrap64 ((x7_2.length : Int) - 1)) < (x7_2.length : Int) then (prebendref02_Rows.l0 k2 a0 a1 a2 (x7_2.set ((wrap64 ((x7_2.length : Int) - 1)) : Int).toNat (⟨(rd_T23 x7_2 (wrap64 ((x7_2.length : Int) - 1))).f0, (rd_T23 x7_2 (wrap64 ((x7_2.length : Int) - 1))).f1, (rd_T23 x7_2 (wrap64 ((x7_2.length : Int) - 1))).f2, wrap64 (((rd_T23 x7_2 (wrap64 ((x7_2.length : Int) - 1))).f3) + 1)⟩ : S23)) (wrap64 (x8_2 + 1))) else (none)) else (none)) else (if x7_2.length < 4398046511104 then (prebendref02_Rows.l0 k2 a0 a1 a2 (x7_2 ++ [(⟨a0, x8_2, a1, 1⟩ : S23)]) (wrap64 (x8_2 + 1))) else (none))) else (none)) else (if x7_2.length < 4398046511104 then (prebendref02_Rows.l0 k2 a0 a1 a2 (x7_2 ++ [(⟨a0, x8_2, a1, 1⟩ : S23)]) (wrap64 (x8_2 + 1))) else (none)))) = some r := by first | (rw [hji14] at H; exact H) | (simp only [hji14] at H ⊢; exact H)
                have hji14_ : (a2 / 2 ^ min (ji12).toNat 64) = ji14 := hji14
                have hji14z : (ji12) ≤ 64 → (a2 / 2 ^ (ji12).toNat) = ji14 := shr_small hji14
                by_cases c15 : (Go.bits .and .i64 (ji14) 1) = 0
                · rw [if_pos c15] at H
                  have c15b0 : ((Go.bits .and .i64 (ji14) 1) == 0) = true := beq_iff_eq.mpr c15
                  have c15b1 : ((Go.bits .and .i64 (ji14) 1) != 0) = false := bne_eq_false_iff_eq.mpr c15
                  clear c15
                  have H' := Aside0.mk H
                  clear H
                  go_wp2
                  go_roundg k2
                  case measure => have := HJ3.out; have := HK2.out; omega
                  case rel => exact ⟨(x7_2), (wrap64 (x8_2 + 1)), (by first | rfl | (simp; done) | (simp [*]; done)), H', ⟨by have := HJ3.out; have := HK2.out; omega⟩, ⟨by (with_reducible repeat (first | apply Kd.R_alloc | apply Kd.R_drewN | apply Kd.R_drew)); exact HO_7.out⟩, ⟨by repeat (first | (with_reducible first | exact HB.out | apply below_alloc | apply pw_below_drewN | apply below_drew1) | exact HB.out)⟩⟩
                · rw [if_neg c15] at H
                  have c15b0 : ((Go.bits .and .i64 (ji14) 1) == 0) = false := beq_eq_false_iff_ne.mpr c15
                  have c15b1 : ((Go.bits .and .i64 (ji14) 1) != 0) = true := bne_iff_ne.mpr c15
                  by_cases c16 : x8_2 > 0
                  · rw [if_pos c16] at H
                    have c16b0 : decide (0 < x8_2) = true := decide_eq_true c16
                    clear c16
                    obtain ⟨ji17, hji17⟩ : ∃ j_ : Int, (IntKind.u64.wrap (wrap64 (x8_2 - 1))) = j_ := ⟨_, rfl⟩
                    replace H : (if 0 ≤ (ji17) then (if (Go.bits .and .i64 (shr .i64 a2 (ji17)) 1) = 1 then (if 0 ≤ (wrap64 ((x7_2.length : Int) - 1)) then (if (wrap64 ((x7_2.length : Int) - 1)) < (x7_2.length : Int) then (prebendref02_Rows.l0 k2 a0 a1 a2 (x7_2.set ((wrap64 ((x7_2.length : Int) - 1)) : Int).toNat (⟨(rd_T23 x7_2 (wrap64 ((x7_2.length : Int) - 1))).f0, (rd_T23 x7_2 (wrap64 ((x7_2.length : Int) - 1))).f1, (rd_T23 x7_2 (wrap64 ((x7_2.length : Int) - 1))).f2, wrap64 (((rd_T23 x7_2 (wrap64 ((x7_2.length : Int) - 1))).f3) + 1)⟩ : S23)) (wrap64 (x8_2 + 1))) else (none)) else (none)) else (if x7_2.length < 4398046511104 then (prebendref02_Rows.l0 k2 a0 a1 a2 (x7_2 ++ [(⟨a0, x8_2, a1, 1⟩ : S23)]) (wrap64 (x8_2 + 1))) else (none))) else (none)) = some r := by first | (rw [hji17] at H; exact H) | (simp only [hji17] at H ⊢; exact H)
                    by_cases c18 : 0 ≤ (ji17)
                    · rw [if_pos c18] at H
                      have c18b0 := eq_true c18
                      have c18b1 : decide (0 ≤ (ji17)) = true := decide_eq_true c18
                      clear c18
                      obtain ⟨ji19, hji19⟩ : ∃ j_ : Int, (shr .i64 a2 (ji17)) = j_ := ⟨_, rfl⟩
                      replace H : (if (Go.bits .and .i64 (ji19) 1) = 1 then (if 0 ≤ (wrap64 ((x7_2.length : Int) - 1)) then (if (wrap64 ((x7_2.length : Int) - 1)) < (x7_2.length : Int) then (prebendref02_Rows.l0 k2 a0 a1 a2 (x7_2.set ((wrap64 ((x7_2.length : Int) - 1)) : Int).toNat (⟨(rd_T23 x7_2 (wrap64 ((x7_2.length : Int) - 1))).f0, (rd_T23 x7_2 (wrap64 ((x7_2.length : Int) - 1))).f1, (rd_T23 x7_2 (wrap64 ((x7_2.length : Int) - 1))).f2, wrap64 (((rd_T23 x7_2 (wrap64 ((x7_2.length : Int) - 1))).f3) + 1)⟩ : S23)) (wrap64 (x8_2 + 1))) else (none)) else (none)) else (if x7_2.length < 4398046511104 then (prebendref02_Rows.l0 k2 a0 a1 a2 (x7_2 ++ [(⟨a0, x8_2, a1, 1⟩ : S23)]) (wrap64 (x8_2 + 1))) else (none))) = some r := by first | (rw [hji19] at H; exact H) | (simp only [hji19] at H ⊢; exact H)
                      have hji19_ : (a2 / 2 ^ min (ji17).toNat 64) = ji19 := hji19
                      have hji19z : (ji17) ≤ 64 → (a2 / 2 ^ (ji17).toNat) = ji19 := shr_small hji19
                      by_cases c20 : (Go.bits .and .i64 (ji19) 1) = 1
                      · rw [if_pos c20] at H
                        have c20b0 : ((Go.bits .and .i64 (ji19) 1) == 1) = true := beq_iff_eq.mpr c20
                        have c20b1 : ((Go.bits .and .i64 (ji19) 1) != 1) = false := bne_eq_false_iff_eq.mpr c20
                        clear c20
                        obtain ⟨ji21, hji21⟩ : ∃ j_ : Int, (wrap64 ((x7_2.length : Int) - 1)) = j_ := ⟨_, rfl⟩
                        replace H : (if 0 ≤ (ji21) then (if (ji21) < (x7_2.length : Int) then (prebendref02_Rows.l0 k2 a0 a1 a2 (x7_2.set ((ji21) : Int).toNat (⟨(rd_T23 x7_2 (ji21)).f0, (rd_T23 x7_2 (ji21)).f1, (rd_T23 x7_2 (ji21)).f2, wrap64 (((rd_T23 x7_2 (ji21)).f3) + 1)⟩ : S23)) (wrap64 (x8_2 + 1))) else (none)) else (none)) = some r := by first | (rw [hji21] at H; exact H) | (simp only [hji21] at H ⊢; exact H)
                        have hji21w : (IntKind.i64.wrap ((x7_2.length : Int) - 1)) = ji21 := (i64_w _).trans hji21
                        by_cases c22 : 0 ≤ (ji21)
                        · rw [if_pos c22] at H
                          have c22b0 : decide (0 ≤ (ji21)) = true := decide_eq_true c22
                          clear c22
                          by_cases c23 : (ji21) < (x7_2.length : Int)
                          · rw [if_pos c23] at H
                            have c23b0 : decide ((ji21) < (x7_2.length : Int)) = true := decide_eq_true c23
                            clear c23
                            obtain ⟨y184, hy184⟩ : ∃ y_ : List (S23), y_ = (x7_2.set ((ji21) : Int).toNat (⟨(rd_T23 x7_2 (ji21)).f0, (rd_T23 x7_2 (ji21)).f1, (rd_T23 x7_2 (ji21)).f2, wrap64 (((rd_T23 x7_2 (ji21)).f3) + 1)⟩ : S23)) := ⟨_, rfl⟩
                            replace H : (prebendref02_Rows.l0 k2 a0 a1 a2 y184 (wrap64 (x8_2 + 1))) = some r := by first | (rw [hy184]; with_reducible exact H) | (have H2_ := (Option.bind_some _ _).symm.trans H; rw [hy184]; with_reducible exact H2_) | (have H2_ := (Option.bind_some _ _).symm.trans H; with_reducible exact H2_) | with_reducible exact H | (rw [hy184]; exact H) | exact H
                            have Ny184 := Aside0.mk hy184
                            clear hy184
                            have H' := Aside0.mk H
                            clear H
                            obtain ⟨Ao25, co25, eo25⟩ := Kd.R_slice HO_7.out
                            subst eo25
                            have p183 : 0 ≤ ((ji21) : Int) := of_decide_eq_true (by first | (with_reducible assumption) | assumption)
                            have q183 : (ji21) < (x7_2.length : Int) := of_decide_eq_true (by first | (with_reducible assumption) | assumption)
                            obtain ⟨ad183, e183, hx183_0, hx183_1, hx183_2, hx183_3⟩ := at_T23 (Kd.R_reads' HO_7.out).2.2 (ji21) p183 q183
                            cases e183
                            replace p183 := eq_true p183
                            replace q183 := eq_true q183
                            have p24 : 0 ≤ ((ji21) : Int) := of_decide_eq_true (by first | (with_reducible assumption) | assumption)
                            have q24 : ((ji21) : Int) < ((x7_2.length : Int) : Int) := of_decide_eq_true (by first | (with_reducible assumption) | assumption)
                            obtain ⟨go24, co24, eo24, gb24, gl24, cl24, HG24⟩ := Kd.R_form HO_7.out (by omega)
                            (first | cases eo24 | (injection eo24 with ea_ en_ ec_; (first | subst ea_ | (injection ea_ with ea_; subst ea_)); subst ec_; clear en_))
                            have GB24 := Aside0.mk gb24
                            have GG24 := Aside0.mk HG24
                            clear gb24 gl24 HG24
                            (first | simp only [add_plain] at hx183_0 | skip)
                            (first | simp only [add_plain] at hx183_1 | skip)
                            (first | simp only [add_plain] at hx183_2 | skip)
                            (first | simp only [add_plain] at hx183_3 | skip)
                            obtain ⟨ce24, hcl24, hM24, hcc24, hfr24⟩ := Kd.R_elem HO_7.out z23 ((ji21) : Int) p24 q24
                            obtain rfl := k23_openM hM24
                            have hx24_0 : wr.cell? ⟨go24, ((ji21) : Int).toNat * 4, none⟩ = some (.int .i64 ((rd_T23 x7_2 (ji21)).f0)) := hcc24 0 _ rfl
                            have hx24_1 : wr.cell? ⟨go24, ((ji21) : Int).toNat * 4 + 1, none⟩ = some (.int .i64 ((rd_T23 x7_2 (ji21)).f1)) := hcc24 1 _ rfl
                            have hx24_2 : wr.cell? ⟨go24, ((ji21) : Int).toNat * 4 + 2, none⟩ = some (.int .i64 ((rd_T23 x7_2 (ji21)).f2)) := hcc24 2 _ rfl
                            have hx24_3 : wr.cell? ⟨go24, ((ji21) : Int).toNat * 4 + 3, none⟩ = some (.int .i64 ((rd_T23 x7_2 (ji21)).f3)) := hcc24 3 _ rfl
                            have hf24_0 : wr.frozen? ⟨go24, ((ji21) : Int).toNat * 4, none⟩ = false := hfr24 0
                            have hf24_1 : wr.frozen? ⟨go24, ((ji21) : Int).toNat * 4 + 1, none⟩ = false := hfr24 1
                            have hf24_2 : wr.frozen? ⟨go24, ((ji21) : Int).toNat * 4 + 2, none⟩ = false := hfr24 2
                            have hf24_3 : wr.frozen? ⟨go24, ((ji21) : Int).toNat * 4 + 3, none⟩ = false := hfr24 3
                            clear hcl24 hcc24 hfr24 hM24
                            replace p24 := eq_true p24
                            replace q24 := eq_true q24
                            have HX26 := Aside0.mk (show Kd.R k23 23 wr w.heap.size (fun _ => True) (.slice (some ⟨go24, 0, none⟩) x7_2.length co25) x7_2 from (by (with_reducible repeat (first | apply Kd.R_alloc | apply Kd.R_drewN | apply Kd.R_drew)); exact HO_7.out))
                            obtain ⟨ce26, hcl26, hM26, hcc26, hfr26⟩ := Kd.R_elem HX26.out z23 ((ji21) : Int) (of_decide_eq_true (by first | (with_reducible assumption) | assumption)) (by have h_ : ((ji21) : Int) < ((x7_2.length : Int) : Int) := of_decide_eq_true (by first | (with_reducible assumption) | assumption); first | exact h_ | (have e_ := (Kd.R_reads' HO_7.out).1; omega) | simpa using h_)
                            obtain rfl := k23_openM hM26
                            have HP26 := Kd.R_seg HX26.out ((ji21) : Int) (of_decide_eq_true (by first | (with_reducible assumption) | assumption)) (by have h_ : ((ji21) : Int) < ((x7_2.length : Int) : Int) := of_decide_eq_true (by first | (with_reducible assumption) | assumption); first | exact h_ | (have e_ := (Kd.R_reads' HO_7.out).1; omega) | simpa using h_) (seg := [.int .i64 (wrap64 (((rd_T23 x7_2 (ji21)).f3) + 1))]) (j := 3) hcl26 hcc26 (show 4 ≤ 4 from by decide) (x' := (⟨(rd_T23 x7_2 (ji21)).f0, (rd_T23 x7_2 (ji21)).f1, (rd_T23 x7_2 (ji21)).f2, wrap64 (((rd_T23 x7_2 (ji21)).f3) + 1)⟩ : S23)) (k23_mkM _ _ _ (⟨(rd_T23 x7_2 (ji21)).f0, (rd_T23 x7_2 (ji21)).f1, (rd_T23 x7_2 (ji21)).f2, wrap64 (((rd_T23 x7_2 (ji21)).f3) + 1)⟩ : S23) ) (fun _ hk => hk)
                            have hx26_3 := hcc26 3 _ rfl
                            (try simp only [show (k23).sz = 4 from rfl, Nat.mul_one, Nat.add_zero] at hx26_3)
                            have hf26_3 := hfr26 3
                            (try simp only [show (k23).sz = 4 from rfl, Nat.mul_one, Nat.add_zero] at hf26_3)
                            clear hcl26 hcc26 hfr26 hM26
                            go_wp2_with (first | ((with_reducible refine gate_store (t := 3) (p := 49) rfl ?_); refine store_event (t := 3) (p := 49) (v := ?vo_w27) (w1 := (wr.setCell ⟨go24, ((ji21) : Int).toNat * 4 + 3, none⟩ (.int .i64 (wrap64 (((rd_T23 x7_2 (ji21)).f3) + 1))))) ?hg ?ho ?hn ?hr ?_; (case ho => rfl); (case hg => rfl); (case hn => rfl); (case hr => first | (go_simp; done) | (go_simp; rfl)); intro w27 hw; have hg : wr.grownBy w27 (some go24) := (by rw [hw]; exact HP26.2); have hp_ : Kd.R k23 23 w27 w.heap.size (fun _ => True) (.slice (some ⟨go24, 0, none⟩) x7_2.length co25) y184 := (by rw [hw, Ny184.out]; exact HP26.1); clear HP26; have n0_ := Aside0.mk (hp_); have n1_ := Aside0.mk ((by rw [hw]; exact below_set (HB.out) GB24.out : Below w.heap.size w w27)); clear HO_7; clear HB; have HO_7 := n0_; have HB := n1_; clear n0_ n1_; clear hg hw hp_))
                            go_roundg k2
                            case measure => have := HJ3.out; have := HK2.out; omega
                            case rel => exact ⟨(y184), (wrap64 (x8_2 + 1)), (by first | rfl | (simp; done) | (simp [*]; done)), H', ⟨by have := HJ3.out; have := HK2.out; omega⟩, ⟨by (with_reducible repeat (first | apply Kd.R_alloc | apply Kd.R_drewN | apply Kd.R_drew)); exact HO_7.out⟩, ⟨by repeat (first | (with_reducible first | exact HB.out | apply below_alloc | apply pw_below_drewN | apply below_drew1) | exact HB.out)⟩⟩
                          · rw [if_neg c23] at H
                            exact absurd H (by simp)
                        · rw [if_neg c22] at H
                          exact absurd H (by simp)
                      · rw [if_neg c20] at H
                        have c20b0 : ((Go.bits .and .i64 (ji19) 1) == 1) = false := beq_eq_false_iff_ne.mpr c20
                        have c20b1 : ((Go.bits .and .i64 (ji19) 1) != 1) = true := bne_iff_ne.mpr c20
                        by_cases c28 : x7_2.length < 4398046511104
                        · rw [if_pos c28] at H
                          have LMc28 := Aside0.mk c28
                          clear c28
                          obtain ⟨y185, hy185⟩ : ∃ y_ : List (S23), y_ = (x7_2 ++ [(⟨a0, x8_2, a1, 1⟩ : S23)]) := ⟨_, rfl⟩
                          replace H : (prebendref02_Rows.l0 k2 a0 a1 a2 y185 (wrap64 (x8_2 + 1))) = some r := by first | (rw [hy185]; with_reducible exact H) | (have H2_ := (Option.bind_some _ _).symm.trans H; rw [hy185]; with_reducible exact H2_) | (have H2_ := (Option.bind_some _ _).symm.trans H; with_reducible exact H2_) | with_reducible exact H | (rw [hy185]; exact H) | exact H
                          have Ny185 := Aside0.mk hy185
                          clear hy185
                          have H' := Aside0.mk H
                          clear H
                          go_wp2_with (first | ((with_reducible refine gate_builtin (b := .append) (xs := #[.tmp 50, .tmp 55]) rfl ?_); at_builtin; refine Kd.R_append k23 (w0 := w) w.heap.size rfl (.tmp 50) (.tmp 55) 28 23 (.agg #[(.int .i64 0), (.int .i64 0), (.int .i64 0), (.int .i64 0)]) 32 rfl Try.underlying28 info23 rfl (by decide) (by omega) u7 x7_2 (⟨a0, x8_2, a1, 1⟩ : S23) [.int .i64 a0, .int .i64 x8_2, .int .i64 a1, .int .i64 1] (fun _ => True) (fun _ => False) rfl rfl ?aP (fun _ hk => hk.elim) ?aF ?aO ?aB ?aS ?aL ?_; (case aP => exact k23_mkM _ _ _ (⟨a0, x8_2, a1, 1⟩ : S23)); (case aB => exact (by repeat (first | (with_reducible first | exact HB.out | apply below_alloc | apply pw_below_drewN | apply below_drew1) | exact HB.out))); (case aF => exact (fun _ _ => trivial)); (case aO => exact (by (with_reducible repeat (first | apply Kd.R_alloc | apply Kd.R_drewN | apply Kd.R_drew)); exact HO_7.out)); (case aS => exact (below_size (by repeat (first | (with_reducible first | exact HB.out | apply below_alloc | apply pw_below_drewN | apply below_drew1) | exact HB.out)))); (case aL => have := LMc28.out; omega); intro v186 w29 ho hb hg hat; rw [← Ny185.out] at ho; have n0_ := Aside0.mk (hb); have n1_ := Aside0.mk (ho); clear HB; clear HO_7; have HB := n0_; have HO187 := n1_; clear n0_ n1_; clear ho hb hg hat))
                          go_roundg k2
                          case measure => have := HJ3.out; have := HK2.out; omega
                          case rel => exact ⟨(y185), (wrap64 (x8_2 + 1)), (by first | rfl | (simp; done) | (simp [*]; done)), H', ⟨by have := HJ3.out; have := HK2.out; omega⟩, ⟨by (with_reducible repeat (first | apply Kd.R_alloc | apply Kd.R_drewN | apply Kd.R_drew)); exact HO187.out⟩, ⟨by repeat (first | (with_reducible first | exact HB.out | apply below_alloc | apply pw_below_drewN | apply below_drew1) | exact HB.out)⟩⟩
                        · rw [if_neg c28] at H
                          exact absurd H (by simp)
                    · rw [if_neg c18] at H
                      exact absurd H (by simp)
                  · rw [if_neg c16] at H
                    have c16b0 : decide (0 < x8_2) = false := decide_eq_false c16
                    clear c16
                    by_cases c30 : x7_2.length < 4398046511104
                    · rw [if_pos c30] at H
                      have LMc30 := Aside0.mk c30
                      clear c30
                      obtain ⟨y188, hy188⟩ : ∃ y_ : List (S23), y_ = (x7_2 ++ [(⟨a0, x8_2, a1, 1⟩ : S23)]) := ⟨_, rfl⟩
                      replace H : (prebendref02_Rows.l0 k2 a0 a1 a2 y188 (wrap64 (x8_2 + 1))) = some r := by first | (rw [hy188]; with_reducible exact H) | (have H2_ := (Option.bind_some _ _).symm.trans H; rw [hy188]; with_reducible exact H2_) | (have H2_ := (Option.bind_some _ _).symm.trans H; with_reducible exact H2_) | with_reducible exact H | (rw [hy188]; exact H) | exact H
                      have Ny188 := Aside0.mk hy188
                      clear hy188
                      have H' := Aside0.mk H
                      clear H
                      go_wp2_with (first | ((with_reducible refine gate_builtin (b := .append) (xs := #[.tmp 50, .tmp 55]) rfl ?_); at_builtin; refine Kd.R_append k23 (w0 := w) w.heap.size rfl (.tmp 50) (.tmp 55) 28 23 (.agg #[(.int .i64 0), (.int .i64 0), (.int .i64 0), (.int .i64 0)]) 32 rfl Try.underlying28 info23 rfl (by decide) (by omega) u7 x7_2 (⟨a0, x8_2, a1, 1⟩ : S23) [.int .i64 a0, .int .i64 x8_2, .int .i64 a1, .int .i64 1] (fun _ => True) (fun _ => False) rfl rfl ?aP (fun _ hk => hk.elim) ?aF ?aO ?aB ?aS ?aL ?_; (case aP => exact k23_mkM _ _ _ (⟨a0, x8_2, a1, 1⟩ : S23)); (case aB => exact (by repeat (first | (with_reducible first | exact HB.out | apply below_alloc | apply pw_below_drewN | apply below_drew1) | exact HB.out))); (case aF => exact (fun _ _ => trivial)); (case aO => exact (by (with_reducible repeat (first | apply Kd.R_alloc | apply Kd.R_drewN | apply Kd.R_drew)); exact HO_7.out)); (case aS => exact (below_size (by repeat (first | (with_reducible first | exact HB.out | apply below_alloc | apply pw_below_drewN | apply below_drew1) | exact HB.out)))); (case aL => have := LMc30.out; omega); intro v189 w31 ho hb hg hat; rw [← Ny188.out] at ho; have n0_ := Aside0.mk (hb); have n1_ := Aside0.mk (ho); clear HB; clear HO_7; have HB := n0_; have HO190 := n1_; clear n0_ n1_; clear ho hb hg hat))
                      go_roundg k2
                      case measure => have := HJ3.out; have := HK2.out; omega
                      case rel => exact ⟨(y188), (wrap64 (x8_2 + 1)), (by first | rfl | (simp; done) | (simp [*]; done)), H', ⟨by have := HJ3.out; have := HK2.out; omega⟩, ⟨by (with_reducible repeat (first | apply Kd.R_alloc | apply Kd.R_drewN | apply Kd.R_drew)); exact HO190.out⟩, ⟨by repeat (first | (with_reducible first | exact HB.out | apply below_alloc | apply pw_below_drewN | apply below_drew1) | exact HB.out)⟩⟩
                    · rw [if_neg c30] at H
                      exact absurd H (by simp)
              · rw [if_neg c13] at H
                exact absurd H (by simp)
            · rw [if_neg c11] at H
              have c11b0 : decide (x8_2 < 32) = false := decide_eq_false c11
              clear c11
              obtain rfl := Option.some.inj H
              go_wp2
              go_ret
              exact ⟨_, by first | rfl | (simp [errW_none, errW_some] <;> rfl) | (simp [*, errW_none, errW_some] <;> rfl), by (with_reducible repeat (first | apply Kd.R_alloc | apply Kd.R_drewN | apply Kd.R_drew)); exact HO_7.out, by repeat (first | (with_reducible first | exact HB.out | apply below_alloc | apply pw_below_drewN | apply below_drew1) | exact HB.out)⟩

end Go.Proofs.Ytokljfnicijheab.PAll
