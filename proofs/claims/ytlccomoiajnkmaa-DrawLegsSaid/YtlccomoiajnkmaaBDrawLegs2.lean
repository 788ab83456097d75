/- Words, plain functions and contracts of the functions that the law of this claim reaches; no conditions. -/
import Derived.Test.YtlccomoiajnkmaaBDrawLegs1
section
namespace Go.Proofs.Ytlccomoiajnkmaa.PAll
open Go.RowKit Go.Proofs.YtlccomoiajnkmaaW.PrintWords Go.Proofs.YtlccomoiajnkmaaW.PrintLast Go.Proofs.YtlccomoiajnkmaaW.PrintMore
attribute [local go_sem] max2_int min2_int max_two min_two max_three min_three max_four min_four   -- for this text's walks alone
set_option linter.unusedVariables false
set_option linter.unusedSimpArgs false

/-! ### draw_Draws: function 9 -/
mutual
def draw_Draws.l0 : Nat → List (S46) → Int → Int → List (S37) → List Int → Int → Int → Option ((List (S37)) × Int)
  | 0, _, _, _, _, _, _, _ => none
  | k + 1, x1, x3, x4, x13, x29, x30, x31 => if x31 < x30 then (if 0 ≤ x31 then (if x31 < (x29.length : Int) then ((draw_open.f k x1 (rd x29 x31) x4).bind fun t135 => (draw_Draws.l1 k x1 x3 x4 x13 x29 x30 x31 t135 (t135.length : Int) 0)) else (none)) else (none)) else (if x3 > 0 then (some (([] : List (S37)), 7)) else ((slices_Clip_Draw.f x13).bind fun t131 => (some (t131, 0))))
def draw_Draws.l1 : Nat → List (S46) → Int → Int → List (S37) → List Int → Int → Int → List Int → Int → Int → Option ((List (S37)) × Int)
  | 0, _, _, _, _, _, _, _, _, _, _ => none
  | k + 1, x1, x3, x4, x13, x29, x30, x31, x38, x39, x40 => if x40 < x39 then (if 0 ≤ x40 then (if x40 < (x38.length : Int) then (if 0 ≤ (rd x38 x40) then (if (rd x38 x40) < (x1.length : Int) then (if (mn x3 ((rd_T46 x1 (rd x38 x40)).f3)) = 0 then ((slices_Clip_Draw.f x13).bind fun t140 => (some (t140, 0))) else (if x13.length < 8796093022208 then (draw_Draws.l1 k x1 (wrap64 (x3 - (mn x3 ((rd_T46 x1 (rd x38 x40)).f3)))) x4 (x13 ++ [(⟨rd x38 x40, mn x3 ((rd_T46 x1 (rd x38 x40)).f3)⟩ : S37)]) x29 x30 x31 x38 x39 (wrap64 (x40 + 1))) else (none))) else (none)) else (none)) else (none)) else (none)) else (draw_Draws.l0 k x1 x3 x4 x13 x29 x30 (wrap64 (x31 + 1)))
end
def draw_Draws.f (k : Nat) (l0 : List (S62)) (l1 : List (S46)) (a2 : Int) (a3 : Int) (a4 : Int) : Option ((List (S37)) × Int) := (tree_Path.f k l0 a2).bind fun t128 => (if (t128.length : Int) = 0 then (some (([] : List (S37)), 4)) else (if a3 < 0 then (some (([] : List (S37)), 1)) else (draw_Draws.l0 k l1 a3 a4 ([] : List (S37)) t128 (t128.length : Int) 0)))
theorem draw_Draws.mono_l : ∀ k, (∀ y0 y1 y2 y3 y4 y5 y6, LeO (draw_Draws.l0 k y0 y1 y2 y3 y4 y5 y6) (draw_Draws.l0 (k + 1) y0 y1 y2 y3 y4 y5 y6)) ∧ (∀ y0 y1 y2 y3 y4 y5 y6 y7 y8 y9, LeO (draw_Draws.l1 k y0 y1 y2 y3 y4 y5 y6 y7 y8 y9) (draw_Draws.l1 (k + 1) y0 y1 y2 y3 y4 y5 y6 y7 y8 y9))
  | 0 => ⟨fun _ _ _ _ _ _ _ r h => by simp [draw_Draws.l0] at h, fun _ _ _ _ _ _ _ _ _ _ r h => by simp [draw_Draws.l1] at h⟩
  | k + 1 => by
    obtain ⟨ih0, ih1⟩ := draw_Draws.mono_l k
    refine ⟨?_, ?_⟩
    · intro y0 y1 y2 y3 y4 y5 y6
      unfold draw_Draws.l0
      repeat' first
      | (with_reducible exact ih0 _ _ _ _ _ _ _)
      | (with_reducible exact ih1 _ _ _ _ _ _ _ _ _ _)
      | (with_reducible exact draw_open.mono _ _ _ _)
      | (with_reducible exact tree_Path.mono _ _ _)
      | (with_reducible exact LeO.refl _)
      | (with_reducible exact LeO.none _)
      | (with_reducible refine LeO.ite ?_ ?_)
      | (with_reducible refine LeO.bind ?_ (fun _ => ?_))
      | exact ih0 _ _ _ _ _ _ _
      | exact ih1 _ _ _ _ _ _ _ _ _ _
      | exact draw_open.mono _ _ _ _
      | exact tree_Path.mono _ _ _
      | exact LeO.none _
      | refine LeO.ite ?_ ?_
      | refine LeO.bind ?_ (fun _ => ?_)
    · intro y0 y1 y2 y3 y4 y5 y6 y7 y8 y9
      unfold draw_Draws.l1
      repeat' first
      | (with_reducible exact ih0 _ _ _ _ _ _ _)
      | (with_reducible exact ih1 _ _ _ _ _ _ _ _ _ _)
      | (with_reducible exact draw_open.mono _ _ _ _)
      | (with_reducible exact tree_Path.mono _ _ _)
      | (with_reducible exact LeO.refl _)
      | (with_reducible exact LeO.none _)
      | (with_reducible refine LeO.ite ?_ ?_)
      | (with_reducible refine LeO.bind ?_ (fun _ => ?_))
      | exact ih0 _ _ _ _ _ _ _
      | exact ih1 _ _ _ _ _ _ _ _ _ _
      | exact draw_open.mono _ _ _ _
      | exact tree_Path.mono _ _ _
      | exact LeO.none _
      | refine LeO.ite ?_ ?_
      | refine LeO.bind ?_ (fun _ => ?_)
theorem draw_Draws.mono : ∀ a0 a1 a2 a3 a4 k, LeO (draw_Draws.f k a0 a1 a2 a3 a4) (draw_Draws.f (k + 1) a0 a1 a2 a3 a4) := by
  intro a0 a1 a2 a3 a4 k
  obtain ⟨ih0, ih1⟩ := draw_Draws.mono_l k
  unfold draw_Draws.f
  repeat' first
      | (with_reducible exact ih0 _ _ _ _ _ _ _)
      | (with_reducible exact ih1 _ _ _ _ _ _ _ _ _ _)
      | (with_reducible exact draw_open.mono _ _ _ _)
      | (with_reducible exact tree_Path.mono _ _ _)
      | (with_reducible exact LeO.refl _)
      | (with_reducible exact LeO.none _)
      | (with_reducible refine LeO.ite ?_ ?_)
      | (with_reducible refine LeO.bind ?_ (fun _ => ?_))
      | exact ih0 _ _ _ _ _ _ _
      | exact ih1 _ _ _ _ _ _ _ _ _ _
      | exact draw_open.mono _ _ _ _
      | exact tree_Path.mono _ _ _
      | exact LeO.none _
      | refine LeO.ite ?_ ?_
      | refine LeO.bind ?_ (fun _ => ?_)
set_option maxHeartbeats 8000000 in
set_option maxRecDepth 100000 in
theorem draw_Draws.calls (k : Nat) (A0 : Option Addr) (c0 : Nat) (l0 : List (S62)) (A1 : Option Addr) (c1 : Nat) (l1 : List (S46)) (a2 : Int) (a3 : Int) (a4 : Int) (r1 : List (S37)) (r2 : Int) (w : World) (hr0 : Kd.C k62 w A0 l0.length l0) (hc0 : l0.length ≤ c0) (hr1 : Kd.C k46 w A1 l1.length l1) (hc1 : l1.length ≤ c1) (h : draw_Draws.f k l0 l1 a2 a3 a4 = some (r1, r2)) :
    Calls Try.prog 9 #[.slice A0 l0.length c0, .slice A1 l1.length c1, .int .i64 a2, .int .i64 a3, .int .i64 a4] w fun e w' => ∃ v0_ : Value, e = .returned (.tuple #[v0_, .int .i64 r2]) ∧ Kd.V k37 37 w' w.heap.size (fun k_ => (w.heap.size ≤ k_)) v0_ r1 ∧ Below w.heap.size w w' := by
  have hu37 := Try.underlying37
  have HR0 := Aside0.mk hr0
  have HC0 := Aside0.mk hc0
  clear hr0 hc0
  have HR1 := Aside0.mk hr1
  have HC1 := Aside0.mk hc1
  clear hr1 hc1
  have HB := Aside0.mk (Below.refl w.heap.size w)
  have H : ((tree_Path.f k l0 a2).bind fun t128 => (if (t128.length : Int) = 0 then (some (([] : List (S37)), 4)) else (if a3 < 0 then (some (([] : List (S37)), 1)) else (draw_Draws.l0 k l1 a3 a4 ([] : List (S37)) t128 (t128.length : Int) 0)))) = some (r1, r2) := h
  clear h
  replace H := Option.bind_eq_some_iff.mp H
  obtain ⟨t128, A60, H⟩ := H
  replace H : (if (t128.length : Int) = 0 then (some (([] : List (S37)), 4)) else (if a3 < 0 then (some (([] : List (S37)), 1)) else (draw_Draws.l0 k l1 a3 a4 ([] : List (S37)) t128 (t128.length : Int) 0))) = some (r1, r2) := H
  have A6 := Aside0.mk A60
  clear A60
  by_cases c7 : (t128.length : Int) = 0
  · rw [if_pos c7] at H
    have c7b0 : ((t128.length : Int) == 0) = true := beq_iff_eq.mpr c7
    have c7b1 : ((t128.length : Int) != 0) = false := bne_eq_false_iff_eq.mpr c7
    clear c7
    simp only [Option.some.injEq, Prod.mk.injEq] at H
    obtain ⟨rfl, rfl⟩ := H
    go_enter Try.func9, Try.ntmps9
    go_wp2_with (first | ((with_reducible refine gate_callee (f := 20) rfl ?_); refine goesL_ (some 21) rfl rfl Try.func20 (by kernel_rfl) rfl #[.slice A0 l0.length c0, .int .i64 a2] rfl (by (try simp only [List.map_toArray, List.map_cons, List.map_nil]); first | done | rfl | (simp only [List.length_drop, List.length_take]; rfl)) ?_; (with_reducible refine (tree_Path.calls k _ _ l0 a2 t128 _ ?side1 ?side2 A6.out).mono ?_); (case side1 => repeat (first | exact HR0.out | (with_reducible refine Kd.C_alloc ?_ _) | (with_reducible refine Kd.C_drewN ?_ _) | (with_reducible refine Kd.C_drew ?_))); (case side2 => exact HC0.out); rintro e w8 ⟨v129, rfl, ho0, hb⟩; refine ⟨_, rfl, ?_⟩; have n0_ := Aside0.mk (Kd.V_lower (Kd.V_mono (ok' := fun k_ => (w.heap.size ≤ k_)) ho0 (fun k_ hk_ => (Nat.le_trans (below_size (by repeat (first | (with_reducible first | exact HB.out | apply below_alloc | apply pw_below_drewN | apply below_drew1) | exact HB.out))) hk_))) (below_size (by repeat (first | (with_reducible first | exact HB.out | apply below_alloc | apply pw_below_drewN | apply below_drew1) | exact HB.out)))); have n1_ := Aside0.mk (below_step (by repeat (first | (with_reducible first | exact HB.out | apply below_alloc | apply pw_below_drewN | apply below_drew1) | exact HB.out)) hb); clear HB; have HO130 := n0_; have HB := n1_; clear n0_ n1_; (try clear hb); (try clear hb2); (try clear hk); (try clear hi); (try clear ho0); obtain ⟨Ao9, co9, eo9⟩ := Kd.V_slice HO130.out; subst eo9))
    go_ret2
    exact ⟨_, by first | rfl | (simp [errW_none, errW_some] <;> rfl) | (simp [*, errW_none, errW_some] <;> rfl), Kd.V_nil _ _ _ _ _, by repeat (first | (with_reducible first | exact HB.out | apply below_alloc | apply pw_below_drewN | apply below_drew1) | exact HB.out)⟩
  · rw [if_neg c7] at H
    have c7b0 : ((t128.length : Int) == 0) = false := beq_eq_false_iff_ne.mpr c7
    have c7b1 : ((t128.length : Int) != 0) = true := bne_iff_ne.mpr c7
    have c7b2 : ¬ (t128 = []) := fun h_ => c7 (by rw [h_]; rfl)
    by_cases c10 : a3 < 0
    · rw [if_pos c10] at H
      have c10b0 : decide (a3 < 0) = true := decide_eq_true c10
      clear c10
      simp only [Option.some.injEq, Prod.mk.injEq] at H
      obtain ⟨rfl, rfl⟩ := H
      go_enter Try.func9, Try.ntmps9
      go_wp2_with (first | ((with_reducible refine gate_callee (f := 20) rfl ?_); refine goesL_ (some 21) rfl rfl Try.func20 (by kernel_rfl) rfl #[.slice A0 l0.length c0, .int .i64 a2] rfl (by (try simp only [List.map_toArray, List.map_cons, List.map_nil]); first | done | rfl | (simp only [List.length_drop, List.length_take]; rfl)) ?_; (with_reducible refine (tree_Path.calls k _ _ l0 a2 t128 _ ?side1 ?side2 A6.out).mono ?_); (case side1 => repeat (first | exact HR0.out | (with_reducible refine Kd.C_alloc ?_ _) | (with_reducible refine Kd.C_drewN ?_ _) | (with_reducible refine Kd.C_drew ?_))); (case side2 => exact HC0.out); rintro e w11 ⟨v129, rfl, ho0, hb⟩; refine ⟨_, rfl, ?_⟩; have n0_ := Aside0.mk (Kd.V_lower (Kd.V_mono (ok' := fun k_ => (w.heap.size ≤ k_)) ho0 (fun k_ hk_ => (Nat.le_trans (below_size (by repeat (first | (with_reducible first | exact HB.out | apply below_alloc | apply pw_below_drewN | apply below_drew1) | exact HB.out))) hk_))) (below_size (by repeat (first | (with_reducible first | exact HB.out | apply below_alloc | apply pw_below_drewN | apply below_drew1) | exact HB.out)))); have n1_ := Aside0.mk (below_step (by repeat (first | (with_reducible first | exact HB.out | apply below_alloc | apply pw_below_drewN | apply below_drew1) | exact HB.out)) hb); clear HB; have HO130 := n0_; have HB := n1_; clear n0_ n1_; (try clear hb); (try clear hb2); (try clear hk); (try clear hi); (try clear ho0); obtain ⟨Ao12, co12, eo12⟩ := Kd.V_slice HO130.out; subst eo12))
      go_ret2
      exact ⟨_, by first | rfl | (simp [errW_none, errW_some] <;> rfl) | (simp [*, errW_none, errW_some] <;> rfl), Kd.V_nil _ _ _ _ _, by repeat (first | (with_reducible first | exact HB.out | apply below_alloc | apply pw_below_drewN | apply below_drew1) | exact HB.out)⟩
    · rw [if_neg c10] at H
      have c10b0 : decide (a3 < 0) = false := decide_eq_false c10
      clear c10
      have H' := Aside0.mk H
      clear H
      go_enter Try.func9, Try.ntmps9
      go_wp2_with (first | ((with_reducible refine gate_callee (f := 20) rfl ?_); refine goesL_ (some 21) rfl rfl Try.func20 (by kernel_rfl) rfl #[.slice A0 l0.length c0, .int .i64 a2] rfl (by (try simp only [List.map_toArray, List.map_cons, List.map_nil]); first | done | rfl | (simp only [List.length_drop, List.length_take]; rfl)) ?_; (with_reducible refine (tree_Path.calls k _ _ l0 a2 t128 _ ?side1 ?side2 A6.out).mono ?_); (case side1 => repeat (first | exact HR0.out | (with_reducible refine Kd.C_alloc ?_ _) | (with_reducible refine Kd.C_drewN ?_ _) | (with_reducible refine Kd.C_drew ?_))); (case side2 => exact HC0.out); rintro e w13 ⟨v129, rfl, ho0, hb⟩; refine ⟨_, rfl, ?_⟩; have n0_ := Aside0.mk (Kd.V_lower (Kd.V_mono (ok' := fun k_ => (w.heap.size ≤ k_)) ho0 (fun k_ hk_ => (Nat.le_trans (below_size (by repeat (first | (with_reducible first | exact HB.out | apply below_alloc | apply pw_below_drewN | apply below_drew1) | exact HB.out))) hk_))) (below_size (by repeat (first | (with_reducible first | exact HB.out | apply below_alloc | apply pw_below_drewN | apply below_drew1) | exact HB.out)))); have n1_ := Aside0.mk (below_step (by repeat (first | (with_reducible first | exact HB.out | apply below_alloc | apply pw_below_drewN | apply below_drew1) | exact HB.out)) hb); clear HB; have HO130 := n0_; have HB := n1_; clear n0_ n1_; (try clear hb); (try clear hb2); (try clear hk); (try clear hi); (try clear ho0); obtain ⟨Ao14, co14, eo14⟩ := Kd.V_slice HO130.out; subst eo14))
      go_loopg [3, 13, 31] k (fun kq v3 v13 v31 w' => ∃ (x3_1 : Int) (x13_1 : List (S37)) (x31_1 : Int), v3 = .int .i64 x3_1 ∧ v31 = .int .i64 x31_1 ∧ Aside0 (draw_Draws.l0 kq l1 x3_1 a4 x13_1 t128 (t128.length : Int) x31_1 = some (r1, r2)) ∧ Aside0 (kq ≤ k) ∧ Aside0 (Kd.R k37 37 w' w.heap.size (fun k_ => (w.heap.size ≤ k_)) v13 x13_1) ∧ Aside0 (Kd.V (Kd.int .i64) 3 w' w.heap.size (fun k_ => (w.heap.size ≤ k_) ∧ some k_ ≠ (v13 : Value).ownBlock) (.slice Ao14 t128.length co14) t128) ∧ Aside0 (Below w.heap.size w w'))
      case atStart => exact ⟨(a3), (([] : List (S37))), (0), (by first | rfl | (simp; done) | (simp [*]; done)), (by first | rfl | (simp; done) | (simp [*]; done)), H', ⟨Nat.le_refl _⟩, ⟨by first | exact Kd.R_nil _ _ _ _ _ | exact Kd.N_nil _ _ _ _ _ | exact Kd.V_nil _ _ _ _ _ | exact Kd.Q_nil _ _ _ _ _ | exact Kd.S_nil _ _ _ _ _⟩, ⟨by (with_reducible repeat (first | apply Kd.V_alloc | apply Kd.V_drewN | apply Kd.V_drew)); exact Kd.V_mono HO130.out (fun _ hk => ⟨hk, (by simp [Value.ownBlock])⟩)⟩, ⟨by repeat (first | (with_reducible first | exact HB.out | apply below_alloc | apply pw_below_drewN | apply below_drew1) | exact HB.out)⟩⟩
      case round =>
        clear H'
        try clear c1
        try clear c2
        try clear p2
        try clear c7
        try clear c7b0
        try clear c7b1
        try clear c7b2
        try clear c9
        try clear c10
        try clear c10b0
        obtain ⟨x3_1, x13_1, x31_1, rfl, rfl, HA, HK1, HO_13, HO_29, HB⟩ := hrel
        cases gk with
        | zero => exact absurd HA.out (by simp [draw_Draws.l0])
        | succ k1 =>
          have H := HA.out
          clear HA
          simp only [draw_Draws.l0] at H
          by_cases c15 : x31_1 < (t128.length : Int)
          · rw [if_pos c15] at H
            have c15b0 : decide (x31_1 < (t128.length : Int)) = true := decide_eq_true c15
            clear c15
            by_cases c16 : 0 ≤ x31_1
            · rw [if_pos c16] at H
              have c16b0 : decide (0 ≤ x31_1) = true := decide_eq_true c16
              clear c16
              by_cases c17 : x31_1 < (t128.length : Int)
              · rw [if_pos c17] at H
                have c17b0 : decide (x31_1 < (t128.length : Int)) = true := decide_eq_true c17
                clear c17
                replace H := Option.bind_eq_some_iff.mp H
                obtain ⟨t135, A180, H⟩ := H
                replace H : (draw_Draws.l1 k1 l1 x3_1 a4 x13_1 t128 (t128.length : Int) x31_1 t135 (t135.length : Int) 0) = some (r1, r2) := H
                have A18 := Aside0.mk A180
                clear A180
                have H' := Aside0.mk H
                clear H
                have p134 : 0 ≤ (x31_1 : Int) := of_decide_eq_true (by first | (with_reducible assumption) | assumption)
                have q134 : x31_1 < (t128.length : Int) := of_decide_eq_true (by first | (with_reducible assumption) | assumption)
                obtain ⟨ad134, e134, hx134_0⟩ := Kd.at_int (Kd.V_reads' HO_29.out).2.2 x31_1 p134 q134
                cases e134
                replace p134 := eq_true p134
                replace q134 := eq_true q134
                go_wp2_with (first | ((with_reducible refine gate_callee (f := 27) rfl ?_); refine goesL_ (some 38) rfl rfl Try.func27 (by kernel_rfl) rfl #[.slice A1 l1.length c1, .int .i64 (rd t128 x31_1), .int .i64 a4] rfl (by (try simp only [List.map_toArray, List.map_cons, List.map_nil]); first | done | rfl | (simp only [List.length_drop, List.length_take]; rfl)) ?_; (with_reducible refine (draw_open.calls k1 _ _ l1 (rd t128 x31_1) a4 t135 _ ?side1 ?side2 A18.out).mono ?_); (case side1 => repeat (first | exact (Kd.C_below HR1.out HB.out) | (with_reducible refine Kd.C_alloc ?_ _) | (with_reducible refine Kd.C_drewN ?_ _) | (with_reducible refine Kd.C_drew ?_))); (case side2 => exact HC1.out); rintro e w19 ⟨v136, rfl, ho0, hb⟩; refine ⟨_, rfl, ?_⟩; have n0_ := Aside0.mk (Kd.R_below (by (with_reducible repeat (first | apply Kd.R_alloc | apply Kd.R_drewN | apply Kd.R_drew)); exact HO_13.out) hb); have n1_ := Aside0.mk (Kd.V_elder' (by (with_reducible repeat (first | apply Kd.V_alloc | apply Kd.V_drewN | apply Kd.V_drew)); exact HO_29.out) (Kd.R_base ho0) hb); have n2_ := Aside0.mk (Kd.R_lower (Kd.R_newM (M := fun k_ => (w.heap.size ≤ k_)) ho0 (below_size (by repeat (first | (with_reducible first | exact HB.out | apply below_alloc | apply pw_below_drewN | apply below_drew1) | exact HB.out))) (fun k_ h_ => h_)) (below_size (by repeat (first | (with_reducible first | exact HB.out | apply below_alloc | apply pw_below_drewN | apply below_drew1) | exact HB.out)))); have n3_ := Aside0.mk (below_step (by repeat (first | (with_reducible first | exact HB.out | apply below_alloc | apply pw_below_drewN | apply below_drew1) | exact HB.out)) hb); clear HO_13; clear HO_29; clear HB; have HO_13 := n0_; have HO_29 := n1_; have HO137 := n2_; have HB := n3_; clear n0_ n1_ n2_ n3_; (try clear hb); (try clear hb2); (try clear hk); (try clear hi); (try clear ho0); obtain ⟨Ao20, co20, eo20⟩ := Kd.R_slice HO137.out; subst eo20))
                go_loopg [3, 13, 40] k1 (fun kq v3 v13 v40 w' => ∃ (x3_2 : Int) (x13_2 : List (S37)) (x40_2 : Int), v3 = .int .i64 x3_2 ∧ v40 = .int .i64 x40_2 ∧ Aside0 (draw_Draws.l1 kq l1 x3_2 a4 x13_2 t128 (t128.length : Int) x31_1 t135 (t135.length : Int) x40_2 = some (r1, r2)) ∧ Aside0 (kq ≤ k1) ∧ Aside0 (Kd.R k37 37 w' w.heap.size (fun k_ => (w.heap.size ≤ k_)) v13 x13_2) ∧ Aside0 (Kd.V (Kd.int .i64) 3 w' w.heap.size (fun k_ => (w.heap.size ≤ k_) ∧ some k_ ≠ (v13 : Value).ownBlock ∧ some k_ ≠ ((.slice Ao20 t135.length co20) : Value).ownBlock) (.slice (some ad134) t128.length co14) t128) ∧ Aside0 (Kd.R (Kd.int .i64) 3 w' w.heap.size (fun k_ => (w.heap.size ≤ k_)) (.slice Ao20 t135.length co20) t135) ∧ Aside0 (Below w.heap.size w w'))
                case atStart => exact ⟨(x3_1), (x13_1), (0), (by first | rfl | (simp; done) | (simp [*]; done)), (by first | rfl | (simp; done) | (simp [*]; done)), H', ⟨Nat.le_refl _⟩, ⟨by (with_reducible repeat (first | apply Kd.R_alloc | apply Kd.R_drewN | apply Kd.R_drew)); exact HO_13.out⟩, ⟨by (with_reducible repeat (first | apply Kd.V_alloc | apply Kd.V_drewN | apply Kd.V_drew)); exact Kd.V_mono HO_29.out (fun _ hk => ⟨hk.1.1, ⟨hk.1.2, hk.2⟩⟩)⟩, ⟨by (with_reducible repeat (first | apply Kd.R_alloc | apply Kd.R_drewN | apply Kd.R_drew)); exact Kd.R_mono HO137.out (fun _ hk => hk.1)⟩, ⟨by repeat (first | (with_reducible first | exact HB.out | apply below_alloc | apply pw_below_drewN | apply below_drew1) | exact HB.out)⟩⟩
                case round =>
                  clear H'
                  try clear c1
                  try clear p1
                  try clear q1
                  try clear hx1
                  try clear c2
                  try clear p2
                  try clear c7
                  try clear c7b0
                  try clear c7b1
                  try clear c7b2
                  try clear c9
                  try clear c10
                  try clear c10b0
                  try clear p13
                  try clear q13
                  try clear hx13
                  try clear c15
                  try clear c15b0
                  try clear c16
                  try clear c16b0
                  try clear c17
                  try clear c17b0
                  try clear c20
                  try clear hx134_0
                  try clear p134
                  try clear p2
                  try clear q134
                  obtain ⟨x3_2, x13_2, x40_2, rfl, rfl, HA, HK2, HO_13, HO_29, HO_38, HB⟩ := hrel
                  cases gk with
                  | zero => exact absurd HA.out (by simp [draw_Draws.l1])
                  | succ k2 =>
                    have H := HA.out
                    clear HA
                    simp only [draw_Draws.l1] at H
                    by_cases c21 : x40_2 < (t135.length : Int)
                    · rw [if_pos c21] at H
                      have c21b0 : decide (x40_2 < (t135.length : Int)) = true := decide_eq_true c21
                      clear c21
                      by_cases c22 : 0 ≤ x40_2
                      · rw [if_pos c22] at H
                        have c22b0 : decide (0 ≤ x40_2) = true := decide_eq_true c22
                        clear c22
                        by_cases c23 : x40_2 < (t135.length : Int)
                        · rw [if_pos c23] at H
                          have c23b0 : decide (x40_2 < (t135.length : Int)) = true := decide_eq_true c23
                          clear c23
                          by_cases c24 : 0 ≤ (rd t135 x40_2)
                          · rw [if_pos c24] at H
                            have c24b0 : decide (0 ≤ (rd t135 x40_2)) = true := decide_eq_true c24
                            clear c24
                            by_cases c25 : (rd t135 x40_2) < (l1.length : Int)
                            · rw [if_pos c25] at H
                              have c25b0 : decide ((rd t135 x40_2) < (l1.length : Int)) = true := decide_eq_true c25
                              clear c25
                              obtain ⟨ji26, hji26⟩ : ∃ j_ : Int, (mn x3_2 ((rd_T46 l1 (rd t135 x40_2)).f3)) = j_ := ⟨_, rfl⟩
                              replace H : (if (ji26) = 0 then ((slices_Clip_Draw.f x13_2).bind fun t140 => (some (t140, 0))) else (if x13_2.length < 8796093022208 then (draw_Draws.l1 k2 l1 (wrap64 (x3_2 - (ji26))) a4 (x13_2 ++ [(⟨rd t135 x40_2, ji26⟩ : S37)]) t128 (t128.length : Int) x31_1 t135 (t135.length : Int) (wrap64 (x40_2 + 1))) else (none))) = some (r1, r2) := by first | (rw [hji26] at H; exact H) | (simp only [hji26] at H ⊢; exact H)
                              have hji26_ : (if ((rd_T46 l1 (rd t135 x40_2)).f3) < x3_2 then ((rd_T46 l1 (rd t135 x40_2)).f3) else x3_2) = ji26 := hji26
                              by_cases c27 : (ji26) = 0
                              · rw [if_pos c27] at H
                                have c27b0 : ((ji26) == 0) = true := beq_iff_eq.mpr c27
                                have c27b1 : ((ji26) != 0) = false := bne_eq_false_iff_eq.mpr c27
                                clear c27
                                replace H := Option.bind_eq_some_iff.mp H
                                obtain ⟨t140, A280, H⟩ := H
                                replace H : (some (t140, 0)) = some (r1, r2) := H
                                have A28 := Aside0.mk A280
                                clear A280
                                simp only [Option.some.injEq, Prod.mk.injEq] at H
                                obtain ⟨rfl, rfl⟩ := H
                                have p138 : 0 ≤ (x40_2 : Int) := of_decide_eq_true (by first | (with_reducible assumption) | assumption)
                                have q138 : x40_2 < (t135.length : Int) := of_decide_eq_true (by first | (with_reducible assumption) | assumption)
                                obtain ⟨ad138, e138, hx138_0⟩ := Kd.at_int (Kd.R_reads' HO_38.out).2.2 x40_2 p138 q138
                                cases e138
                                replace p138 := eq_true p138
                                replace q138 := eq_true q138
                                have p139 : 0 ≤ ((rd t135 x40_2) : Int) := of_decide_eq_true (by first | (with_reducible assumption) | assumption)
                                have q139 : (rd t135 x40_2) < (l1.length : Int) := of_decide_eq_true (by first | (with_reducible assumption) | assumption)
                                obtain ⟨ad139, e139, hx139_0, hx139_1, hx139_2, hx139_3, hx139_4, hx139_5⟩ := at_T46 HR1.out (rd t135 x40_2) p139 q139
                                cases e139
                                replace hx139_0 := (HB.out.cell (World.block_lt_of_cell? w _ hx139_0)).trans hx139_0
                                replace hx139_1 := (HB.out.cell (World.block_lt_of_cell? w _ hx139_1)).trans hx139_1
                                replace hx139_2 := (HB.out.cell (World.block_lt_of_cell? w _ hx139_2)).trans hx139_2
                                replace hx139_3 := (HB.out.cell (World.block_lt_of_cell? w _ hx139_3)).trans hx139_3
                                replace hx139_4 := (HB.out.cell (World.block_lt_of_cell? w _ hx139_4)).trans hx139_4
                                replace hx139_5 := (HB.out.cell (World.block_lt_of_cell? w _ hx139_5)).trans hx139_5
                                replace p139 := eq_true p139
                                replace q139 := eq_true q139
                                obtain ⟨Ao29, co29, eo29⟩ := Kd.R_slice HO_13.out
                                subst eo29
                                go_wp2_with (first | ((with_reducible refine gate_callee (f := 28) rfl ?_); refine goesL_ (some 54) rfl rfl Try.func28 (by kernel_rfl) rfl #[.slice Ao29 x13_2.length co29] rfl (by (try simp only [List.map_toArray, List.map_cons, List.map_nil]); first | done | rfl | (simp only [List.length_drop, List.length_take]; rfl)) ?_; (with_reducible refine (slices_Clip_Draw.calls (fun k_ => some k_ = (.slice Ao29 x13_2.length co29 : Value).ownBlock) _ _ x13_2 t140 _ ?side1 A28.out).mono ?_); (case side1 => exact Kd.R_V (Kd.R_tight rfl (Kd.R_apart' (HO_13.out) (Kd.R_typed HO_38.out) (by decide)))); rintro e w30 ⟨v141, rfl, ho0, hb⟩; refine ⟨_, rfl, ?_⟩; have n0_ := Aside0.mk (Kd.R_below (by (with_reducible repeat (first | apply Kd.R_alloc | apply Kd.R_drewN | apply Kd.R_drew)); exact HO_13.out) hb); have n1_ := Aside0.mk (Kd.V_below (by (with_reducible repeat (first | apply Kd.V_alloc | apply Kd.V_drewN | apply Kd.V_drew)); exact HO_29.out) hb); have n2_ := Aside0.mk (Kd.R_below (by (with_reducible repeat (first | apply Kd.R_alloc | apply Kd.R_drewN | apply Kd.R_drew)); exact HO_38.out) hb); have n3_ := Aside0.mk (Kd.V_lower (Kd.V_mono (ok' := fun k_ => (w.heap.size ≤ k_) ∧ some k_ ≠ (.slice (some ad138) t135.length co20 : Value).ownBlock) ho0 (fun k_ hk_ => ⟨Or.elim hk_ (fun hs_ => ((Kd.R_apart' (HO_13.out) (Kd.R_typed HO_38.out) (by decide)).1 k_ hs_.symm).1) (fun hn_ => (Nat.le_trans (below_size (by repeat (first | (with_reducible first | exact HB.out | apply below_alloc | apply pw_below_drewN | apply below_drew1) | exact HB.out))) hn_)), Or.elim hk_ (fun hs_ => ((Kd.R_apart' (HO_13.out) (Kd.R_typed HO_38.out) (by decide)).1 k_ hs_.symm).2) (fun hn_ => (Kd.fresh' (Kd.R_lt (by (with_reducible repeat (first | apply Kd.R_alloc | apply Kd.R_drewN | apply Kd.R_drew)); exact HO_38.out)) k_ hn_))⟩)) (below_size (by repeat (first | (with_reducible first | exact HB.out | apply below_alloc | apply pw_below_drewN | apply below_drew1) | exact HB.out)))); have n4_ := Aside0.mk (below_step (by repeat (first | (with_reducible first | exact HB.out | apply below_alloc | apply pw_below_drewN | apply below_drew1) | exact HB.out)) hb); clear HO_13; clear HO_29; clear HO_38; clear HB; have HO_13 := n0_; have HO_29 := n1_; have HO_38 := n2_; have HO142 := n3_; have HB := n4_; clear n0_ n1_ n2_ n3_ n4_; (try clear hb); (try clear hb2); (try clear hk); (try clear hi); (try clear ho0)))
                                go_ret2
                                exact ⟨_, by first | rfl | (simp [errW_none, errW_some] <;> rfl) | (simp only [← hji26]; first | rfl | (simp [errW_none, errW_some] <;> rfl)) | (simp [*, errW_none, errW_some] <;> rfl), by (with_reducible repeat (first | apply Kd.V_alloc | apply Kd.V_drewN | apply Kd.V_drew)); exact Kd.V_mono HO142.out (fun _ hk => hk.1), by repeat (first | (with_reducible first | exact HB.out | apply below_alloc | apply pw_below_drewN | apply below_drew1) | exact HB.out)⟩
                              · rw [if_neg c27] at H
                                have c27b0 : ((ji26) == 0) = false := beq_eq_false_iff_ne.mpr c27
                                have c27b1 : ((ji26) != 0) = true := bne_iff_ne.mpr c27
                                by_cases c31 : x13_2.length < 8796093022208
                                · rw [if_pos c31] at H
                                  have LMc31 := Aside0.mk c31
                                  clear c31
                                  obtain ⟨y143, hy143⟩ : ∃ y_ : List (S37), y_ = (x13_2 ++ [(⟨rd t135 x40_2, ji26⟩ : S37)]) := ⟨_, rfl⟩
                                  replace H : (draw_Draws.l1 k2 l1 (wrap64 (x3_2 - (ji26))) a4 y143 t128 (t128.length : Int) x31_1 t135 (t135.length : Int) (wrap64 (x40_2 + 1))) = some (r1, r2) := by first | (rw [hy143]; with_reducible exact H) | (have H2_ := (Option.bind_some _ _).symm.trans H; rw [hy143]; with_reducible exact H2_) | (have H2_ := (Option.bind_some _ _).symm.trans H; with_reducible exact H2_) | with_reducible exact H | (rw [hy143]; exact H) | exact H
                                  have Ny143 := Aside0.mk hy143
                                  clear hy143
                                  have H' := Aside0.mk H
                                  clear H
                                  have p138 : 0 ≤ (x40_2 : Int) := of_decide_eq_true (by first | (with_reducible assumption) | assumption)
                                  have q138 : x40_2 < (t135.length : Int) := of_decide_eq_true (by first | (with_reducible assumption) | assumption)
                                  obtain ⟨ad138, e138, hx138_0⟩ := Kd.at_int (Kd.R_reads' HO_38.out).2.2 x40_2 p138 q138
                                  cases e138
                                  replace p138 := eq_true p138
                                  replace q138 := eq_true q138
                                  have p139 : 0 ≤ ((rd t135 x40_2) : Int) := of_decide_eq_true (by first | (with_reducible assumption) | assumption)
                                  have q139 : (rd t135 x40_2) < (l1.length : Int) := of_decide_eq_true (by first | (with_reducible assumption) | assumption)
                                  obtain ⟨ad139, e139, hx139_0, hx139_1, hx139_2, hx139_3, hx139_4, hx139_5⟩ := at_T46 HR1.out (rd t135 x40_2) p139 q139
                                  cases e139
                                  replace hx139_0 := (HB.out.cell (World.block_lt_of_cell? w _ hx139_0)).trans hx139_0
                                  replace hx139_1 := (HB.out.cell (World.block_lt_of_cell? w _ hx139_1)).trans hx139_1
                                  replace hx139_2 := (HB.out.cell (World.block_lt_of_cell? w _ hx139_2)).trans hx139_2
                                  replace hx139_3 := (HB.out.cell (World.block_lt_of_cell? w _ hx139_3)).trans hx139_3
                                  replace hx139_4 := (HB.out.cell (World.block_lt_of_cell? w _ hx139_4)).trans hx139_4
                                  replace hx139_5 := (HB.out.cell (World.block_lt_of_cell? w _ hx139_5)).trans hx139_5
                                  replace p139 := eq_true p139
                                  replace q139 := eq_true q139
                                  go_wp2_with (first | ((with_reducible refine gate_builtin (b := .append) (xs := #[.tmp 55, .tmp 59]) rfl ?_); at_builtin; refine Kd.R_append k37 (w0 := w) w.heap.size rfl (.tmp 55) (.tmp 59) 26 37 (.agg #[(.int .i64 0), (.int .i64 0)]) 16 rfl Try.underlying26 info37 rfl (by decide) (by omega) u13 x13_2 (⟨rd t135 x40_2, ji26⟩ : S37) [.int .i64 (rd t135 x40_2), .int .i64 ji26] (fun k_ => (w.heap.size ≤ k_)) (fun _ => False) rfl rfl ?aP (fun _ hk => hk.elim) ?aF ?aO ?aB ?aS ?aL ?_; (case aP => exact k37_mkM _ _ _ (⟨rd t135 x40_2, ji26⟩ : S37)); (case aB => exact (by repeat (first | (with_reducible first | exact HB.out | apply below_alloc | apply pw_below_drewN | apply below_drew1) | exact HB.out))); (case aF => exact (fun k_ hk => (Nat.le_trans (below_size (by repeat (first | (with_reducible first | exact HB.out | apply below_alloc | apply pw_below_drewN | apply below_drew1) | exact HB.out))) hk))); (case aO => exact (by (with_reducible repeat (first | apply Kd.R_alloc | apply Kd.R_drewN | apply Kd.R_drew)); exact HO_13.out)); (case aS => exact (below_size (by repeat (first | (with_reducible first | exact HB.out | apply below_alloc | apply pw_below_drewN | apply below_drew1) | exact HB.out)))); (case aL => have := LMc31.out; omega); intro v144 w32 ho hb hg hat; rw [← Ny143.out] at ho; have n0_ := Aside0.mk (Kd.V_afterv (ok := (fun k_ => (w.heap.size ≤ k_) ∧ some k_ ≠ (.slice (some ad138) t135.length co20 : Value).ownBlock)) (by (with_reducible repeat (first | apply Kd.V_alloc | apply Kd.V_drewN | apply Kd.V_drew)); exact Kd.V_mono HO_29.out (fun _ hk => ⟨⟨hk.1, hk.2.2⟩, hk.2.1⟩)) hg hat); have n1_ := Aside0.mk (Kd.R_over' (by (with_reducible repeat (first | apply Kd.R_alloc | apply Kd.R_drewN | apply Kd.R_drew)); exact HO_38.out) (Kd.R_typed (by (with_reducible repeat (first | apply Kd.R_alloc | apply Kd.R_drewN | apply Kd.R_drew)); exact HO_13.out)) (by decide) hg); have n2_ := Aside0.mk (hb); have n3_ := Aside0.mk (ho); clear HO_29; clear HO_38; clear HB; clear HO_13; have HO_29 := n0_; have HO_38 := n1_; have HB := n2_; have HO145 := n3_; clear n0_ n1_ n2_ n3_; clear ho hb hg hat))
                                  go_roundg k2
                                  case measure => have := HK1.out; have := HK2.out; omega
                                  case rel => exact ⟨(wrap64 (x3_2 - (ji26))), (y143), (wrap64 (x40_2 + 1)), (by first | rfl | (simp; done) | (simp only [← hji26] <;> (first | rfl | simp)) | (simp [*]; done)), (by first | rfl | (simp; done) | (simp [*]; done)), H', ⟨by have := HK1.out; have := HK2.out; omega⟩, ⟨by (with_reducible repeat (first | apply Kd.R_alloc | apply Kd.R_drewN | apply Kd.R_drew)); exact HO145.out⟩, ⟨by (with_reducible repeat (first | apply Kd.V_alloc | apply Kd.V_drewN | apply Kd.V_drew)); exact Kd.V_mono HO_29.out (fun _ hk => ⟨hk.1.1, ⟨hk.2, hk.1.2⟩⟩)⟩, ⟨by (with_reducible repeat (first | apply Kd.R_alloc | apply Kd.R_drewN | apply Kd.R_drew)); exact HO_38.out⟩, ⟨by repeat (first | (with_reducible first | exact HB.out | apply below_alloc | apply pw_below_drewN | apply below_drew1) | exact HB.out)⟩⟩
                                · rw [if_neg c31] at H
                                  exact absurd H (by simp)
                            · rw [if_neg c25] at H
                              exact absurd H (by simp)
                          · rw [if_neg c24] at H
                            exact absurd H (by simp)
                        · rw [if_neg c23] at H
                          exact absurd H (by simp)
                      · rw [if_neg c22] at H
                        exact absurd H (by simp)
                    · rw [if_neg c21] at H
                      have c21b0 : decide (x40_2 < (t135.length : Int)) = false := decide_eq_false c21
                      clear c21
                      have H' := Aside0.mk H
                      clear H
                      go_wp2
                      go_roundg k2
                      case measure => have := HK1.out; have := HK2.out; omega
                      case rel => exact ⟨(x3_2), (x13_2), (wrap64 (x31_1 + 1)), (by first | rfl | (simp; done) | (simp [*]; done)), (by first | rfl | (simp; done) | (simp [*]; done)), H', ⟨by have := HK1.out; have := HK2.out; omega⟩, ⟨by (with_reducible repeat (first | apply Kd.R_alloc | apply Kd.R_drewN | apply Kd.R_drew)); exact HO_13.out⟩, ⟨by (with_reducible repeat (first | apply Kd.V_alloc | apply Kd.V_drewN | apply Kd.V_drew)); exact Kd.V_mono HO_29.out (fun _ hk => ⟨hk.1, hk.2.1⟩)⟩, ⟨by repeat (first | (with_reducible first | exact HB.out | apply below_alloc | apply pw_below_drewN | apply below_drew1) | exact HB.out)⟩⟩
              · rw [if_neg c17] at H
                exact absurd H (by simp)
            · rw [if_neg c16] at H
              exact absurd H (by simp)
          · rw [if_neg c15] at H
            have c15b0 : decide (x31_1 < (t128.length : Int)) = false := decide_eq_false c15
            clear c15
            by_cases c33 : x3_1 > 0
            · rw [if_pos c33] at H
              have c33b0 : decide (0 < x3_1) = true := decide_eq_true c33
              clear c33
              simp only [Option.some.injEq, Prod.mk.injEq] at H
              obtain ⟨rfl, rfl⟩ := H
              go_wp2
              go_ret2
              exact ⟨_, by first | rfl | (simp [errW_none, errW_some] <;> rfl) | (simp [*, errW_none, errW_some] <;> rfl), Kd.V_nil _ _ _ _ _, by repeat (first | (with_reducible first | exact HB.out | apply below_alloc | apply pw_below_drewN | apply below_drew1) | exact HB.out)⟩
            · rw [if_neg c33] at H
              have c33b0 : decide (0 < x3_1) = false := decide_eq_false c33
              clear c33
              replace H := Option.bind_eq_some_iff.mp H
              obtain ⟨t131, A340, H⟩ := H
              replace H : (some (t131, 0)) = some (r1, r2) := H
              have A34 := Aside0.mk A340
              clear A340
              simp only [Option.some.injEq, Prod.mk.injEq] at H
              obtain ⟨rfl, rfl⟩ := H
              obtain ⟨Ao35, co35, eo35⟩ := Kd.R_slice HO_13.out
              subst eo35
              go_wp2_with (first | ((with_reducible refine gate_callee (f := 28) rfl ?_); refine goesL_ (some 69) rfl rfl Try.func28 (by kernel_rfl) rfl #[.slice Ao35 x13_1.length co35] rfl (by (try simp only [List.map_toArray, List.map_cons, List.map_nil]); first | done | rfl | (simp only [List.length_drop, List.length_take]; rfl)) ?_; (with_reducible refine (slices_Clip_Draw.calls (fun k_ => some k_ = (.slice Ao35 x13_1.length co35 : Value).ownBlock) _ _ x13_1 t131 _ ?side1 A34.out).mono ?_); (case side1 => exact Kd.R_V (Kd.R_tight rfl (HO_13.out))); rintro e w36 ⟨v132, rfl, ho0, hb⟩; refine ⟨_, rfl, ?_⟩; have n0_ := Aside0.mk (Kd.R_below (by (with_reducible repeat (first | apply Kd.R_alloc | apply Kd.R_drewN | apply Kd.R_drew)); exact HO_13.out) hb); have n1_ := Aside0.mk (Kd.V_below (by (with_reducible repeat (first | apply Kd.V_alloc | apply Kd.V_drewN | apply Kd.V_drew)); exact HO_29.out) hb); have n2_ := Aside0.mk (Kd.V_lower (Kd.V_mono (ok' := fun k_ => (w.heap.size ≤ k_)) ho0 (fun k_ hk_ => Or.elim hk_ (fun hs_ => ((HO_13.out).1 k_ hs_.symm)) (fun hn_ => (Nat.le_trans (below_size (by repeat (first | (with_reducible first | exact HB.out | apply below_alloc | apply pw_below_drewN | apply below_drew1) | exact HB.out))) hn_)))) (below_size (by repeat (first | (with_reducible first | exact HB.out | apply below_alloc | apply pw_below_drewN | apply below_drew1) | exact HB.out)))); have n3_ := Aside0.mk (below_step (by repeat (first | (with_reducible first | exact HB.out | apply below_alloc | apply pw_below_drewN | apply below_drew1) | exact HB.out)) hb); clear HO_13; clear HO_29; clear HB; have HO_13 := n0_; have HO_29 := n1_; have HO133 := n2_; have HB := n3_; clear n0_ n1_ n2_ n3_; (try clear hb); (try clear hb2); (try clear hk); (try clear hi); (try clear ho0)))
              go_ret2
              exact ⟨_, by first | rfl | (simp [errW_none, errW_some] <;> rfl) | (simp [*, errW_none, errW_some] <;> rfl), by (with_reducible repeat (first | apply Kd.V_alloc | apply Kd.V_drewN | apply Kd.V_drew)); exact HO133.out, by repeat (first | (with_reducible first | exact HB.out | apply below_alloc | apply pw_below_drewN | apply below_drew1) | exact HB.out)⟩

end Go.Proofs.Ytlccomoiajnkmaa.PAll
end
section
namespace Go.Proofs.Ytlccomoiajnkmaa.PAll
open Go.RowKit Go.Proofs.YtlccomoiajnkmaaW.PrintWords Go.Proofs.YtlccomoiajnkmaaW.PrintLast Go.Proofs.YtlccomoiajnkmaaW.PrintMore
attribute [local go_sem] max2_int min2_int max_two min_two max_three min_three max_four min_four   -- for this text's walks alone
set_option linter.unusedVariables false
set_option linter.unusedSimpArgs false

theorem eqA37 (d : Nat) (w : World) (x0 y0 : Int) (x1 y1 : Int) :
    (Op.equalIn (d + 2) 37 (.agg #[.int .i64 x0, .int .i64 x1]) (.agg #[.int .i64 y0, .int .i64 y1])).run Try.prog w = .ok (x0 == y0 && (x1 == y1)) w := by
  refine eqA_of Try.underlying37 (by kernel_rfl) ?_
  refine eqf_cons (by rfl) (by go_simp; rfl) (by go_simp; rfl) (by go_simp) ?_
  exact eqf_last (by rfl) (by go_simp; rfl) (by go_simp; rfl) (by go_simp)
end Go.Proofs.Ytlccomoiajnkmaa.PAll
end
section
namespace Go.Proofs.Ytlccomoiajnkmaa.PAll
open Go.RowKit Go.Proofs.YtlccomoiajnkmaaW.PrintWords Go.Proofs.YtlccomoiajnkmaaW.PrintLast Go.Proofs.YtlccomoiajnkmaaW.PrintMore
attribute [local go_sem] max2_int min2_int max_two min_two max_three min_three max_four min_four   -- for this text's walks alone
set_option linter.unusedVariables false
set_option linter.unusedSimpArgs false

attribute [local go_sem high] eqA37
/-! ### prebendref11_Alike: function 12 -/
def prebendref11_Alike.l0 : Nat → List (S37) → List (S37) → Int → Option (Bool)
  | 0, _, _, _ => none
  | k + 1, x0, x1, x5 => if x5 < (x0.length : Int) then (if 0 ≤ x5 then (if x5 < (x1.length : Int) then (if (!(((rd_T37 x0 x5).f0) == ((rd_T37 x1 x5).f0)) || (!(((rd_T37 x0 x5).f1) == ((rd_T37 x1 x5).f1)))) = true then (some false) else (prebendref11_Alike.l0 k x0 x1 (wrap64 (x5 + 1)))) else (none)) else (none)) else (some true)
def prebendref11_Alike.f (k : Nat) (l0 : List (S37)) (l1 : List (S37)) : Option (Bool) := if (l0.length : Int) = (l1.length : Int) then (prebendref11_Alike.l0 k l0 l1 0) else (some false)
theorem prebendref11_Alike.mono_l : ∀ k, (∀ y0 y1 y2, LeO (prebendref11_Alike.l0 k y0 y1 y2) (prebendref11_Alike.l0 (k + 1) y0 y1 y2))
  | 0 => fun _ _ _ r h => by simp [prebendref11_Alike.l0] at h
  | k + 1 => by
    have ih0 := prebendref11_Alike.mono_l k
    · intro y0 y1 y2
      unfold prebendref11_Alike.l0
      repeat' first
      | (with_reducible exact ih0 _ _ _)
      | (with_reducible exact LeO.refl _)
      | (with_reducible exact LeO.none _)
      | (with_reducible refine LeO.ite ?_ ?_)
      | (with_reducible refine LeO.bind ?_ (fun _ => ?_))
      | exact ih0 _ _ _
      | exact LeO.none _
      | refine LeO.ite ?_ ?_
      | refine LeO.bind ?_ (fun _ => ?_)
theorem prebendref11_Alike.mono : ∀ a0 a1 k, LeO (prebendref11_Alike.f k a0 a1) (prebendref11_Alike.f (k + 1) a0 a1) := by
  intro a0 a1 k
  have ih0 := prebendref11_Alike.mono_l k
  unfold prebendref11_Alike.f
  repeat' first
      | (with_reducible exact ih0 _ _ _)
      | (with_reducible exact LeO.refl _)
      | (with_reducible exact LeO.none _)
      | (with_reducible refine LeO.ite ?_ ?_)
      | (with_reducible refine LeO.bind ?_ (fun _ => ?_))
      | exact ih0 _ _ _
      | exact LeO.none _
      | refine LeO.ite ?_ ?_
      | refine LeO.bind ?_ (fun _ => ?_)
set_option maxHeartbeats 8000000 in
set_option maxRecDepth 100000 in
theorem prebendref11_Alike.calls (k : Nat) (A0 : Option Addr) (c0 : Nat) (l0 : List (S37)) (A1 : Option Addr) (c1 : Nat) (l1 : List (S37)) (r : Bool) (w : World) (hr0 : Kd.C k37 w A0 l0.length l0) (hc0 : l0.length ≤ c0) (hr1 : Kd.C k37 w A1 l1.length l1) (hc1 : l1.length ≤ c1) (h : prebendref11_Alike.f k l0 l1 = some r) :
    Calls Try.prog 12 #[.slice A0 l0.length c0, .slice A1 l1.length c1] w fun e w' => e = .returned (.bool r) ∧ Drawn0 w w' := by
  have hu37 := Try.underlying37
  have HR0 := Aside0.mk hr0
  have HC0 := Aside0.mk hc0
  clear hr0 hc0
  have HR1 := Aside0.mk hr1
  have HC1 := Aside0.mk hc1
  clear hr1 hc1
  have H : (if (l0.length : Int) = (l1.length : Int) then (prebendref11_Alike.l0 k l0 l1 0) else (some false)) = some r := h
  clear h
  by_cases c3 : (l0.length : Int) = (l1.length : Int)
  · rw [if_pos c3] at H
    have c3b0 : ((l0.length : Int) == (l1.length : Int)) = true := beq_iff_eq.mpr c3
    have c3b1 : ((l0.length : Int) != (l1.length : Int)) = false := bne_eq_false_iff_eq.mpr c3
    have c3b2 : (l0.length == l1.length) = true := by first | simpa using c3 | (simp at c3 ⊢; omega)
    clear c3
    have H' := Aside0.mk H
    clear H
    go_enter Try.func12, Try.ntmps12
    go_wp2
    repeat (go_quiet (fail); try go_wp2)
    go_loopg [5] k (fun kq v5 w' => ∃ (x5_1 : Int), v5 = .int .i64 x5_1 ∧ Aside0 (prebendref11_Alike.l0 kq l0 l1 x5_1 = some r) ∧ Aside0 (kq ≤ k) ∧ Drawn0 w w')
    case atStart => exact ⟨(0), (by first | rfl | (simp; done) | (simp [*]; done)), H', ⟨Nat.le_refl _⟩, by repeat (first | exact Drawn0.refl _ | apply Drawn0.step)⟩
    case round =>
      clear H'
      try clear c1
      try clear p2
      try clear c3
      try clear c3b0
      try clear c3b1
      try clear c3b2
      obtain ⟨x5_1, rfl, HA, HK1, ⟨m1, rfl⟩⟩ := hrel
      cases gk with
      | zero => exact absurd HA.out (by simp [prebendref11_Alike.l0])
      | succ k1 =>
        have H := HA.out
        clear HA
        simp only [prebendref11_Alike.l0] at H
        by_cases c4 : x5_1 < (l0.length : Int)
        · rw [if_pos c4] at H
          have c4b0 : decide (x5_1 < (l0.length : Int)) = true := decide_eq_true c4
          clear c4
          by_cases c5 : 0 ≤ x5_1
          · rw [if_pos c5] at H
            have c5b0 : decide (0 ≤ x5_1) = true := decide_eq_true c5
            clear c5
            by_cases c6 : x5_1 < (l1.length : Int)
            · rw [if_pos c6] at H
              have c6b0 : decide (x5_1 < (l1.length : Int)) = true := decide_eq_true c6
              clear c6
              by_cases c7 : (!(((rd_T37 l0 x5_1).f0) == ((rd_T37 l1 x5_1).f0)) || (!(((rd_T37 l0 x5_1).f1) == ((rd_T37 l1 x5_1).f1)))) = true
              · rw [if_pos c7] at H
                have c7b0 : (!(((rd_T37 l0 x5_1).f0) == ((rd_T37 l1 x5_1).f0)) || (!(((rd_T37 l0 x5_1).f1) == ((rd_T37 l1 x5_1).f1)))) = true := c7
                clear c7
                obtain rfl := Option.some.inj H
                have p186 : 0 ≤ (x5_1 : Int) := of_decide_eq_true (by first | (with_reducible assumption) | assumption)
                have q186 : x5_1 < (l0.length : Int) := of_decide_eq_true (by first | (with_reducible assumption) | assumption)
                obtain ⟨ad186, e186, hx186_0, hx186_1⟩ := at_T37 HR0.out x5_1 p186 q186
                cases e186
                replace p186 := eq_true p186
                replace q186 := eq_true q186
                have p187 : 0 ≤ (x5_1 : Int) := of_decide_eq_true (by first | (with_reducible assumption) | assumption)
                have q187 : x5_1 < (l1.length : Int) := of_decide_eq_true (by first | (with_reducible assumption) | assumption)
                obtain ⟨ad187, e187, hx187_0, hx187_1⟩ := at_T37 HR1.out x5_1 p187 q187
                cases e187
                replace p187 := eq_true p187
                replace q187 := eq_true q187
                go_wp2
                repeat (go_quiet (fail); try go_wp2)
                go_ret
                exact ⟨by first | rfl | (simp; done) | (simp [*]; done), by repeat (first | exact Drawn0.refl _ | apply Drawn0.step)⟩
              · rw [if_neg c7] at H
                have c7b0 : (!(((rd_T37 l0 x5_1).f0) == ((rd_T37 l1 x5_1).f0)) || (!(((rd_T37 l0 x5_1).f1) == ((rd_T37 l1 x5_1).f1)))) = false := by simpa using c7
                clear c7
                have H' := Aside0.mk H
                clear H
                have p186 : 0 ≤ (x5_1 : Int) := of_decide_eq_true (by first | (with_reducible assumption) | assumption)
                have q186 : x5_1 < (l0.length : Int) := of_decide_eq_true (by first | (with_reducible assumption) | assumption)
                obtain ⟨ad186, e186, hx186_0, hx186_1⟩ := at_T37 HR0.out x5_1 p186 q186
                cases e186
                replace p186 := eq_true p186
                replace q186 := eq_true q186
                have p187 : 0 ≤ (x5_1 : Int) := of_decide_eq_true (by first | (with_reducible assumption) | assumption)
                have q187 : x5_1 < (l1.length : Int) := of_decide_eq_true (by first | (with_reducible assumption) | assumption)
                obtain ⟨ad187, e187, hx187_0, hx187_1⟩ := at_T37 HR1.out x5_1 p187 q187
                cases e187
                replace p187 := eq_true p187
                replace q187 := eq_true q187
                go_wp2
                repeat (go_quiet (fail); try go_wp2)
                go_roundg k1
                case measure => have := HK1.out; omega
                case rel => exact ⟨(wrap64 (x5_1 + 1)), (by first | rfl | (simp; done) | (simp [*]; done)), H', ⟨by have := HK1.out; omega⟩, by repeat (first | exact Drawn0.refl _ | apply Drawn0.step)⟩
            · rw [if_neg c6] at H
              exact absurd H (by simp)
          · rw [if_neg c5] at H
            exact absurd H (by simp)
        · rw [if_neg c4] at H
          have c4b0 : decide (x5_1 < (l0.length : Int)) = false := decide_eq_false c4
          clear c4
          obtain rfl := Option.some.inj H
          go_wp2
          repeat (go_quiet (fail); try go_wp2)
          go_ret
          exact ⟨by first | rfl | (simp; done) | (simp [*]; done), by repeat (first | exact Drawn0.refl _ | apply Drawn0.step)⟩
  · rw [if_neg c3] at H
    have c3b0 : ((l0.length : Int) == (l1.length : Int)) = false := beq_eq_false_iff_ne.mpr c3
    have c3b1 : ((l0.length : Int) != (l1.length : Int)) = true := bne_iff_ne.mpr c3
    have c3b2 : (l0.length == l1.length) = false := by first | simpa using c3 | (simp at c3 ⊢; omega)
    obtain rfl := Option.some.inj H
    go_enter Try.func12, Try.ntmps12
    go_wp2
    repeat (go_quiet (fail); try go_wp2)
    go_ret
    exact ⟨by first | rfl | (simp; done) | (simp [*]; done), by repeat (first | exact Drawn0.refl _ | apply Drawn0.step)⟩

end Go.Proofs.Ytlccomoiajnkmaa.PAll
end
section
namespace Go.Proofs.Ytlccomoiajnkmaa.PAll
open Go.RowKit Go.Proofs.YtlccomoiajnkmaaW.PrintWords Go.Proofs.YtlccomoiajnkmaaW.PrintLast Go.Proofs.YtlccomoiajnkmaaW.PrintMore
attribute [local go_sem] max2_int min2_int max_two min_two max_three min_three max_four min_four   -- for this text's walks alone
set_option linter.unusedVariables false
set_option linter.unusedSimpArgs false

/-! ### slices_Clone_Draw: function 36 -/
def slices_Clone_Draw.f (l0 : List (S37)) : Option ((List (S37))) := (some (([] : List (S37)) : List (S37))).bind fun y210 => (if y210.length + l0.length < 8796093022208 then (some (y210 ++ l0)) else (none))
set_option maxHeartbeats 8000000 in
set_option maxRecDepth 100000 in
theorem slices_Clone_Draw.calls_some (ad0_ : Addr) (c0 : Nat) (l0 : List (S37)) (r : List (S37)) (w : World) (hr0 : Kd.C k37 w (some ad0_) l0.length l0) (hc0 : l0.length ≤ c0) (h : slices_Clone_Draw.f l0 = some r) :
    Calls Try.prog 36 #[.slice (some ad0_) l0.length c0] w fun e w' => ∃ v0_ : Value, e = .returned (v0_) ∧ Kd.R k37 37 w' w.heap.size (fun _ => True) v0_ r ∧ Below w.heap.size w w' := by
  have HR0 := Aside0.mk hr0
  have HC0 := Aside0.mk hc0
  clear hr0 hc0
  have HB := Aside0.mk (Below.refl w.heap.size w)
  have H : ((some (([] : List (S37)) : List (S37))).bind fun y210 => (if y210.length + l0.length < 8796093022208 then (some (y210 ++ l0)) else (none))) = some r := h
  clear h
  obtain ⟨y210, hy210⟩ : ∃ y_ : List (S37), y_ = (([] : List (S37))) := ⟨_, rfl⟩
  replace H : (if y210.length + l0.length < 8796093022208 then (some (y210 ++ l0)) else (none)) = some r := by first | (rw [hy210]; with_reducible exact H) | (have H2_ := (Option.bind_some _ _).symm.trans H; rw [hy210]; with_reducible exact H2_) | (have H2_ := (Option.bind_some _ _).symm.trans H; with_reducible exact H2_) | with_reducible exact H | (rw [hy210]; exact H) | exact H
  have Ny210 := Aside0.mk hy210
  clear hy210
  by_cases c2 : y210.length + l0.length < 8796093022208
  · rw [if_pos c2] at H
    have LMc2 := Aside0.mk c2
    clear c2
    obtain ⟨y213, hy213⟩ : ∃ y_ : List (S37), y_ = (y210 ++ l0) := ⟨_, rfl⟩
    replace H : (some y213) = some r := by first | (rw [hy213]; with_reducible exact H) | (have H2_ := (Option.bind_some _ _).symm.trans H; rw [hy213]; with_reducible exact H2_) | (have H2_ := (Option.bind_some _ _).symm.trans H; with_reducible exact H2_) | with_reducible exact H | (rw [hy213]; exact H) | exact H
    have Ny213 := Aside0.mk hy213
    clear hy213
    obtain rfl := Option.some.inj H
    have hnil_ := fun (W : World) => Lib.run_eql_slice_nil (P := Try.prog) W 26 37 (some ad0_) l0.length c0 0 0 Try.underlying26
    go_enter Try.func36, Try.ntmps36
    go_wp2_with (first | ((with_reducible refine gate_dst (N := 5) rfl ?_); refine Kd.R_lit k37 _ 37 ?hg (N := 5) ?hd (xs := ([] : List (S37))) (inner := []) (ok := fun _ => True) (okp := fun _ => True) ?hr ?hp (fun _ hk => hk) trivial (Below.refl _ _) (Nat.le_refl _) (by simp) ?_; (case hd => rfl); (case hg => rfl); (case hr => first | (go_simp; done) | (go_simp; rfl)); (case hp => exact (Reps.none _ _)); intro v211 w3 ho4 hb hg_ hnew_; clear hg_ hnew_; (first | rw [← Ny210.out] at ho4 | (simp only [Int.reduceToNat] at ho4; rw [← Ny210.out] at ho4)); have n0_ := Aside0.mk (Kd.R_lower ho4 (below_size (by repeat (first | (with_reducible first | exact HB.out | apply below_alloc | apply pw_below_drewN | apply below_drew1) | exact HB.out)))); have n1_ := Aside0.mk (below_step (by repeat (first | (with_reducible first | exact HB.out | apply below_alloc | apply pw_below_drewN | apply below_drew1) | exact HB.out)) hb); clear HB; have HO212 := n0_; have HB := n1_; clear n0_ n1_; clear hb ho4) | ((with_reducible refine gate_builtin (b := .append) (xs := #[.tmp 5, .tmp 6]) rfl ?_); at_builtin; refine Kd.R_append_rows k37 (w0 := w) w.heap.size rfl (.tmp 5) (.tmp 6) 26 37 (.agg #[(.int .i64 0), (.int .i64 0)]) 16 rfl Try.underlying26 info37 rfl (by decide) (by omega) v211 y210 l0 _ _ _ (fun _ => True) (fun _ => False) rfl rfl ?aO ?aR (fun _ _ h => h) (fun _ h => h.elim) ?aF ?aB ?aS ?aL ?_; (case aR => repeat (first | exact (Kd.C_below HR0.out HB.out) | (with_reducible refine Kd.C_alloc ?_ _) | (with_reducible refine Kd.C_drewN ?_ _) | (with_reducible refine Kd.C_drew ?_))); (case aB => exact (by repeat (first | (with_reducible first | exact HB.out | apply below_alloc | apply pw_below_drewN | apply below_drew1) | exact HB.out))); (case aF => exact (fun _ _ => trivial)); (case aO => exact (by (with_reducible repeat (first | apply Kd.R_alloc | apply Kd.R_drewN | apply Kd.R_drew)); exact HO212.out)); (case aS => exact (below_size (by repeat (first | (with_reducible first | exact HB.out | apply below_alloc | apply pw_below_drewN | apply below_drew1) | exact HB.out)))); (case aL => have := LMc2.out; omega); intro v214 w5 ho hb hg hat; rw [← Ny213.out] at ho; have n0_ := Aside0.mk (hb); have n1_ := Aside0.mk (ho); clear HB; clear HO212; have HB := n0_; have HO215 := n1_; clear n0_ n1_; clear ho hb hg hat))
    go_ret
    exact ⟨_, by first | rfl | (simp [errW_none, errW_some] <;> rfl) | (simp [*, errW_none, errW_some] <;> rfl), by (with_reducible repeat (first | apply Kd.R_alloc | apply Kd.R_drewN | apply Kd.R_drew)); exact HO215.out, by repeat (first | (with_reducible first | exact HB.out | apply below_alloc | apply pw_below_drewN | apply below_drew1) | exact HB.out)⟩
  · rw [if_neg c2] at H
    exact absurd H (by simp)

set_option maxHeartbeats 8000000 in
theorem slices_Clone_Draw.calls (A0 : Option Addr) (c0 : Nat) (l0 : List (S37)) (r : List (S37)) (w : World) (hr0 : Kd.C k37 w A0 l0.length l0) (hc0 : l0.length ≤ c0) (h : slices_Clone_Draw.f l0 = some r) :
    Calls Try.prog 36 #[.slice A0 l0.length c0] w fun e w' => ∃ v0_ : Value, e = .returned (v0_) ∧ Kd.R k37 37 w' w.heap.size (fun _ => True) v0_ r ∧ Below w.heap.size w w' := by
  cases A0 with
  | some ad0_ => exact slices_Clone_Draw.calls_some ad0_ c0 l0 r w hr0 hc0 h
  | none =>
    have hl : l0 = [] := by
      cases l0 with
      | nil => rfl
      | cons x xs => obtain ⟨ad, he, _⟩ := hr0.2.2 (by simp); cases he
    subst hl
    have hr : r = [] := by
      simp [slices_Clone_Draw.f] at h; first | exact h | exact h.symm
    subst hr
    have hnil_ := fun (W : World) => Lib.run_eql_slice_nil (P := Try.prog) W 26 37 none 0 c0 0 0 Try.underlying26
    clear hr0 hc0 h
    go_enter Try.func36, Try.ntmps36
    go_wp2
    go_ret
    exact ⟨_, rfl, Kd.R_nil _ _ _ _ _, Below.refl _ _⟩

end Go.Proofs.Ytlccomoiajnkmaa.PAll
end
section
namespace Go.Proofs.Ytlccomoiajnkmaa.PAll
open Go.RowKit Go.Proofs.YtlccomoiajnkmaaW.PrintWords Go.Proofs.YtlccomoiajnkmaaW.PrintLast Go.Proofs.YtlccomoiajnkmaaW.PrintMore
attribute [local go_sem] max2_int min2_int max_two min_two max_three min_three max_four min_four   -- for this text's walks alone
set_option linter.unusedVariables false
set_option linter.unusedSimpArgs false

/-! ### draw_Charge: function 21 -/
-- beside slices_Clip_Draw.calls, slices_Clone_Draw.calls
theorem clipD_at (A : Option Addr) (n c : Nat) (w : World) (hc : n ≤ c) :
    Calls Try.prog 28 #[.slice A n c] w fun e w' => e = .returned (.slice A n n) ∧ w' = w := by
  have hcut := slices_Clip_Draw.cut A n c hc
  go_enter Try.func28, Try.ntmps28
  go_wp2
  go_ret
  exact ⟨rfl, rfl⟩
theorem amt_cell {W : World} {base g n c : Nat} {ok : Nat → Prop} {l : List S37} (h : Kd.R k37 37 W base ok (.slice (some ⟨g, 0, none⟩) n c) l) (i : Nat) (hi : i < n) :
    W.cell? ⟨g, i * 2 + 1, none⟩ = some (.int .i64 (rd_T37 l (i : Int)).f1) ∧ W.frozen? ⟨g, i * 2 + 1, none⟩ = false := by
  obtain ⟨cs, hcl, hM, hc, hf⟩ := Kd.R_elem h z37 (i : Int) (by omega) (by omega)
  have hcs := k37_openM hM
  have hsz : k37.sz = 2 := rfl
  rw [hsz, show ((i : Int)).toNat = i by omega] at hc hf
  exact ⟨hc 1 _ (by rw [hcs]; rfl), hf 1⟩
theorem amt_store {W : World} {base g n c : Nat} {ok : Nat → Prop} {l : List S37} (h : Kd.R k37 37 W base ok (.slice (some ⟨g, 0, none⟩) n c) l) (i : Nat) (hi : i < n) (v : Int) :
    Kd.R k37 37 (W.setCell ⟨g, i * 2 + 1, none⟩ (.int .i64 v)) base ok (.slice (some ⟨g, 0, none⟩) n c) (l.set i ⟨(rd_T37 l (i : Int)).f0, v⟩) := by
  obtain ⟨cs, hcl, hM, hc, hf⟩ := Kd.R_elem h z37 (i : Int) (by omega) (by omega)
  have hcs := k37_openM hM
  have hsz : k37.sz = 2 := rfl
  have := (Kd.R_seg h (i : Int) (by omega) (by omega) hcl hc (seg := [.int .i64 v]) (j := 1) (by rw [hsz]; simp) (x' := (⟨(rd_T37 l (i : Int)).f0, v⟩ : S37)) (okp := fun k => ok k ∧ k ≠ g) (by
      show k37.M W base _ _ (cs.take 1 ++ [.int .i64 v] ++ cs.drop (1 + 1))
      rw [hcs]; exact k37_mkM _ _ _ (⟨(rd_T37 l (i : Int)).f0, v⟩ : S37)) (fun k hk => hk)).1
  rw [hsz, show ((i : Int)).toNat = i by omega] at this
  simpa [World.setCells] using this
def draw_Charge.l0 : Nat → List S37 → List S37 → Int → Int → Option (List S37 × Int)
  | 0, _, _, _, _ => none
  | k + 1, ds, out, am, i => if i < (ds.length : Int) then (if 0 ≤ i then (if (rd_T37 ds i).f1 < 0 then some ([], 7) else draw_Charge.l0 k ds (out.set i.toNat ⟨(rd_T37 out i).f0, min am (rd_T37 ds i).f1⟩) (wrap64 (am - min am (rd_T37 ds i).f1)) (wrap64 (i + 1))) else none) else if am > 0 then some ([], 7) else some (out, 0)
def draw_Charge.f (k : Nat) (l0 : List S37) (a1 : Int) : Option (List S37 × Int) := if a1 < 0 then some ([], 1) else if (l0.length : Int) < 1000000 then draw_Charge.l0 k l0 l0 a1 0 else none
theorem cloneD_f (l : List S37) (h : (l.length : Int) < 1000000) : slices_Clone_Draw.f l = some l := by
  unfold slices_Clone_Draw.f; simp only [Option.bind_some]; rw [if_pos (by simp; omega)]; rfl
theorem draw_Charge.mono_l : ∀ k y0 y1 y2 y3, LeO (draw_Charge.l0 k y0 y1 y2 y3) (draw_Charge.l0 (k + 1) y0 y1 y2 y3)
  | 0 => fun _ _ _ _ r h => by simp [draw_Charge.l0] at h
  | k + 1 => by
    have ih := draw_Charge.mono_l k
    · intro y0 y1 y2 y3
      unfold draw_Charge.l0
      repeat' first
      | (with_reducible exact ih _ _ _ _)
      | (with_reducible exact LeO.refl _)
      | (with_reducible exact LeO.none _)
      | (with_reducible refine LeO.ite ?_ ?_)
      | exact LeO.none _
      | refine LeO.ite ?_ ?_
      | exact LeO.refl _
theorem draw_Charge.mono : ∀ a0 a1 k, LeO (draw_Charge.f k a0 a1) (draw_Charge.f (k + 1) a0 a1) := by
  intro a0 a1 k
  unfold draw_Charge.f
  repeat' first
      | (with_reducible exact draw_Charge.mono_l _ _ _ _ _)
      | (with_reducible exact LeO.refl _)
      | (with_reducible exact LeO.none _)
      | (with_reducible refine LeO.ite ?_ ?_)
      | exact LeO.none _
      | refine LeO.ite ?_ ?_
      | exact LeO.refl _
set_option maxHeartbeats 8000000 in
set_option maxRecDepth 100000 in
theorem draw_Charge.calls (k : Nat) (A0 : Option Addr) (c0 : Nat) (l0 : List (S37)) (a1 : Int) (r1 : List S37) (r2 : Int) (w : World) (hr0 : Kd.C k37 w A0 l0.length l0) (hc0 : l0.length ≤ c0) (h : draw_Charge.f k l0 a1 = some (r1, r2)) :
    Calls Try.prog 21 #[.slice A0 l0.length c0, .int .i64 a1] w fun e w' => ∃ v0_ : Value, e = .returned (.tuple #[v0_, .int .i64 r2]) ∧ Kd.V k37 37 w' w.heap.size (fun k_ => (w.heap.size ≤ k_)) v0_ r1 ∧ Below w.heap.size w w' := by
  have HR0 := Aside0.mk hr0
  have HC0 := Aside0.mk hc0
  have HB := Aside0.mk (Below.refl w.heap.size w)
  unfold draw_Charge.f at h
  clear hr0 hc0
  by_cases c1 : a1 < 0
  · rw [if_pos c1] at h
    obtain ⟨rfl, rfl⟩ : [] = r1 ∧ 1 = r2 := by simpa using h
    have d1 : decide (a1 < 0) = true := decide_eq_true c1
    clear h c1
    go_enter Try.func21, Try.ntmps21
    go_wp2
    go_ret2
    exact ⟨_, rfl, Kd.V_nil _ _ _ _ _, HB.out⟩
  · rw [if_neg c1] at h
    have d1 : decide (a1 < 0) = false := decide_eq_false c1
    by_cases c2 : (l0.length : Int) < 1000000
    · rw [if_pos c2] at h
      have H' := Aside0.mk h
      have HF := Aside0.mk (cloneD_f l0 c2)
      have HN := Aside0.mk c2
      clear h c1 c2
      go_enter Try.func21, Try.ntmps21
      go_wp2_with (first | (go_at_call 36; with_reducible refine (slices_Clone_Draw.calls A0 c0 l0 l0 _ HR0.out HC0.out HF.out).mono ?_; rintro e w2 ⟨v, rfl, ho, hb⟩; obtain ⟨A, c, rfl, hcc, hC⟩ := Kd.R_reads ho; have HO := Aside0.mk ho; have HCC := Aside0.mk hcc; clear HB; have HB := Aside0.mk hb; clear ho hb hcc hC) | (go_at_call 28; with_reducible refine (clipD_at A l0.length c _ HCC.out).mono ?_; rintro e w3 ⟨rfl, rfl⟩))
      go_loopg [1, 16] k (fun kq v1 v16 wc => ∃ (i : Nat) (am : Int) (out : List S37), v1 = .int .i64 am ∧ v16 = .int .i64 (i : Int) ∧ Aside0 (draw_Charge.l0 kq l0 out am (i : Int) = some (r1, r2)) ∧ Aside0 (out.length = l0.length ∧ i ≤ l0.length) ∧ Aside0 (Kd.R k37 37 wc w.heap.size (fun _ => True) (.slice A l0.length c) out) ∧ Aside0 (Below w.heap.size w wc))
      case atStart => exact ⟨0, a1, l0, rfl, rfl, H', ⟨rfl, by omega⟩, HO, HB⟩
      case round =>
        clear H' HO HB
        obtain ⟨i, am, out, rfl, rfl, HH, HL, HO, HB⟩ := hrel
        cases gk with
        | zero => exact absurd HH.out (by simp [draw_Charge.l0])
        | succ k1 =>
          have H := HH.out
          clear HH
          simp only [draw_Charge.l0] at H
          by_cases c3 : i < l0.length
          · rw [if_pos (by omega), if_pos (by omega)] at H
            have HLT := Aside0.mk c3
            obtain ⟨g, cap, hv, hg0, hglt, hgc⟩ := Kd.R_form HO.out (by have := HL.out; omega)
            obtain ⟨rfl, rfl⟩ : A = some ⟨g, 0, none⟩ ∧ c = cap := by injection hv with h1 h2 h3; exact ⟨h1, h3⟩
            clear hv hgc
            have HG0 := Aside0.mk hg0
            have HGL := Aside0.mk hglt
            clear hg0 hglt
            obtain ⟨ad, ead, hx0, hx1⟩ := at_T37 HR0.out (i : Int) (by omega) (by omega)
            cases ead
            rw [show ((i : Int)).toNat = i by omega] at hx0 hx1
            replace hx0 := (HB.out.cell (World.block_lt_of_cell? w _ hx0)).trans hx0
            replace hx1 := (HB.out.cell (World.block_lt_of_cell? w _ hx1)).trans hx1
            have hi1 : decide ((i : Int) < (l0.length : Int)) = true := decide_eq_true (by omega)
            have hi2 : decide (i < l0.length) = true := decide_eq_true c3
            have hi3 : (i < l0.length) = True := eq_true c3
            by_cases c4 : (rd_T37 l0 (i : Int)).f1 < 0
            · rw [if_pos c4] at H
              obtain ⟨rfl, rfl⟩ : [] = r1 ∧ 7 = r2 := by simpa using H
              have f3 : decide ((rd_T37 l0 (i : Int)).f1 < 0) = true := decide_eq_true c4
              clear H c4 c3
              go_wp2
              go_ret2
              exact ⟨_, rfl, Kd.V_nil _ _ _ _ _, below_alloc HB.out _⟩
            · rw [if_neg c4] at H
              have f3 : decide ((rd_T37 l0 (i : Int)).f1 < 0) = false := decide_eq_false c4
              have H' := Aside0.mk H
              clear H c4 c3
              obtain ⟨q1, q2⟩ := amt_cell (Kd.R_below HO.out (below_alloc (Below.refl _ _) (.cells #[.int .i64 (rd_T37 l0 (i : Int)).f0, .int .i64 (rd_T37 l0 (i : Int)).f1] 37 (0, 0)))) i (by have := HL.out; have := HLT.out; omega)
              have HW : Aside0 (wrap64 ((i : Int) + 1) = ((i + 1 : Nat) : Int)) := ⟨by have := HN.out; have := HLT.out; unfold wrap64; omega⟩
              have HT : Aside0 ((i : Int).toNat = i) := ⟨by omega⟩
              rw [HW.out, HT.out] at H'
              go_wp2
              all_goals (
                go_roundg k1
                case measure => omega
                case rel => exact ⟨i + 1, wrap64 (am - min am (rd_T37 l0 (i : Int)).f1), out.set i ⟨(rd_T37 out (i : Int)).f0, min am (rd_T37 l0 (i : Int)).f1⟩, by (first | rw [show min am (rd_T37 l0 (i : Int)).f1 = am by omega] | rw [show min am (rd_T37 l0 (i : Int)).f1 = (rd_T37 l0 (i : Int)).f1 by omega]); first | done | rfl | (simp; done), by rw [HW.out], H', ⟨by have := HL.out.1; have := HLT.out; rw [List.length_set]; omega⟩, ⟨by (first | rw [show min am (rd_T37 l0 (i : Int)).f1 = am by omega] | rw [show min am (rd_T37 l0 (i : Int)).f1 = (rd_T37 l0 (i : Int)).f1 by omega]); exact amt_store (Kd.R_below HO.out (below_alloc (Below.refl _ _) _)) i (by have := HLT.out; omega) _⟩, ⟨below_set (below_alloc HB.out _) HG0.out⟩⟩)
          · rw [if_neg (by omega)] at H
            have f1 : decide ((i : Int) < (l0.length : Int)) = false := decide_eq_false (by omega)
            have f2 : decide (i < l0.length) = false := decide_eq_false c3
            have HV := Aside0.mk (show Kd.V k37 37 wr w.heap.size (fun k_ => (w.heap.size ≤ k_)) (.slice A l0.length l0.length) out from by
              have h1 := Kd.R_F (Kd.R_mono (Kd.R_bound HO.out) (fun k hk => hk.2.1))
              rw [← HL.out.1] at h1 ⊢
              exact Kd.V_mk (Nat.le_refl _) h1)
            by_cases c4 : am > 0
            · rw [if_pos c4] at H
              obtain ⟨rfl, rfl⟩ : [] = r1 ∧ 7 = r2 := by simpa using H
              have f3 : decide (0 < am) = true := decide_eq_true c4
              clear H c4 c3
              go_wp2
              go_ret2
              exact ⟨_, rfl, Kd.V_nil _ _ _ _ _, HB.out⟩
            · rw [if_neg c4] at H
              obtain ⟨rfl, rfl⟩ : out = r1 ∧ 0 = r2 := by simpa using H
              have f3 : decide (0 < am) = false := decide_eq_false c4
              clear H c4 c3
              go_wp2
              go_ret2
              exact ⟨_, rfl, HV.out, HB.out⟩
    · rw [if_neg c2] at h; simp at h
end Go.Proofs.Ytlccomoiajnkmaa.PAll
end
section
namespace Go.Proofs.Ytlccomoiajnkmaa.PAll
open Go.RowKit Go.Proofs.YtlccomoiajnkmaaW.PrintWords Go.Proofs.YtlccomoiajnkmaaW.PrintLast Go.Proofs.YtlccomoiajnkmaaW.PrintMore
attribute [local go_sem] max2_int min2_int max_two min_two max_three min_three max_four min_four   -- for this text's walks alone
set_option linter.unusedVariables false
set_option linter.unusedSimpArgs false

/-! ### prebendlaw11_awake: function 11 -/
def prebendlaw11_awake.f (k : Nat)  : Option (Bool) := (draw_Draws.f k (([(⟨(⟨#[97]⟩ : ByteArray), (-1), 0⟩ : S62)] : List (S62))) (([(⟨0, 0, 9, 5, 0, 0⟩ : S46), (⟨0, 0, 4, 5, 0, 0⟩ : S46)] : List (S46))) 0 7 0).bind fun bt222 => ((draw_Charge.f k bt222.1 6).bind fun bt226 => (if bt222.2 = 0 then ((prebendref11_Alike.f k bt222.1 (([(⟨1, 5⟩ : S37), (⟨0, 2⟩ : S37)] : List (S37)))).bind fun t233 => (if t233 = true then (if bt226.2 = 0 then ((prebendref11_Alike.f k bt226.1 (([(⟨1, 5⟩ : S37), (⟨0, 1⟩ : S37)] : List (S37)))).bind fun t237 => (if t237 = true then ((draw_Lien.f k bt222.1).bind fun t238 => (if (t238.length : Int) = 4 then ((draw_Spend.f k bt222.1 bt226.1).bind fun t241 => (if (t241.length : Int) = 5 then ((draw_Free.f k bt222.1).bind fun t244 => (if (t244.length : Int) = 4 then ((draw_Back.f k bt226.1).bind fun t247 => (some ((t247.length : Int) == 4))) else (some false))) else (some false))) else (some false))) else (some false))) else (some false)) else (some false))) else (some false)))
theorem prebendlaw11_awake.mono : ∀ k, LeO (prebendlaw11_awake.f k ) (prebendlaw11_awake.f (k + 1) ) := by
  intro  k
  unfold prebendlaw11_awake.f
  repeat' first
      | (with_reducible exact draw_Back.mono _ _)
      | (with_reducible exact draw_Charge.mono _ _ _)
      | (with_reducible exact draw_Draws.mono _ _ _ _ _ _)
      | (with_reducible exact draw_Free.mono _ _)
      | (with_reducible exact draw_Lien.mono _ _)
      | (with_reducible exact draw_Spend.mono _ _ _)
      | (with_reducible exact prebendref11_Alike.mono _ _ _)
      | (with_reducible exact LeO.refl _)
      | (with_reducible exact LeO.none _)
      | (with_reducible refine LeO.ite ?_ ?_)
      | (with_reducible refine LeO.bind ?_ (fun _ => ?_))
      | exact draw_Back.mono _ _
      | exact draw_Charge.mono _ _ _
      | exact draw_Draws.mono _ _ _ _ _ _
      | exact draw_Free.mono _ _
      | exact draw_Lien.mono _ _
      | exact draw_Spend.mono _ _ _
      | exact prebendref11_Alike.mono _ _ _
      | exact LeO.none _
      | refine LeO.ite ?_ ?_
      | refine LeO.bind ?_ (fun _ => ?_)
set_option maxHeartbeats 8000000 in
set_option maxRecDepth 100000 in
theorem prebendlaw11_awake.calls (k : Nat)  (r : Bool) (w : World) (h : prebendlaw11_awake.f k  = some r) :
    Calls Try.prog 11 #[] w fun e w' => e = .returned (.bool r) ∧ Below w.heap.size w w' := by
  have hu62 := Try.underlying62
  have hu46 := Try.underlying46
  have hu37 := Try.underlying37
  have HB := Aside0.mk (Below.refl w.heap.size w)
  have H : ((draw_Draws.f k (([(⟨(⟨#[97]⟩ : ByteArray), (-1), 0⟩ : S62)] : List (S62))) (([(⟨0, 0, 9, 5, 0, 0⟩ : S46), (⟨0, 0, 4, 5, 0, 0⟩ : S46)] : List (S46))) 0 7 0).bind fun bt222 => ((draw_Charge.f k bt222.1 6).bind fun bt226 => (if bt222.2 = 0 then ((prebendref11_Alike.f k bt222.1 (([(⟨1, 5⟩ : S37), (⟨0, 2⟩ : S37)] : List (S37)))).bind fun t233 => (if t233 = true then (if bt226.2 = 0 then ((prebendref11_Alike.f k bt226.1 (([(⟨1, 5⟩ : S37), (⟨0, 1⟩ : S37)] : List (S37)))).bind fun t237 => (if t237 = true then ((draw_Lien.f k bt222.1).bind fun t238 => (if (t238.length : Int) = 4 then ((draw_Spend.f k bt222.1 bt226.1).bind fun t241 => (if (t241.length : Int) = 5 then ((draw_Free.f k bt222.1).bind fun t244 => (if (t244.length : Int) = 4 then ((draw_Back.f k bt226.1).bind fun t247 => (some ((t247.length : Int) == 4))) else (some false))) else (some false))) else (some false))) else (some false))) else (some false)) else (some false))) else (some false)))) = some r := h
  clear h
  obtain ⟨y216, hy216⟩ : ∃ y_ : List (S62), y_ = (([(⟨(⟨#[97]⟩ : ByteArray), (-1), 0⟩ : S62)] : List (S62))) := ⟨_, rfl⟩
  replace H : ((draw_Draws.f k y216 (([(⟨0, 0, 9, 5, 0, 0⟩ : S46), (⟨0, 0, 4, 5, 0, 0⟩ : S46)] : List (S46))) 0 7 0).bind fun bt222 => ((draw_Charge.f k bt222.1 6).bind fun bt226 => (if bt222.2 = 0 then ((prebendref11_Alike.f k bt222.1 (([(⟨1, 5⟩ : S37), (⟨0, 2⟩ : S37)] : List (S37)))).bind fun t233 => (if t233 = true then (if bt226.2 = 0 then ((prebendref11_Alike.f k bt226.1 (([(⟨1, 5⟩ : S37), (⟨0, 1⟩ : S37)] : List (S37)))).bind fun t237 => (if t237 = true then ((draw_Lien.f k bt222.1).bind fun t238 => (if (t238.length : Int) = 4 then ((draw_Spend.f k bt222.1 bt226.1).bind fun t241 => (if (t241.length : Int) = 5 then ((draw_Free.f k bt222.1).bind fun t244 => (if (t244.length : Int) = 4 then ((draw_Back.f k bt226.1).bind fun t247 => (some ((t247.length : Int) == 4))) else (some false))) else (some false))) else (some false))) else (some false))) else (some false)) else (some false))) else (some false)))) = some r := by first | (rw [hy216]; with_reducible exact H) | (have H2_ := (Option.bind_some _ _).symm.trans H; rw [hy216]; with_reducible exact H2_) | (have H2_ := (Option.bind_some _ _).symm.trans H; with_reducible exact H2_) | with_reducible exact H | (rw [hy216]; exact H) | exact H
  have Ny216 := Aside0.mk hy216
  clear hy216
  obtain ⟨y219, hy219⟩ : ∃ y_ : List (S46), y_ = (([(⟨0, 0, 9, 5, 0, 0⟩ : S46), (⟨0, 0, 4, 5, 0, 0⟩ : S46)] : List (S46))) := ⟨_, rfl⟩
  replace H : ((draw_Draws.f k y216 y219 0 7 0).bind fun bt222 => ((draw_Charge.f k bt222.1 6).bind fun bt226 => (if bt222.2 = 0 then ((prebendref11_Alike.f k bt222.1 (([(⟨1, 5⟩ : S37), (⟨0, 2⟩ : S37)] : List (S37)))).bind fun t233 => (if t233 = true then (if bt226.2 = 0 then ((prebendref11_Alike.f k bt226.1 (([(⟨1, 5⟩ : S37), (⟨0, 1⟩ : S37)] : List (S37)))).bind fun t237 => (if t237 = true then ((draw_Lien.f k bt222.1).bind fun t238 => (if (t238.length : Int) = 4 then ((draw_Spend.f k bt222.1 bt226.1).bind fun t241 => (if (t241.length : Int) = 5 then ((draw_Free.f k bt222.1).bind fun t244 => (if (t244.length : Int) = 4 then ((draw_Back.f k bt226.1).bind fun t247 => (some ((t247.length : Int) == 4))) else (some false))) else (some false))) else (some false))) else (some false))) else (some false)) else (some false))) else (some false)))) = some r := by first | (rw [hy219]; with_reducible exact H) | (have H2_ := (Option.bind_some _ _).symm.trans H; rw [hy219]; with_reducible exact H2_) | (have H2_ := (Option.bind_some _ _).symm.trans H; with_reducible exact H2_) | with_reducible exact H | (rw [hy219]; exact H) | exact H
  have Ny219 := Aside0.mk hy219
  clear hy219
  replace H := Option.bind_eq_some_iff.mp H
  obtain ⟨⟨t222, t225⟩, A10, H⟩ := H
  replace H : ((draw_Charge.f k t222 6).bind fun bt226 => (if t225 = 0 then ((prebendref11_Alike.f k t222 (([(⟨1, 5⟩ : S37), (⟨0, 2⟩ : S37)] : List (S37)))).bind fun t233 => (if t233 = true then (if bt226.2 = 0 then ((prebendref11_Alike.f k bt226.1 (([(⟨1, 5⟩ : S37), (⟨0, 1⟩ : S37)] : List (S37)))).bind fun t237 => (if t237 = true then ((draw_Lien.f k t222).bind fun t238 => (if (t238.length : Int) = 4 then ((draw_Spend.f k t222 bt226.1).bind fun t241 => (if (t241.length : Int) = 5 then ((draw_Free.f k t222).bind fun t244 => (if (t244.length : Int) = 4 then ((draw_Back.f k bt226.1).bind fun t247 => (some ((t247.length : Int) == 4))) else (some false))) else (some false))) else (some false))) else (some false))) else (some false)) else (some false))) else (some false))) = some r := H
  have A1 := Aside0.mk A10
  clear A10
  replace H := Option.bind_eq_some_iff.mp H
  obtain ⟨⟨t226, t229⟩, A20, H⟩ := H
  replace H : (if t225 = 0 then ((prebendref11_Alike.f k t222 (([(⟨1, 5⟩ : S37), (⟨0, 2⟩ : S37)] : List (S37)))).bind fun t233 => (if t233 = true then (if t229 = 0 then ((prebendref11_Alike.f k t226 (([(⟨1, 5⟩ : S37), (⟨0, 1⟩ : S37)] : List (S37)))).bind fun t237 => (if t237 = true then ((draw_Lien.f k t222).bind fun t238 => (if (t238.length : Int) = 4 then ((draw_Spend.f k t222 t226).bind fun t241 => (if (t241.length : Int) = 5 then ((draw_Free.f k t222).bind fun t244 => (if (t244.length : Int) = 4 then ((draw_Back.f k t226).bind fun t247 => (some ((t247.length : Int) == 4))) else (some false))) else (some false))) else (some false))) else (some false))) else (some false)) else (some false))) else (some false)) = some r := H
  have A2 := Aside0.mk A20
  clear A20
  by_cases c3 : t225 = 0
  · rw [if_pos c3] at H
    have c3b0 : (t225 == 0) = true := beq_iff_eq.mpr c3
    have c3b1 : (t225 != 0) = false := bne_eq_false_iff_eq.mpr c3
    clear c3
    obtain ⟨y230, hy230⟩ : ∃ y_ : List (S37), y_ = (([(⟨1, 5⟩ : S37), (⟨0, 2⟩ : S37)] : List (S37))) := ⟨_, rfl⟩
    replace H : ((prebendref11_Alike.f k t222 y230).bind fun t233 => (if t233 = true then (if t229 = 0 then ((prebendref11_Alike.f k t226 (([(⟨1, 5⟩ : S37), (⟨0, 1⟩ : S37)] : List (S37)))).bind fun t237 => (if t237 = true then ((draw_Lien.f k t222).bind fun t238 => (if (t238.length : Int) = 4 then ((draw_Spend.f k t222 t226).bind fun t241 => (if (t241.length : Int) = 5 then ((draw_Free.f k t222).bind fun t244 => (if (t244.length : Int) = 4 then ((draw_Back.f k t226).bind fun t247 => (some ((t247.length : Int) == 4))) else (some false))) else (some false))) else (some false))) else (some false))) else (some false)) else (some false))) = some r := by first | (rw [hy230]; with_reducible exact H) | (have H2_ := (Option.bind_some _ _).symm.trans H; rw [hy230]; with_reducible exact H2_) | (have H2_ := (Option.bind_some _ _).symm.trans H; with_reducible exact H2_) | with_reducible exact H | (rw [hy230]; exact H) | exact H
    have Ny230 := Aside0.mk hy230
    clear hy230
    replace H := Option.bind_eq_some_iff.mp H
    obtain ⟨t233, A40, H⟩ := H
    replace H : (if t233 = true then (if t229 = 0 then ((prebendref11_Alike.f k t226 (([(⟨1, 5⟩ : S37), (⟨0, 1⟩ : S37)] : List (S37)))).bind fun t237 => (if t237 = true then ((draw_Lien.f k t222).bind fun t238 => (if (t238.length : Int) = 4 then ((draw_Spend.f k t222 t226).bind fun t241 => (if (t241.length : Int) = 5 then ((draw_Free.f k t222).bind fun t244 => (if (t244.length : Int) = 4 then ((draw_Back.f k t226).bind fun t247 => (some ((t247.length : Int) == 4))) else (some false))) else (some false))) else (some false))) else (some false))) else (some false)) else (some false)) = some r := H
    have A4 := Aside0.mk A40
    clear A40
    by_cases c5 : t233 = true
    · subst c5
      have H1 : (if t229 = 0 then ((prebendref11_Alike.f k t226 (([(⟨1, 5⟩ : S37), (⟨0, 1⟩ : S37)] : List (S37)))).bind fun t237 => (if t237 = true then ((draw_Lien.f k t222).bind fun t238 => (if (t238.length : Int) = 4 then ((draw_Spend.f k t222 t226).bind fun t241 => (if (t241.length : Int) = 5 then ((draw_Free.f k t222).bind fun t244 => (if (t244.length : Int) = 4 then ((draw_Back.f k t226).bind fun t247 => (some ((t247.length : Int) == 4))) else (some false))) else (some false))) else (some false))) else (some false))) else (some false)) = some r := by rw [if_pos rfl] at H; exact H
      clear H
      have H := H1
      clear H1
      by_cases c6 : t229 = 0
      · rw [if_pos c6] at H
        have c6b0 : (t229 == 0) = true := beq_iff_eq.mpr c6
        have c6b1 : (t229 != 0) = false := bne_eq_false_iff_eq.mpr c6
        clear c6
        obtain ⟨y234, hy234⟩ : ∃ y_ : List (S37), y_ = (([(⟨1, 5⟩ : S37), (⟨0, 1⟩ : S37)] : List (S37))) := ⟨_, rfl⟩
        replace H : ((prebendref11_Alike.f k t226 y234).bind fun t237 => (if t237 = true then ((draw_Lien.f k t222).bind fun t238 => (if (t238.length : Int) = 4 then ((draw_Spend.f k t222 t226).bind fun t241 => (if (t241.length : Int) = 5 then ((draw_Free.f k t222).bind fun t244 => (if (t244.length : Int) = 4 then ((draw_Back.f k t226).bind fun t247 => (some ((t247.length : Int) == 4))) else (some false))) else (some false))) else (some false))) else (some false))) = some r := by first | (rw [hy234]; with_reducible exact H) | (have H2_ := (Option.bind_some _ _).symm.trans H; rw [hy234]; with_reducible exact H2_) | (have H2_ := (Option.bind_some _ _).symm.trans H; with_reducible exact H2_) | with_reducible exact H | (rw [hy234]; exact H) | exact H
        have Ny234 := Aside0.mk hy234
        clear hy234
        replace H := Option.bind_eq_some_iff.mp H
        obtain ⟨t237, A70, H⟩ := H
        replace H : (if t237 = true then ((draw_Lien.f k t222).bind fun t238 => (if (t238.length : Int) = 4 then ((draw_Spend.f k t222 t226).bind fun t241 => (if (t241.length : Int) = 5 then ((draw_Free.f k t222).bind fun t244 => (if (t244.length : Int) = 4 then ((draw_Back.f k t226).bind fun t247 => (some ((t247.length : Int) == 4))) else (some false))) else (some false))) else (some false))) else (some false)) = some r := H
        have A7 := Aside0.mk A70
        clear A70
        by_cases c8 : t237 = true
        · subst c8
          have H1 : ((draw_Lien.f k t222).bind fun t238 => (if (t238.length : Int) = 4 then ((draw_Spend.f k t222 t226).bind fun t241 => (if (t241.length : Int) = 5 then ((draw_Free.f k t222).bind fun t244 => (if (t244.length : Int) = 4 then ((draw_Back.f k t226).bind fun t247 => (some ((t247.length : Int) == 4))) else (some false))) else (some false))) else (some false))) = some r := by rw [if_pos rfl] at H; exact H
          clear H
          have H := H1
          clear H1
          replace H := Option.bind_eq_some_iff.mp H
          obtain ⟨t238, A90, H⟩ := H
          replace H : (if (t238.length : Int) = 4 then ((draw_Spend.f k t222 t226).bind fun t241 => (if (t241.length : Int) = 5 then ((draw_Free.f k t222).bind fun t244 => (if (t244.length : Int) = 4 then ((draw_Back.f k t226).bind fun t247 => (some ((t247.length : Int) == 4))) else (some false))) else (some false))) else (some false)) = some r := H
          have A9 := Aside0.mk A90
          clear A90
          by_cases c10 : (t238.length : Int) = 4
          · rw [if_pos c10] at H
            have c10b0 : ((t238.length : Int) == 4) = true := beq_iff_eq.mpr c10
            have c10b1 : ((t238.length : Int) != 4) = false := bne_eq_false_iff_eq.mpr c10
            clear c10
            replace H := Option.bind_eq_some_iff.mp H
            obtain ⟨t241, A110, H⟩ := H
            replace H : (if (t241.length : Int) = 5 then ((draw_Free.f k t222).bind fun t244 => (if (t244.length : Int) = 4 then ((draw_Back.f k t226).bind fun t247 => (some ((t247.length : Int) == 4))) else (some false))) else (some false)) = some r := H
            have A11 := Aside0.mk A110
            clear A110
            by_cases c12 : (t241.length : Int) = 5
            · rw [if_pos c12] at H
              have c12b0 : ((t241.length : Int) == 5) = true := beq_iff_eq.mpr c12
              have c12b1 : ((t241.length : Int) != 5) = false := bne_eq_false_iff_eq.mpr c12
              clear c12
              replace H := Option.bind_eq_some_iff.mp H
              obtain ⟨t244, A130, H⟩ := H
              replace H : (if (t244.length : Int) = 4 then ((draw_Back.f k t226).bind fun t247 => (some ((t247.length : Int) == 4))) else (some false)) = some r := H
              have A13 := Aside0.mk A130
              clear A130
              by_cases c14 : (t244.length : Int) = 4
              · rw [if_pos c14] at H
                have c14b0 : ((t244.length : Int) == 4) = true := beq_iff_eq.mpr c14
                have c14b1 : ((t244.length : Int) != 4) = false := bne_eq_false_iff_eq.mpr c14
                clear c14
                replace H := Option.bind_eq_some_iff.mp H
                obtain ⟨t247, A150, H⟩ := H
                replace H : (some ((t247.length : Int) == 4)) = some r := H
                have A15 := Aside0.mk A150
                clear A150
                obtain rfl := Option.some.inj H
                go_enter Try.func11, Try.ntmps11
                go_wp2_with (first | ((with_reducible refine gate_dst (N := 8) rfl ?_); (try (refine gate_guard (by rfl) ?_; dsimp only)); refine Kd.R_lit k62 _ 62 ?hg (N := 8) ?hd (xs := ([(⟨(⟨#[97]⟩ : ByteArray), (-1), 0⟩ : S62)] : List (S62))) (inner := [.string (⟨#[97]⟩ : ByteArray), .int .i64 (-1), .int .i64 0]) (ok := fun _ => True) (okp := fun _ => True) ?hr ?hp (fun _ hk => hk) trivial (Below.refl _ _) (Nat.le_refl _) (by simp) ?_; (case hd => rfl); (case hg => rfl); (case hr => first | (go_simp; done) | (go_simp; rfl)); (case hp => exact (Reps.c3 (show Kd.M k62 _ _ _ (⟨(⟨#[97]⟩ : ByteArray), (-1), 0⟩ : S62) [.string (⟨#[97]⟩ : ByteArray), .int .i64 (-1), .int .i64 0] from (k62_mkM _ _ _ (⟨(⟨#[97]⟩ : ByteArray), (-1), 0⟩ : S62) )) (Reps.none _ _))); intro v217 w16 ho17 hb hg_ hnew_; clear hg_ hnew_; (first | rw [← Ny216.out] at ho17 | (simp only [Int.reduceToNat] at ho17; rw [← Ny216.out] at ho17)); have n0_ := Aside0.mk (Kd.R_lower ho17 (below_size (by repeat (first | (with_reducible first | exact HB.out | apply below_alloc | apply pw_below_drewN | apply below_drew1) | exact HB.out)))); have n1_ := Aside0.mk (below_step (by repeat (first | (with_reducible first | exact HB.out | apply below_alloc | apply pw_below_drewN | apply below_drew1) | exact HB.out)) hb); clear HB; have HO218 := n0_; have HB := n1_; clear n0_ n1_; clear hb ho17) | ((with_reducible refine gate_dst (N := 11) rfl ?_); (try (refine gate_guard (by rfl) ?_; dsimp only)); refine Kd.R_lit k46 _ 46 ?hg (N := 11) ?hd (xs := ([(⟨0, 0, 9, 5, 0, 0⟩ : S46), (⟨0, 0, 4, 5, 0, 0⟩ : S46)] : List (S46))) (inner := [.int .i64 0, .int .i64 0, .int .i64 9, .int .i64 5, .int .i64 0, .int .i64 0, .int .i64 0, .int .i64 0, .int .i64 4, .int .i64 5, .int .i64 0, .int .i64 0]) (ok := fun _ => True) (okp := fun _ => True) ?hr ?hp (fun _ hk => hk) trivial (Below.refl _ _) (Nat.le_refl _) (by simp) ?_; (case hd => rfl); (case hg => rfl); (case hr => first | (go_simp; done) | (go_simp; rfl)); (case hp => exact (Reps.c6 (show Kd.M k46 _ _ _ (⟨0, 0, 9, 5, 0, 0⟩ : S46) [.int .i64 0, .int .i64 0, .int .i64 9, .int .i64 5, .int .i64 0, .int .i64 0] from (k46_mkM _ _ _ (⟨0, 0, 9, 5, 0, 0⟩ : S46) )) (Reps.c6 (show Kd.M k46 _ _ _ (⟨0, 0, 4, 5, 0, 0⟩ : S46) [.int .i64 0, .int .i64 0, .int .i64 4, .int .i64 5, .int .i64 0, .int .i64 0] from (k46_mkM _ _ _ (⟨0, 0, 4, 5, 0, 0⟩ : S46) )) (Reps.none _ _)))); intro v220 w18 ho19 hb hg_ hnew_; clear hg_ hnew_; (first | rw [← Ny219.out] at ho19 | (simp only [Int.reduceToNat] at ho19; rw [← Ny219.out] at ho19)); have n0_ := Aside0.mk (Kd.R_below (by (with_reducible repeat (first | apply Kd.R_alloc | apply Kd.R_drewN | apply Kd.R_drew)); exact HO218.out) hb); have n1_ := Aside0.mk (Kd.R_lower ho19 (below_size (by repeat (first | (with_reducible first | exact HB.out | apply below_alloc | apply pw_below_drewN | apply below_drew1) | exact HB.out)))); have n2_ := Aside0.mk (below_step (by repeat (first | (with_reducible first | exact HB.out | apply below_alloc | apply pw_below_drewN | apply below_drew1) | exact HB.out)) hb); clear HO218; clear HB; have HO218 := n0_; have HO221 := n1_; have HB := n2_; clear n0_ n1_ n2_; clear hb ho19; obtain ⟨Ao20, co20, eo20⟩ := Kd.R_slice HO218.out; subst eo20; obtain ⟨Ao21, co21, eo21⟩ := Kd.R_slice HO221.out; subst eo21) | ((with_reducible refine gate_callee (f := 9) rfl ?_); refine goesL_ (some 15) rfl rfl Try.func9 (by kernel_rfl) rfl #[.slice Ao20 y216.length co20, .slice Ao21 y219.length co21, .int .i64 0, .int .i64 7, .int .i64 0] rfl (by (try simp only [List.map_toArray, List.map_cons, List.map_nil]); first | done | rfl | (simp only [List.length_drop, List.length_take]; rfl)) ?_; (with_reducible refine (draw_Draws.calls k _ _ y216 _ _ y219 0 7 0 t222 t225 _ ?side1 ?side2 ?side3 ?side4 A1.out).mono ?_); (case side1 => repeat (first | exact (Kd.R_reads' HO218.out).2.2 | (with_reducible refine Kd.C_alloc ?_ _) | (with_reducible refine Kd.C_drewN ?_ _) | (with_reducible refine Kd.C_drew ?_))); (case side2 => exact (Kd.R_reads' HO218.out).2.1); (case side3 => repeat (first | exact (Kd.R_reads' HO221.out).2.2 | (with_reducible refine Kd.C_alloc ?_ _) | (with_reducible refine Kd.C_drewN ?_ _) | (with_reducible refine Kd.C_drew ?_))); (case side4 => exact (Kd.R_reads' HO221.out).2.1); rintro e w22 ⟨v223, rfl, ho0, hb⟩; refine ⟨_, rfl, ?_⟩; have n0_ := Aside0.mk (Kd.R_below (by (with_reducible repeat (first | apply Kd.R_alloc | apply Kd.R_drewN | apply Kd.R_drew)); exact HO218.out) hb); have n1_ := Aside0.mk (Kd.R_below (by (with_reducible repeat (first | apply Kd.R_alloc | apply Kd.R_drewN | apply Kd.R_drew)); exact HO221.out) hb); have n2_ := Aside0.mk (Kd.V_lower (Kd.V_mono (ok' := fun k_ => some k_ ≠ (.slice Ao20 y216.length co20 : Value).ownBlock ∧ some k_ ≠ (.slice Ao21 y219.length co21 : Value).ownBlock) ho0 (fun k_ hk_ => ⟨(Kd.fresh' (Kd.R_lt (by (with_reducible repeat (first | apply Kd.R_alloc | apply Kd.R_drewN | apply Kd.R_drew)); exact HO218.out)) k_ hk_), (Kd.fresh' (Kd.R_lt (by (with_reducible repeat (first | apply Kd.R_alloc | apply Kd.R_drewN | apply Kd.R_drew)); exact HO221.out)) k_ hk_)⟩)) (below_size (by repeat (first | (with_reducible first | exact HB.out | apply below_alloc | apply pw_below_drewN | apply below_drew1) | exact HB.out)))); have n3_ := Aside0.mk (below_step (by repeat (first | (with_reducible first | exact HB.out | apply below_alloc | apply pw_below_drewN | apply below_drew1) | exact HB.out)) hb); clear HO218; clear HO221; clear HB; have HO218 := n0_; have HO221 := n1_; have HO224 := n2_; have HB := n3_; clear n0_ n1_ n2_ n3_; (try clear hb); (try clear hb2); (try clear hk); (try clear hi); (try clear ho0); obtain ⟨Ao23, co23, eo23⟩ := Kd.V_slice HO224.out; subst eo23) | ((with_reducible refine gate_callee (f := 21) rfl ?_); refine goesL_ (some 20) rfl rfl Try.func21 (by kernel_rfl) rfl #[.slice Ao23 t222.length co23, .int .i64 6] rfl (by (try simp only [List.map_toArray, List.map_cons, List.map_nil]); first | done | rfl | (simp only [List.length_drop, List.length_take]; rfl)) ?_; (with_reducible refine (draw_Charge.calls k _ _ t222 6 t226 t229 _ ?side1 ?side2 A2.out).mono ?_); (case side1 => repeat (first | exact (Kd.V_reads' HO224.out).2.2 | (with_reducible refine Kd.C_alloc ?_ _) | (with_reducible refine Kd.C_drewN ?_ _) | (with_reducible refine Kd.C_drew ?_))); (case side2 => exact (Kd.V_reads' HO224.out).2.1); rintro e w24 ⟨v227, rfl, ho0, hb⟩; refine ⟨_, rfl, ?_⟩; have n0_ := Aside0.mk (Kd.R_below (by (with_reducible repeat (first | apply Kd.R_alloc | apply Kd.R_drewN | apply Kd.R_drew)); exact HO218.out) hb); have n1_ := Aside0.mk (Kd.R_below (by (with_reducible repeat (first | apply Kd.R_alloc | apply Kd.R_drewN | apply Kd.R_drew)); exact HO221.out) hb); have n2_ := Aside0.mk (Kd.V_below (by (with_reducible repeat (first | apply Kd.V_alloc | apply Kd.V_drewN | apply Kd.V_drew)); exact HO224.out) hb); have n3_ := Aside0.mk (Kd.V_lower (Kd.V_mono (ok' := fun k_ => some k_ ≠ (.slice Ao20 y216.length co20 : Value).ownBlock ∧ some k_ ≠ (.slice Ao21 y219.length co21 : Value).ownBlock) ho0 (fun k_ hk_ => ⟨(Kd.fresh' (Kd.R_lt (by (with_reducible repeat (first | apply Kd.R_alloc | apply Kd.R_drewN | apply Kd.R_drew)); exact HO218.out)) k_ hk_), (Kd.fresh' (Kd.R_lt (by (with_reducible repeat (first | apply Kd.R_alloc | apply Kd.R_drewN | apply Kd.R_drew)); exact HO221.out)) k_ hk_)⟩)) (below_size (by repeat (first | (with_reducible first | exact HB.out | apply below_alloc | apply pw_below_drewN | apply below_drew1) | exact HB.out)))); have n4_ := Aside0.mk (below_step (by repeat (first | (with_reducible first | exact HB.out | apply below_alloc | apply pw_below_drewN | apply below_drew1) | exact HB.out)) hb); clear HO218; clear HO221; clear HO224; clear HB; have HO218 := n0_; have HO221 := n1_; have HO224 := n2_; have HO228 := n3_; have HB := n4_; clear n0_ n1_ n2_ n3_ n4_; (try clear hb); (try clear hb2); (try clear hk); (try clear hi); (try clear ho0)) | ((with_reducible refine gate_dst (N := 29) rfl ?_); (try (refine gate_guard (by rfl) ?_; dsimp only)); refine Kd.R_lit k37 _ 37 ?hg (N := 29) ?hd (xs := ([(⟨1, 5⟩ : S37), (⟨0, 2⟩ : S37)] : List (S37))) (inner := [.int .i64 1, .int .i64 5, .int .i64 0, .int .i64 2]) (ok := fun _ => True) (okp := fun _ => True) ?hr ?hp (fun _ hk => hk) trivial (Below.refl _ _) (Nat.le_refl _) (by simp) ?_; (case hd => rfl); (case hg => rfl); (case hr => first | (go_simp; done) | (go_simp; rfl)); (case hp => exact (Reps.c2 (show Kd.M k37 _ _ _ (⟨1, 5⟩ : S37) [.int .i64 1, .int .i64 5] from (k37_mkM _ _ _ (⟨1, 5⟩ : S37) )) (Reps.c2 (show Kd.M k37 _ _ _ (⟨0, 2⟩ : S37) [.int .i64 0, .int .i64 2] from (k37_mkM _ _ _ (⟨0, 2⟩ : S37) )) (Reps.none _ _)))); intro v231 w25 ho26 hb hg_ hnew_; clear hg_ hnew_; (first | rw [← Ny230.out] at ho26 | (simp only [Int.reduceToNat] at ho26; rw [← Ny230.out] at ho26)); have n0_ := Aside0.mk (Kd.R_below (by (with_reducible repeat (first | apply Kd.R_alloc | apply Kd.R_drewN | apply Kd.R_drew)); exact HO218.out) hb); have n1_ := Aside0.mk (Kd.R_below (by (with_reducible repeat (first | apply Kd.R_alloc | apply Kd.R_drewN | apply Kd.R_drew)); exact HO221.out) hb); have n2_ := Aside0.mk (Kd.V_elder' (by (with_reducible repeat (first | apply Kd.V_alloc | apply Kd.V_drewN | apply Kd.V_drew)); exact HO224.out) (Kd.R_base ho26) hb); have n3_ := Aside0.mk (Kd.V_elder' (by (with_reducible repeat (first | apply Kd.V_alloc | apply Kd.V_drewN | apply Kd.V_drew)); exact HO228.out) (Kd.R_base ho26) hb); have n4_ := Aside0.mk (Kd.R_lower ho26 (below_size (by repeat (first | (with_reducible first | exact HB.out | apply below_alloc | apply pw_below_drewN | apply below_drew1) | exact HB.out)))); have n5_ := Aside0.mk (below_step (by repeat (first | (with_reducible first | exact HB.out | apply below_alloc | apply pw_below_drewN | apply below_drew1) | exact HB.out)) hb); clear HO218; clear HO221; clear HO224; clear HO228; clear HB; have HO218 := n0_; have HO221 := n1_; have HO224 := n2_; have HO228 := n3_; have HO232 := n4_; have HB := n5_; clear n0_ n1_ n2_ n3_ n4_ n5_; clear hb ho26; obtain ⟨Ao27, co27, eo27⟩ := Kd.R_slice HO232.out; subst eo27) | (go_at_call 12; (with_reducible refine (prebendref11_Alike.calls k _ _ t222 _ _ y230 true _ ?side1 ?side2 ?side3 ?side4 A4.out).mono ?_); (case side1 => repeat (first | exact (Kd.V_reads' HO224.out).2.2 | (with_reducible refine Kd.C_alloc ?_ _) | (with_reducible refine Kd.C_drewN ?_ _) | (with_reducible refine Kd.C_drew ?_))); (case side2 => exact (Kd.V_reads' HO224.out).2.1); (case side3 => repeat (first | exact (Kd.R_reads' HO232.out).2.2 | (with_reducible refine Kd.C_alloc ?_ _) | (with_reducible refine Kd.C_drewN ?_ _) | (with_reducible refine Kd.C_drew ?_))); (case side4 => exact (Kd.R_reads' HO232.out).2.1); rintro e w' ⟨rfl, ⟨nd, rfl⟩⟩) | ((with_reducible refine gate_dst (N := 40) rfl ?_); (try (refine gate_guard (by rfl) ?_; dsimp only)); refine Kd.R_lit k37 _ 37 ?hg (N := 40) ?hd (xs := ([(⟨1, 5⟩ : S37), (⟨0, 1⟩ : S37)] : List (S37))) (inner := [.int .i64 1, .int .i64 5, .int .i64 0, .int .i64 1]) (ok := fun _ => True) (okp := fun _ => True) ?hr ?hp (fun _ hk => hk) trivial (Below.refl _ _) (Nat.le_refl _) (by simp) ?_; (case hd => rfl); (case hg => rfl); (case hr => first | (go_simp; done) | (go_simp; rfl)); (case hp => exact (Reps.c2 (show Kd.M k37 _ _ _ (⟨1, 5⟩ : S37) [.int .i64 1, .int .i64 5] from (k37_mkM _ _ _ (⟨1, 5⟩ : S37) )) (Reps.c2 (show Kd.M k37 _ _ _ (⟨0, 1⟩ : S37) [.int .i64 0, .int .i64 1] from (k37_mkM _ _ _ (⟨0, 1⟩ : S37) )) (Reps.none _ _)))); intro v235 w28 ho29 hb hg_ hnew_; clear hg_ hnew_; (first | rw [← Ny234.out] at ho29 | (simp only [Int.reduceToNat] at ho29; rw [← Ny234.out] at ho29)); have n0_ := Aside0.mk (Kd.R_below (by (with_reducible repeat (first | apply Kd.R_alloc | apply Kd.R_drewN | apply Kd.R_drew)); exact HO218.out) hb); have n1_ := Aside0.mk (Kd.R_below (by (with_reducible repeat (first | apply Kd.R_alloc | apply Kd.R_drewN | apply Kd.R_drew)); exact HO221.out) hb); have n2_ := Aside0.mk (Kd.V_elder' (by (with_reducible repeat (first | apply Kd.V_alloc | apply Kd.V_drewN | apply Kd.V_drew)); exact HO224.out) (Kd.R_base ho29) hb); have n3_ := Aside0.mk (Kd.V_elder' (by (with_reducible repeat (first | apply Kd.V_alloc | apply Kd.V_drewN | apply Kd.V_drew)); exact HO228.out) (Kd.R_base ho29) hb); have n4_ := Aside0.mk (Kd.R_elder' (by (with_reducible repeat (first | apply Kd.R_alloc | apply Kd.R_drewN | apply Kd.R_drew)); exact HO232.out) (Kd.R_base ho29) hb); have n5_ := Aside0.mk (Kd.R_lower (Kd.R_new' ho29 (Kd.R_lt (by (with_reducible repeat (first | apply Kd.R_alloc | apply Kd.R_drewN | apply Kd.R_drew)); exact HO232.out))) (below_size (by repeat (first | (with_reducible first | exact HB.out | apply below_alloc | apply pw_below_drewN | apply below_drew1) | exact HB.out)))); have n6_ := Aside0.mk (below_step (by repeat (first | (with_reducible first | exact HB.out | apply below_alloc | apply pw_below_drewN | apply below_drew1) | exact HB.out)) hb); clear HO218; clear HO221; clear HO224; clear HO228; clear HO232; clear HB; have HO218 := n0_; have HO221 := n1_; have HO224 := n2_; have HO228 := n3_; have HO232 := n4_; have HO236 := n5_; have HB := n6_; clear n0_ n1_ n2_ n3_ n4_ n5_ n6_; clear hb ho29; obtain ⟨Ao30, co30, eo30⟩ := Kd.V_slice HO228.out; subst eo30; obtain ⟨Ao31, co31, eo31⟩ := Kd.R_slice HO236.out; subst eo31) | (go_at_call 12; (with_reducible refine (prebendref11_Alike.calls k _ _ t226 _ _ y234 true _ ?side1 ?side2 ?side3 ?side4 A7.out).mono ?_); (case side1 => repeat (first | exact (Kd.V_reads' HO228.out).2.2 | (with_reducible refine Kd.C_alloc ?_ _) | (with_reducible refine Kd.C_drewN ?_ _) | (with_reducible refine Kd.C_drew ?_))); (case side2 => exact (Kd.V_reads' HO228.out).2.1); (case side3 => repeat (first | exact (Kd.R_reads' HO236.out).2.2 | (with_reducible refine Kd.C_alloc ?_ _) | (with_reducible refine Kd.C_drewN ?_ _) | (with_reducible refine Kd.C_drew ?_))); (case side4 => exact (Kd.R_reads' HO236.out).2.1); rintro e w' ⟨rfl, ⟨nd, rfl⟩⟩) | (go_at_call 15; (with_reducible refine (draw_Lien.calls k _ _ t222 t238 _ ?side1 ?side2 A9.out).mono ?_); (case side1 => repeat (first | exact (Kd.V_reads' HO224.out).2.2 | (with_reducible refine Kd.C_alloc ?_ _) | (with_reducible refine Kd.C_drewN ?_ _) | (with_reducible refine Kd.C_drew ?_))); (case side2 => exact (Kd.V_reads' HO224.out).2.1); rintro e w32 ⟨v239, rfl, ho0, hb⟩; have n0_ := Aside0.mk (Kd.R_below (by (with_reducible repeat (first | apply Kd.R_alloc | apply Kd.R_drewN | apply Kd.R_drew)); exact HO218.out) hb); have n1_ := Aside0.mk (Kd.R_below (by (with_reducible repeat (first | apply Kd.R_alloc | apply Kd.R_drewN | apply Kd.R_drew)); exact HO221.out) hb); have n2_ := Aside0.mk (Kd.V_below (by (with_reducible repeat (first | apply Kd.V_alloc | apply Kd.V_drewN | apply Kd.V_drew)); exact HO224.out) hb); have n3_ := Aside0.mk (Kd.V_below (by (with_reducible repeat (first | apply Kd.V_alloc | apply Kd.V_drewN | apply Kd.V_drew)); exact HO228.out) hb); have n4_ := Aside0.mk (Kd.R_below (by (with_reducible repeat (first | apply Kd.R_alloc | apply Kd.R_drewN | apply Kd.R_drew)); exact HO232.out) hb); have n5_ := Aside0.mk (Kd.R_below (by (with_reducible repeat (first | apply Kd.R_alloc | apply Kd.R_drewN | apply Kd.R_drew)); exact HO236.out) hb); have n6_ := Aside0.mk (Kd.V_lower (Kd.V_mono (ok' := fun k_ => some k_ ≠ (.slice Ao20 y216.length co20 : Value).ownBlock ∧ some k_ ≠ (.slice Ao21 y219.length co21 : Value).ownBlock ∧ some k_ ≠ (.slice Ao27 y230.length co27 : Value).ownBlock ∧ some k_ ≠ (.slice Ao31 y234.length co31 : Value).ownBlock) ho0 (fun k_ hk_ => ⟨(Kd.fresh' (Kd.R_lt (by (with_reducible repeat (first | apply Kd.R_alloc | apply Kd.R_drewN | apply Kd.R_drew)); exact HO218.out)) k_ hk_), (Kd.fresh' (Kd.R_lt (by (with_reducible repeat (first | apply Kd.R_alloc | apply Kd.R_drewN | apply Kd.R_drew)); exact HO221.out)) k_ hk_), (Kd.fresh' (Kd.R_lt (by (with_reducible repeat (first | apply Kd.R_alloc | apply Kd.R_drewN | apply Kd.R_drew)); exact HO232.out)) k_ hk_), (Kd.fresh' (Kd.R_lt (by (with_reducible repeat (first | apply Kd.R_alloc | apply Kd.R_drewN | apply Kd.R_drew)); exact HO236.out)) k_ hk_)⟩)) (below_size (by repeat (first | (with_reducible first | exact HB.out | apply below_alloc | apply pw_below_drewN | apply below_drew1) | exact HB.out)))); have n7_ := Aside0.mk (below_step (by repeat (first | (with_reducible first | exact HB.out | apply below_alloc | apply pw_below_drewN | apply below_drew1) | exact HB.out)) hb); clear HO218; clear HO221; clear HO224; clear HO228; clear HO232; clear HO236; clear HB; have HO218 := n0_; have HO221 := n1_; have HO224 := n2_; have HO228 := n3_; have HO232 := n4_; have HO236 := n5_; have HO240 := n6_; have HB := n7_; clear n0_ n1_ n2_ n3_ n4_ n5_ n6_ n7_; (try clear hb); (try clear hb2); (try clear hk); (try clear hi); (try clear ho0); obtain ⟨Ao33, co33, eo33⟩ := Kd.V_slice HO240.out; subst eo33) | (go_at_call 19; (with_reducible refine (draw_Spend.calls k _ _ t222 _ _ t226 t241 _ ?side1 ?side2 ?side3 ?side4 A11.out).mono ?_); (case side1 => repeat (first | exact (Kd.V_reads' HO224.out).2.2 | (with_reducible refine Kd.C_alloc ?_ _) | (with_reducible refine Kd.C_drewN ?_ _) | (with_reducible refine Kd.C_drew ?_))); (case side2 => exact (Kd.V_reads' HO224.out).2.1); (case side3 => repeat (first | exact (Kd.V_reads' HO228.out).2.2 | (with_reducible refine Kd.C_alloc ?_ _) | (with_reducible refine Kd.C_drewN ?_ _) | (with_reducible refine Kd.C_drew ?_))); (case side4 => exact (Kd.V_reads' HO228.out).2.1); rintro e w34 ⟨v242, rfl, ho0, hb⟩; have n0_ := Aside0.mk (Kd.R_below (by (with_reducible repeat (first | apply Kd.R_alloc | apply Kd.R_drewN | apply Kd.R_drew)); exact HO218.out) hb); have n1_ := Aside0.mk (Kd.R_below (by (with_reducible repeat (first | apply Kd.R_alloc | apply Kd.R_drewN | apply Kd.R_drew)); exact HO221.out) hb); have n2_ := Aside0.mk (Kd.V_below (by (with_reducible repeat (first | apply Kd.V_alloc | apply Kd.V_drewN | apply Kd.V_drew)); exact HO224.out) hb); have n3_ := Aside0.mk (Kd.V_below (by (with_reducible repeat (first | apply Kd.V_alloc | apply Kd.V_drewN | apply Kd.V_drew)); exact HO228.out) hb); have n4_ := Aside0.mk (Kd.R_below (by (with_reducible repeat (first | apply Kd.R_alloc | apply Kd.R_drewN | apply Kd.R_drew)); exact HO232.out) hb); have n5_ := Aside0.mk (Kd.R_below (by (with_reducible repeat (first | apply Kd.R_alloc | apply Kd.R_drewN | apply Kd.R_drew)); exact HO236.out) hb); have n6_ := Aside0.mk (Kd.V_below (by (with_reducible repeat (first | apply Kd.V_alloc | apply Kd.V_drewN | apply Kd.V_drew)); exact HO240.out) hb); have n7_ := Aside0.mk (Kd.V_lower (Kd.V_mono (ok' := fun k_ => some k_ ≠ (.slice Ao20 y216.length co20 : Value).ownBlock ∧ some k_ ≠ (.slice Ao21 y219.length co21 : Value).ownBlock ∧ some k_ ≠ (.slice Ao27 y230.length co27 : Value).ownBlock ∧ some k_ ≠ (.slice Ao31 y234.length co31 : Value).ownBlock) ho0 (fun k_ hk_ => ⟨(Kd.fresh' (Kd.R_lt (by (with_reducible repeat (first | apply Kd.R_alloc | apply Kd.R_drewN | apply Kd.R_drew)); exact HO218.out)) k_ hk_), (Kd.fresh' (Kd.R_lt (by (with_reducible repeat (first | apply Kd.R_alloc | apply Kd.R_drewN | apply Kd.R_drew)); exact HO221.out)) k_ hk_), (Kd.fresh' (Kd.R_lt (by (with_reducible repeat (first | apply Kd.R_alloc | apply Kd.R_drewN | apply Kd.R_drew)); exact HO232.out)) k_ hk_), (Kd.fresh' (Kd.R_lt (by (with_reducible repeat (first | apply Kd.R_alloc | apply Kd.R_drewN | apply Kd.R_drew)); exact HO236.out)) k_ hk_)⟩)) (below_size (by repeat (first | (with_reducible first | exact HB.out | apply below_alloc | apply pw_below_drewN | apply below_drew1) | exact HB.out)))); have n8_ := Aside0.mk (below_step (by repeat (first | (with_reducible first | exact HB.out | apply below_alloc | apply pw_below_drewN | apply below_drew1) | exact HB.out)) hb); clear HO218; clear HO221; clear HO224; clear HO228; clear HO232; clear HO236; clear HO240; clear HB; have HO218 := n0_; have HO221 := n1_; have HO224 := n2_; have HO228 := n3_; have HO232 := n4_; have HO236 := n5_; have HO240 := n6_; have HO243 := n7_; have HB := n8_; clear n0_ n1_ n2_ n3_ n4_ n5_ n6_ n7_ n8_; (try clear hb); (try clear hb2); (try clear hk); (try clear hi); (try clear ho0); obtain ⟨Ao35, co35, eo35⟩ := Kd.V_slice HO243.out; subst eo35) | (go_at_call 17; (with_reducible refine (draw_Free.calls k _ _ t222 t244 _ ?side1 ?side2 A13.out).mono ?_); (case side1 => repeat (first | exact (Kd.V_reads' HO224.out).2.2 | (with_reducible refine Kd.C_alloc ?_ _) | (with_reducible refine Kd.C_drewN ?_ _) | (with_reducible refine Kd.C_drew ?_))); (case side2 => exact (Kd.V_reads' HO224.out).2.1); rintro e w36 ⟨v245, rfl, ho0, hb⟩; have n0_ := Aside0.mk (Kd.R_below (by (with_reducible repeat (first | apply Kd.R_alloc | apply Kd.R_drewN | apply Kd.R_drew)); exact HO218.out) hb); have n1_ := Aside0.mk (Kd.R_below (by (with_reducible repeat (first | apply Kd.R_alloc | apply Kd.R_drewN | apply Kd.R_drew)); exact HO221.out) hb); have n2_ := Aside0.mk (Kd.V_below (by (with_reducible repeat (first | apply Kd.V_alloc | apply Kd.V_drewN | apply Kd.V_drew)); exact HO224.out) hb); have n3_ := Aside0.mk (Kd.V_below (by (with_reducible repeat (first | apply Kd.V_alloc | apply Kd.V_drewN | apply Kd.V_drew)); exact HO228.out) hb); have n4_ := Aside0.mk (Kd.R_below (by (with_reducible repeat (first | apply Kd.R_alloc | apply Kd.R_drewN | apply Kd.R_drew)); exact HO232.out) hb); have n5_ := Aside0.mk (Kd.R_below (by (with_reducible repeat (first | apply Kd.R_alloc | apply Kd.R_drewN | apply Kd.R_drew)); exact HO236.out) hb); have n6_ := Aside0.mk (Kd.V_below (by (with_reducible repeat (first | apply Kd.V_alloc | apply Kd.V_drewN | apply Kd.V_drew)); exact HO240.out) hb); have n7_ := Aside0.mk (Kd.V_below (by (with_reducible repeat (first | apply Kd.V_alloc | apply Kd.V_drewN | apply Kd.V_drew)); exact HO243.out) hb); have n8_ := Aside0.mk (Kd.V_lower (Kd.V_mono (ok' := fun k_ => some k_ ≠ (.slice Ao20 y216.length co20 : Value).ownBlock ∧ some k_ ≠ (.slice Ao21 y219.length co21 : Value).ownBlock ∧ some k_ ≠ (.slice Ao27 y230.length co27 : Value).ownBlock ∧ some k_ ≠ (.slice Ao31 y234.length co31 : Value).ownBlock) ho0 (fun k_ hk_ => ⟨(Kd.fresh' (Kd.R_lt (by (with_reducible repeat (first | apply Kd.R_alloc | apply Kd.R_drewN | apply Kd.R_drew)); exact HO218.out)) k_ hk_), (Kd.fresh' (Kd.R_lt (by (with_reducible repeat (first | apply Kd.R_alloc | apply Kd.R_drewN | apply Kd.R_drew)); exact HO221.out)) k_ hk_), (Kd.fresh' (Kd.R_lt (by (with_reducible repeat (first | apply Kd.R_alloc | apply Kd.R_drewN | apply Kd.R_drew)); exact HO232.out)) k_ hk_), (Kd.fresh' (Kd.R_lt (by (with_reducible repeat (first | apply Kd.R_alloc | apply Kd.R_drewN | apply Kd.R_drew)); exact HO236.out)) k_ hk_)⟩)) (below_size (by repeat (first | (with_reducible first | exact HB.out | apply below_alloc | apply pw_below_drewN | apply below_drew1) | exact HB.out)))); have n9_ := Aside0.mk (below_step (by repeat (first | (with_reducible first | exact HB.out | apply below_alloc | apply pw_below_drewN | apply below_drew1) | exact HB.out)) hb); clear HO218; clear HO221; clear HO224; clear HO228; clear HO232; clear HO236; clear HO240; clear HO243; clear HB; have HO218 := n0_; have HO221 := n1_; have HO224 := n2_; have HO228 := n3_; have HO232 := n4_; have HO236 := n5_; have HO240 := n6_; have HO243 := n7_; have HO246 := n8_; have HB := n9_; clear n0_ n1_ n2_ n3_ n4_ n5_ n6_ n7_ n8_ n9_; (try clear hb); (try clear hb2); (try clear hk); (try clear hi); (try clear ho0); obtain ⟨Ao37, co37, eo37⟩ := Kd.V_slice HO246.out; subst eo37) | (go_at_call 18; (with_reducible refine (draw_Back.calls k _ _ t226 t247 _ ?side1 ?side2 A15.out).mono ?_); (case side1 => repeat (first | exact (Kd.V_reads' HO228.out).2.2 | (with_reducible refine Kd.C_alloc ?_ _) | (with_reducible refine Kd.C_drewN ?_ _) | (with_reducible refine Kd.C_drew ?_))); (case side2 => exact (Kd.V_reads' HO228.out).2.1); rintro e w38 ⟨v248, rfl, ho0, hb⟩; have n0_ := Aside0.mk (Kd.R_below (by (with_reducible repeat (first | apply Kd.R_alloc | apply Kd.R_drewN | apply Kd.R_drew)); exact HO218.out) hb); have n1_ := Aside0.mk (Kd.R_below (by (with_reducible repeat (first | apply Kd.R_alloc | apply Kd.R_drewN | apply Kd.R_drew)); exact HO221.out) hb); have n2_ := Aside0.mk (Kd.V_below (by (with_reducible repeat (first | apply Kd.V_alloc | apply Kd.V_drewN | apply Kd.V_drew)); exact HO224.out) hb); have n3_ := Aside0.mk (Kd.V_below (by (with_reducible repeat (first | apply Kd.V_alloc | apply Kd.V_drewN | apply Kd.V_drew)); exact HO228.out) hb); have n4_ := Aside0.mk (Kd.R_below (by (with_reducible repeat (first | apply Kd.R_alloc | apply Kd.R_drewN | apply Kd.R_drew)); exact HO232.out) hb); have n5_ := Aside0.mk (Kd.R_below (by (with_reducible repeat (first | apply Kd.R_alloc | apply Kd.R_drewN | apply Kd.R_drew)); exact HO236.out) hb); have n6_ := Aside0.mk (Kd.V_below (by (with_reducible repeat (first | apply Kd.V_alloc | apply Kd.V_drewN | apply Kd.V_drew)); exact HO240.out) hb); have n7_ := Aside0.mk (Kd.V_below (by (with_reducible repeat (first | apply Kd.V_alloc | apply Kd.V_drewN | apply Kd.V_drew)); exact HO243.out) hb); have n8_ := Aside0.mk (Kd.V_below (by (with_reducible repeat (first | apply Kd.V_alloc | apply Kd.V_drewN | apply Kd.V_drew)); exact HO246.out) hb); have n9_ := Aside0.mk (Kd.V_lower (Kd.V_mono (ok' := fun k_ => some k_ ≠ (.slice Ao20 y216.length co20 : Value).ownBlock ∧ some k_ ≠ (.slice Ao21 y219.length co21 : Value).ownBlock ∧ some k_ ≠ (.slice Ao27 y230.length co27 : Value).ownBlock ∧ some k_ ≠ (.slice Ao31 y234.length co31 : Value).ownBlock) ho0 (fun k_ hk_ => ⟨(Kd.fresh' (Kd.R_lt (by (with_reducible repeat (first | apply Kd.R_alloc | apply Kd.R_drewN | apply Kd.R_drew)); exact HO218.out)) k_ hk_), (Kd.fresh' (Kd.R_lt (by (with_reducible repeat (first | apply Kd.R_alloc | apply Kd.R_drewN | apply Kd.R_drew)); exact HO221.out)) k_ hk_), (Kd.fresh' (Kd.R_lt (by (with_reducible repeat (first | apply Kd.R_alloc | apply Kd.R_drewN | apply Kd.R_drew)); exact HO232.out)) k_ hk_), (Kd.fresh' (Kd.R_lt (by (with_reducible repeat (first | apply Kd.R_alloc | apply Kd.R_drewN | apply Kd.R_drew)); exact HO236.out)) k_ hk_)⟩)) (below_size (by repeat (first | (with_reducible first | exact HB.out | apply below_alloc | apply pw_below_drewN | apply below_drew1) | exact HB.out)))); have n10_ := Aside0.mk (below_step (by repeat (first | (with_reducible first | exact HB.out | apply below_alloc | apply pw_below_drewN | apply below_drew1) | exact HB.out)) hb); clear HO218; clear HO221; clear HO224; clear HO228; clear HO232; clear HO236; clear HO240; clear HO243; clear HO246; clear HB; have HO218 := n0_; have HO221 := n1_; have HO224 := n2_; have HO228 := n3_; have HO232 := n4_; have HO236 := n5_; have HO240 := n6_; have HO243 := n7_; have HO246 := n8_; have HO249 := n9_; have HB := n10_; clear n0_ n1_ n2_ n3_ n4_ n5_ n6_ n7_ n8_ n9_ n10_; (try clear hb); (try clear hb2); (try clear hk); (try clear hi); (try clear ho0); obtain ⟨Ao39, co39, eo39⟩ := Kd.V_slice HO249.out; subst eo39))
                go_ret
                exact ⟨by first | rfl | (simp [errW_none, errW_some] <;> rfl) | (simp [*, errW_none, errW_some] <;> rfl), by repeat (first | (with_reducible first | exact HB.out | apply below_alloc | apply pw_below_drewN | apply below_drew1) | exact HB.out)⟩
              · rw [if_neg c14] at H
                have c14b0 : ((t244.length : Int) == 4) = false := beq_eq_false_iff_ne.mpr c14
                have c14b1 : ((t244.length : Int) != 4) = true := bne_iff_ne.mpr c14
                obtain rfl := Option.some.inj H
                go_enter Try.func11, Try.ntmps11
                go_wp2_with (first | ((with_reducible refine gate_dst (N := 8) rfl ?_); (try (refine gate_guard (by rfl) ?_; dsimp only)); refine Kd.R_lit k62 _ 62 ?hg (N := 8) ?hd (xs := ([(⟨(⟨#[97]⟩ : ByteArray), (-1), 0⟩ : S62)] : List (S62))) (inner := [.string (⟨#[97]⟩ : ByteArray), .int .i64 (-1), .int .i64 0]) (ok := fun _ => True) (okp := fun _ => True) ?hr ?hp (fun _ hk => hk) trivial (Below.refl _ _) (Nat.le_refl _) (by simp) ?_; (case hd => rfl); (case hg => rfl); (case hr => first | (go_simp; done) | (go_simp; rfl)); (case hp => exact (Reps.c3 (show Kd.M k62 _ _ _ (⟨(⟨#[97]⟩ : ByteArray), (-1), 0⟩ : S62) [.string (⟨#[97]⟩ : ByteArray), .int .i64 (-1), .int .i64 0] from (k62_mkM _ _ _ (⟨(⟨#[97]⟩ : ByteArray), (-1), 0⟩ : S62) )) (Reps.none _ _))); intro v217 w40 ho41 hb hg_ hnew_; clear hg_ hnew_; (first | rw [← Ny216.out] at ho41 | (simp only [Int.reduceToNat] at ho41; rw [← Ny216.out] at ho41)); have n0_ := Aside0.mk (Kd.R_lower ho41 (below_size (by repeat (first | (with_reducible first | exact HB.out | apply below_alloc | apply pw_below_drewN | apply below_drew1) | exact HB.out)))); have n1_ := Aside0.mk (below_step (by repeat (first | (with_reducible first | exact HB.out | apply below_alloc | apply pw_below_drewN | apply below_drew1) | exact HB.out)) hb); clear HB; have HO218 := n0_; have HB := n1_; clear n0_ n1_; clear hb ho41) | ((with_reducible refine gate_dst (N := 11) rfl ?_); (try (refine gate_guard (by rfl) ?_; dsimp only)); refine Kd.R_lit k46 _ 46 ?hg (N := 11) ?hd (xs := ([(⟨0, 0, 9, 5, 0, 0⟩ : S46), (⟨0, 0, 4, 5, 0, 0⟩ : S46)] : List (S46))) (inner := [.int .i64 0, .int .i64 0, .int .i64 9, .int .i64 5, .int .i64 0, .int .i64 0, .int .i64 0, .int .i64 0, .int .i64 4, .int .i64 5, .int .i64 0, .int .i64 0]) (ok := fun _ => True) (okp := fun _ => True) ?hr ?hp (fun _ hk => hk) trivial (Below.refl _ _) (Nat.le_refl _) (by simp) ?_; (case hd => rfl); (case hg => rfl); (case hr => first | (go_simp; done) | (go_simp; rfl)); (case hp => exact (Reps.c6 (show Kd.M k46 _ _ _ (⟨0, 0, 9, 5, 0, 0⟩ : S46) [.int .i64 0, .int .i64 0, .int .i64 9, .int .i64 5, .int .i64 0, .int .i64 0] from (k46_mkM _ _ _ (⟨0, 0, 9, 5, 0, 0⟩ : S46) )) (Reps.c6 (show Kd.M k46 _ _ _ (⟨0, 0, 4, 5, 0, 0⟩ : S46) [.int .i64 0, .int .i64 0, .int .i64 4, .int .i64 5, .int .i64 0, .int .i64 0] from (k46_mkM _ _ _ (⟨0, 0, 4, 5, 0, 0⟩ : S46) )) (Reps.none _ _)))); intro v220 w42 ho43 hb hg_ hnew_; clear hg_ hnew_; (first | rw [← Ny219.out] at ho43 | (simp only [Int.reduceToNat] at ho43; rw [← Ny219.out] at ho43)); have n0_ := Aside0.mk (Kd.R_below (by (with_reducible repeat (first | apply Kd.R_alloc | apply Kd.R_drewN | apply Kd.R_drew)); exact HO218.out) hb); have n1_ := Aside0.mk (Kd.R_lower ho43 (below_size (by repeat (first | (with_reducible first | exact HB.out | apply below_alloc | apply pw_below_drewN | apply below_drew1) | exact HB.out)))); have n2_ := Aside0.mk (below_step (by repeat (first | (with_reducible first | exact HB.out | apply below_alloc | apply pw_below_drewN | apply below_drew1) | exact HB.out)) hb); clear HO218; clear HB; have HO218 := n0_; have HO221 := n1_; have HB := n2_; clear n0_ n1_ n2_; clear hb ho43; obtain ⟨Ao44, co44, eo44⟩ := Kd.R_slice HO218.out; subst eo44; obtain ⟨Ao45, co45, eo45⟩ := Kd.R_slice HO221.out; subst eo45) | ((with_reducible refine gate_callee (f := 9) rfl ?_); refine goesL_ (some 15) rfl rfl Try.func9 (by kernel_rfl) rfl #[.slice Ao44 y216.length co44, .slice Ao45 y219.length co45, .int .i64 0, .int .i64 7, .int .i64 0] rfl (by (try simp only [List.map_toArray, List.map_cons, List.map_nil]); first | done | rfl | (simp only [List.length_drop, List.length_take]; rfl)) ?_; (with_reducible refine (draw_Draws.calls k _ _ y216 _ _ y219 0 7 0 t222 t225 _ ?side1 ?side2 ?side3 ?side4 A1.out).mono ?_); (case side1 => repeat (first | exact (Kd.R_reads' HO218.out).2.2 | (with_reducible refine Kd.C_alloc ?_ _) | (with_reducible refine Kd.C_drewN ?_ _) | (with_reducible refine Kd.C_drew ?_))); (case side2 => exact (Kd.R_reads' HO218.out).2.1); (case side3 => repeat (first | exact (Kd.R_reads' HO221.out).2.2 | (with_reducible refine Kd.C_alloc ?_ _) | (with_reducible refine Kd.C_drewN ?_ _) | (with_reducible refine Kd.C_drew ?_))); (case side4 => exact (Kd.R_reads' HO221.out).2.1); rintro e w46 ⟨v223, rfl, ho0, hb⟩; refine ⟨_, rfl, ?_⟩; have n0_ := Aside0.mk (Kd.R_below (by (with_reducible repeat (first | apply Kd.R_alloc | apply Kd.R_drewN | apply Kd.R_drew)); exact HO218.out) hb); have n1_ := Aside0.mk (Kd.R_below (by (with_reducible repeat (first | apply Kd.R_alloc | apply Kd.R_drewN | apply Kd.R_drew)); exact HO221.out) hb); have n2_ := Aside0.mk (Kd.V_lower (Kd.V_mono (ok' := fun k_ => some k_ ≠ (.slice Ao44 y216.length co44 : Value).ownBlock ∧ some k_ ≠ (.slice Ao45 y219.length co45 : Value).ownBlock) ho0 (fun k_ hk_ => ⟨(Kd.fresh' (Kd.R_lt (by (with_reducible repeat (first | apply Kd.R_alloc | apply Kd.R_drewN | apply Kd.R_drew)); exact HO218.out)) k_ hk_), (Kd.fresh' (Kd.R_lt (by (with_reducible repeat (first | apply Kd.R_alloc | apply Kd.R_drewN | apply Kd.R_drew)); exact HO221.out)) k_ hk_)⟩)) (below_size (by repeat (first | (with_reducible first | exact HB.out | apply below_alloc | apply pw_below_drewN | apply below_drew1) | exact HB.out)))); have n3_ := Aside0.mk (below_step (by repeat (first | (with_reducible first | exact HB.out | apply below_alloc | apply pw_below_drewN | apply below_drew1) | exact HB.out)) hb); clear HO218; clear HO221; clear HB; have HO218 := n0_; have HO221 := n1_; have HO224 := n2_; have HB := n3_; clear n0_ n1_ n2_ n3_; (try clear hb); (try clear hb2); (try clear hk); (try clear hi); (try clear ho0); obtain ⟨Ao47, co47, eo47⟩ := Kd.V_slice HO224.out; subst eo47) | ((with_reducible refine gate_callee (f := 21) rfl ?_); refine goesL_ (some 20) rfl rfl Try.func21 (by kernel_rfl) rfl #[.slice Ao47 t222.length co47, .int .i64 6] rfl (by (try simp only [List.map_toArray, List.map_cons, List.map_nil]); first | done | rfl | (simp only [List.length_drop, List.length_take]; rfl)) ?_; (with_reducible refine (draw_Charge.calls k _ _ t222 6 t226 t229 _ ?side1 ?side2 A2.out).mono ?_); (case side1 => repeat (first | exact (Kd.V_reads' HO224.out).2.2 | (with_reducible refine Kd.C_alloc ?_ _) | (with_reducible refine Kd.C_drewN ?_ _) | (with_reducible refine Kd.C_drew ?_))); (case side2 => exact (Kd.V_reads' HO224.out).2.1); rintro e w48 ⟨v227, rfl, ho0, hb⟩; refine ⟨_, rfl, ?_⟩; have n0_ := Aside0.mk (Kd.R_below (by (with_reducible repeat (first | apply Kd.R_alloc | apply Kd.R_drewN | apply Kd.R_drew)); exact HO218.out) hb); have n1_ := Aside0.mk (Kd.R_below (by (with_reducible repeat (first | apply Kd.R_alloc | apply Kd.R_drewN | apply Kd.R_drew)); exact HO221.out) hb); have n2_ := Aside0.mk (Kd.V_below (by (with_reducible repeat (first | apply Kd.V_alloc | apply Kd.V_drewN | apply Kd.V_drew)); exact HO224.out) hb); have n3_ := Aside0.mk (Kd.V_lower (Kd.V_mono (ok' := fun k_ => some k_ ≠ (.slice Ao44 y216.length co44 : Value).ownBlock ∧ some k_ ≠ (.slice Ao45 y219.length co45 : Value).ownBlock) ho0 (fun k_ hk_ => ⟨(Kd.fresh' (Kd.R_lt (by (with_reducible repeat (first | apply Kd.R_alloc | apply Kd.R_drewN | apply Kd.R_drew)); exact HO218.out)) k_ hk_), (Kd.fresh' (Kd.R_lt (by (with_reducible repeat (first | apply Kd.R_alloc | apply Kd.R_drewN | apply Kd.R_drew)); exact HO221.out)) k_ hk_)⟩)) (below_size (by repeat (first | (with_reducible first | exact HB.out | apply below_alloc | apply pw_below_drewN | apply below_drew1) | exact HB.out)))); have n4_ := Aside0.mk (below_step (by repeat (first | (with_reducible first | exact HB.out | apply below_alloc | apply pw_below_drewN | apply below_drew1) | exact HB.out)) hb); clear HO218; clear HO221; clear HO224; clear HB; have HO218 := n0_; have HO221 := n1_; have HO224 := n2_; have HO228 := n3_; have HB := n4_; clear n0_ n1_ n2_ n3_ n4_; (try clear hb); (try clear hb2); (try clear hk); (try clear hi); (try clear ho0)) | ((with_reducible refine gate_dst (N := 29) rfl ?_); (try (refine gate_guard (by rfl) ?_; dsimp only)); refine Kd.R_lit k37 _ 37 ?hg (N := 29) ?hd (xs := ([(⟨1, 5⟩ : S37), (⟨0, 2⟩ : S37)] : List (S37))) (inner := [.int .i64 1, .int .i64 5, .int .i64 0, .int .i64 2]) (ok := fun _ => True) (okp := fun _ => True) ?hr ?hp (fun _ hk => hk) trivial (Below.refl _ _) (Nat.le_refl _) (by simp) ?_; (case hd => rfl); (case hg => rfl); (case hr => first | (go_simp; done) | (go_simp; rfl)); (case hp => exact (Reps.c2 (show Kd.M k37 _ _ _ (⟨1, 5⟩ : S37) [.int .i64 1, .int .i64 5] from (k37_mkM _ _ _ (⟨1, 5⟩ : S37) )) (Reps.c2 (show Kd.M k37 _ _ _ (⟨0, 2⟩ : S37) [.int .i64 0, .int .i64 2] from (k37_mkM _ _ _ (⟨0, 2⟩ : S37) )) (Reps.none _ _)))); intro v231 w49 ho50 hb hg_ hnew_; clear hg_ hnew_; (first | rw [← Ny230.out] at ho50 | (simp only [Int.reduceToNat] at ho50; rw [← Ny230.out] at ho50)); have n0_ := Aside0.mk (Kd.R_below (by (with_reducible repeat (first | apply Kd.R_alloc | apply Kd.R_drewN | apply Kd.R_drew)); exact HO218.out) hb); have n1_ := Aside0.mk (Kd.R_below (by (with_reducible repeat (first | apply Kd.R_alloc | apply Kd.R_drewN | apply Kd.R_drew)); exact HO221.out) hb); have n2_ := Aside0.mk (Kd.V_elder' (by (with_reducible repeat (first | apply Kd.V_alloc | apply Kd.V_drewN | apply Kd.V_drew)); exact HO224.out) (Kd.R_base ho50) hb); have n3_ := Aside0.mk (Kd.V_elder' (by (with_reducible repeat (first | apply Kd.V_alloc | apply Kd.V_drewN | apply Kd.V_drew)); exact HO228.out) (Kd.R_base ho50) hb); have n4_ := Aside0.mk (Kd.R_lower ho50 (below_size (by repeat (first | (with_reducible first | exact HB.out | apply below_alloc | apply pw_below_drewN | apply below_drew1) | exact HB.out)))); have n5_ := Aside0.mk (below_step (by repeat (first | (with_reducible first | exact HB.out | apply below_alloc | apply pw_below_drewN | apply below_drew1) | exact HB.out)) hb); clear HO218; clear HO221; clear HO224; clear HO228; clear HB; have HO218 := n0_; have HO221 := n1_; have HO224 := n2_; have HO228 := n3_; have HO232 := n4_; have HB := n5_; clear n0_ n1_ n2_ n3_ n4_ n5_; clear hb ho50; obtain ⟨Ao51, co51, eo51⟩ := Kd.R_slice HO232.out; subst eo51) | (go_at_call 12; (with_reducible refine (prebendref11_Alike.calls k _ _ t222 _ _ y230 true _ ?side1 ?side2 ?side3 ?side4 A4.out).mono ?_); (case side1 => repeat (first | exact (Kd.V_reads' HO224.out).2.2 | (with_reducible refine Kd.C_alloc ?_ _) | (with_reducible refine Kd.C_drewN ?_ _) | (with_reducible refine Kd.C_drew ?_))); (case side2 => exact (Kd.V_reads' HO224.out).2.1); (case side3 => repeat (first | exact (Kd.R_reads' HO232.out).2.2 | (with_reducible refine Kd.C_alloc ?_ _) | (with_reducible refine Kd.C_drewN ?_ _) | (with_reducible refine Kd.C_drew ?_))); (case side4 => exact (Kd.R_reads' HO232.out).2.1); rintro e w' ⟨rfl, ⟨nd, rfl⟩⟩) | ((with_reducible refine gate_dst (N := 40) rfl ?_); (try (refine gate_guard (by rfl) ?_; dsimp only)); refine Kd.R_lit k37 _ 37 ?hg (N := 40) ?hd (xs := ([(⟨1, 5⟩ : S37), (⟨0, 1⟩ : S37)] : List (S37))) (inner := [.int .i64 1, .int .i64 5, .int .i64 0, .int .i64 1]) (ok := fun _ => True) (okp := fun _ => True) ?hr ?hp (fun _ hk => hk) trivial (Below.refl _ _) (Nat.le_refl _) (by simp) ?_; (case hd => rfl); (case hg => rfl); (case hr => first | (go_simp; done) | (go_simp; rfl)); (case hp => exact (Reps.c2 (show Kd.M k37 _ _ _ (⟨1, 5⟩ : S37) [.int .i64 1, .int .i64 5] from (k37_mkM _ _ _ (⟨1, 5⟩ : S37) )) (Reps.c2 (show Kd.M k37 _ _ _ (⟨0, 1⟩ : S37) [.int .i64 0, .int .i64 1] from (k37_mkM _ _ _ (⟨0, 1⟩ : S37) )) (Reps.none _ _)))); intro v235 w52 ho53 hb hg_ hnew_; clear hg_ hnew_; (first | rw [← Ny234.out] at ho53 | (simp only [Int.reduceToNat] at ho53; rw [← Ny234.out] at ho53)); have n0_ := Aside0.mk (Kd.R_below (by (with_reducible repeat (first | apply Kd.R_alloc | apply Kd.R_drewN | apply Kd.R_drew)); exact HO218.out) hb); have n1_ := Aside0.mk (Kd.R_below (by (with_reducible repeat (first | apply Kd.R_alloc | apply Kd.R_drewN | apply Kd.R_drew)); exact HO221.out) hb); have n2_ := Aside0.mk (Kd.V_elder' (by (with_reducible repeat (first | apply Kd.V_alloc | apply Kd.V_drewN | apply Kd.V_drew)); exact HO224.out) (Kd.R_base ho53) hb); have n3_ := Aside0.mk (Kd.V_elder' (by (with_reducible repeat (first | apply Kd.V_alloc | apply Kd.V_drewN | apply Kd.V_drew)); exact HO228.out) (Kd.R_base ho53) hb); have n4_ := Aside0.mk (Kd.R_elder' (by (with_reducible repeat (first | apply Kd.R_alloc | apply Kd.R_drewN | apply Kd.R_drew)); exact HO232.out) (Kd.R_base ho53) hb); have n5_ := Aside0.mk (Kd.R_lower (Kd.R_new' ho53 (Kd.R_lt (by (with_reducible repeat (first | apply Kd.R_alloc | apply Kd.R_drewN | apply Kd.R_drew)); exact HO232.out))) (below_size (by repeat (first | (with_reducible first | exact HB.out | apply below_alloc | apply pw_below_drewN | apply below_drew1) | exact HB.out)))); have n6_ := Aside0.mk (below_step (by repeat (first | (with_reducible first | exact HB.out | apply below_alloc | apply pw_below_drewN | apply below_drew1) | exact HB.out)) hb); clear HO218; clear HO221; clear HO224; clear HO228; clear HO232; clear HB; have HO218 := n0_; have HO221 := n1_; have HO224 := n2_; have HO228 := n3_; have HO232 := n4_; have HO236 := n5_; have HB := n6_; clear n0_ n1_ n2_ n3_ n4_ n5_ n6_; clear hb ho53; obtain ⟨Ao54, co54, eo54⟩ := Kd.V_slice HO228.out; subst eo54; obtain ⟨Ao55, co55, eo55⟩ := Kd.R_slice HO236.out; subst eo55) | (go_at_call 12; (with_reducible refine (prebendref11_Alike.calls k _ _ t226 _ _ y234 true _ ?side1 ?side2 ?side3 ?side4 A7.out).mono ?_); (case side1 => repeat (first | exact (Kd.V_reads' HO228.out).2.2 | (with_reducible refine Kd.C_alloc ?_ _) | (with_reducible refine Kd.C_drewN ?_ _) | (with_reducible refine Kd.C_drew ?_))); (case side2 => exact (Kd.V_reads' HO228.out).2.1); (case side3 => repeat (first | exact (Kd.R_reads' HO236.out).2.2 | (with_reducible refine Kd.C_alloc ?_ _) | (with_reducible refine Kd.C_drewN ?_ _) | (with_reducible refine Kd.C_drew ?_))); (case side4 => exact (Kd.R_reads' HO236.out).2.1); rintro e w' ⟨rfl, ⟨nd, rfl⟩⟩) | (go_at_call 15; (with_reducible refine (draw_Lien.calls k _ _ t222 t238 _ ?side1 ?side2 A9.out).mono ?_); (case side1 => repeat (first | exact (Kd.V_reads' HO224.out).2.2 | (with_reducible refine Kd.C_alloc ?_ _) | (with_reducible refine Kd.C_drewN ?_ _) | (with_reducible refine Kd.C_drew ?_))); (case side2 => exact (Kd.V_reads' HO224.out).2.1); rintro e w56 ⟨v239, rfl, ho0, hb⟩; have n0_ := Aside0.mk (Kd.R_below (by (with_reducible repeat (first | apply Kd.R_alloc | apply Kd.R_drewN | apply Kd.R_drew)); exact HO218.out) hb); have n1_ := Aside0.mk (Kd.R_below (by (with_reducible repeat (first | apply Kd.R_alloc | apply Kd.R_drewN | apply Kd.R_drew)); exact HO221.out) hb); have n2_ := Aside0.mk (Kd.V_below (by (with_reducible repeat (first | apply Kd.V_alloc | apply Kd.V_drewN | apply Kd.V_drew)); exact HO224.out) hb); have n3_ := Aside0.mk (Kd.V_below (by (with_reducible repeat (first | apply Kd.V_alloc | apply Kd.V_drewN | apply Kd.V_drew)); exact HO228.out) hb); have n4_ := Aside0.mk (Kd.R_below (by (with_reducible repeat (first | apply Kd.R_alloc | apply Kd.R_drewN | apply Kd.R_drew)); exact HO232.out) hb); have n5_ := Aside0.mk (Kd.R_below (by (with_reducible repeat (first | apply Kd.R_alloc | apply Kd.R_drewN | apply Kd.R_drew)); exact HO236.out) hb); have n6_ := Aside0.mk (Kd.V_lower (Kd.V_mono (ok' := fun k_ => some k_ ≠ (.slice Ao44 y216.length co44 : Value).ownBlock ∧ some k_ ≠ (.slice Ao45 y219.length co45 : Value).ownBlock ∧ some k_ ≠ (.slice Ao51 y230.length co51 : Value).ownBlock ∧ some k_ ≠ (.slice Ao55 y234.length co55 : Value).ownBlock) ho0 (fun k_ hk_ => ⟨(Kd.fresh' (Kd.R_lt (by (with_reducible repeat (first | apply Kd.R_alloc | apply Kd.R_drewN | apply Kd.R_drew)); exact HO218.out)) k_ hk_), (Kd.fresh' (Kd.R_lt (by (with_reducible repeat (first | apply Kd.R_alloc | apply Kd.R_drewN | apply Kd.R_drew)); exact HO221.out)) k_ hk_), (Kd.fresh' (Kd.R_lt (by (with_reducible repeat (first | apply Kd.R_alloc | apply Kd.R_drewN | apply Kd.R_drew)); exact HO232.out)) k_ hk_), (Kd.fresh' (Kd.R_lt (by (with_reducible repeat (first | apply Kd.R_alloc | apply Kd.R_drewN | apply Kd.R_drew)); exact HO236.out)) k_ hk_)⟩)) (below_size (by repeat (first | (with_reducible first | exact HB.out | apply below_alloc | apply pw_below_drewN | apply below_drew1) | exact HB.out)))); have n7_ := Aside0.mk (below_step (by repeat (first | (with_reducible first | exact HB.out | apply below_alloc | apply pw_below_drewN | apply below_drew1) | exact HB.out)) hb); clear HO218; clear HO221; clear HO224; clear HO228; clear HO232; clear HO236; clear HB; have HO218 := n0_; have HO221 := n1_; have HO224 := n2_; have HO228 := n3_; have HO232 := n4_; have HO236 := n5_; have HO240 := n6_; have HB := n7_; clear n0_ n1_ n2_ n3_ n4_ n5_ n6_ n7_; (try clear hb); (try clear hb2); (try clear hk); (try clear hi); (try clear ho0); obtain ⟨Ao57, co57, eo57⟩ := Kd.V_slice HO240.out; subst eo57) | (go_at_call 19; (with_reducible refine (draw_Spend.calls k _ _ t222 _ _ t226 t241 _ ?side1 ?side2 ?side3 ?side4 A11.out).mono ?_); (case side1 => repeat (first | exact (Kd.V_reads' HO224.out).2.2 | (with_reducible refine Kd.C_alloc ?_ _) | (with_reducible refine Kd.C_drewN ?_ _) | (with_reducible refine Kd.C_drew ?_))); (case side2 => exact (Kd.V_reads' HO224.out).2.1); (case side3 => repeat (first | exact (Kd.V_reads' HO228.out).2.2 | (with_reducible refine Kd.C_alloc ?_ _) | (with_reducible refine Kd.C_drewN ?_ _) | (with_reducible refine Kd.C_drew ?_))); (case side4 => exact (Kd.V_reads' HO228.out).2.1); rintro e w58 ⟨v242, rfl, ho0, hb⟩; have n0_ := Aside0.mk (Kd.R_below (by (with_reducible repeat (first | apply Kd.R_alloc | apply Kd.R_drewN | apply Kd.R_drew)); exact HO218.out) hb); have n1_ := Aside0.mk (Kd.R_below (by (with_reducible repeat (first | apply Kd.R_alloc | apply Kd.R_drewN | apply Kd.R_drew)); exact HO221.out) hb); have n2_ := Aside0.mk (Kd.V_below (by (with_reducible repeat (first | apply Kd.V_alloc | apply Kd.V_drewN | apply Kd.V_drew)); exact HO224.out) hb); have n3_ := Aside0.mk (Kd.V_below (by (with_reducible repeat (first | apply Kd.V_alloc | apply Kd.V_drewN | apply Kd.V_drew)); exact HO228.out) hb); have n4_ := Aside0.mk (Kd.R_below (by (with_reducible repeat (first | apply Kd.R_alloc | apply Kd.R_drewN | apply Kd.R_drew)); exact HO232.out) hb); have n5_ := Aside0.mk (Kd.R_below (by (with_reducible repeat (first | apply Kd.R_alloc | apply Kd.R_drewN | apply Kd.R_drew)); exact HO236.out) hb); have n6_ := Aside0.mk (Kd.V_below (by (with_reducible repeat (first | apply Kd.V_alloc | apply Kd.V_drewN | apply Kd.V_drew)); exact HO240.out) hb); have n7_ := Aside0.mk (Kd.V_lower (Kd.V_mono (ok' := fun k_ => some k_ ≠ (.slice Ao44 y216.length co44 : Value).ownBlock ∧ some k_ ≠ (.slice Ao45 y219.length co45 : Value).ownBlock ∧ some k_ ≠ (.slice Ao51 y230.length co51 : Value).ownBlock ∧ some k_ ≠ (.slice Ao55 y234.length co55 : Value).ownBlock) ho0 (fun k_ hk_ => ⟨(Kd.fresh' (Kd.R_lt (by (with_reducible repeat (first | apply Kd.R_alloc | apply Kd.R_drewN | apply Kd.R_drew)); exact HO218.out)) k_ hk_), (Kd.fresh' (Kd.R_lt (by (with_reducible repeat (first | apply Kd.R_alloc | apply Kd.R_drewN | apply Kd.R_drew)); exact HO221.out)) k_ hk_), (Kd.fresh' (Kd.R_lt (by (with_reducible repeat (first | apply Kd.R_alloc | apply Kd.R_drewN | apply Kd.R_drew)); exact HO232.out)) k_ hk_), (Kd.fresh' (Kd.R_lt (by (with_reducible repeat (first | apply Kd.R_alloc | apply Kd.R_drewN | apply Kd.R_drew)); exact HO236.out)) k_ hk_)⟩)) (below_size (by repeat (first | (with_reducible first | exact HB.out | apply below_alloc | apply pw_below_drewN | apply below_drew1) | exact HB.out)))); have n8_ := Aside0.mk (below_step (by repeat (first | (with_reducible first | exact HB.out | apply below_alloc | apply pw_below_drewN | apply below_drew1) | exact HB.out)) hb); clear HO218; clear HO221; clear HO224; clear HO228; clear HO232; clear HO236; clear HO240; clear HB; have HO218 := n0_; have HO221 := n1_; have HO224 := n2_; have HO228 := n3_; have HO232 := n4_; have HO236 := n5_; have HO240 := n6_; have HO243 := n7_; have HB := n8_; clear n0_ n1_ n2_ n3_ n4_ n5_ n6_ n7_ n8_; (try clear hb); (try clear hb2); (try clear hk); (try clear hi); (try clear ho0); obtain ⟨Ao59, co59, eo59⟩ := Kd.V_slice HO243.out; subst eo59) | (go_at_call 17; (with_reducible refine (draw_Free.calls k _ _ t222 t244 _ ?side1 ?side2 A13.out).mono ?_); (case side1 => repeat (first | exact (Kd.V_reads' HO224.out).2.2 | (with_reducible refine Kd.C_alloc ?_ _) | (with_reducible refine Kd.C_drewN ?_ _) | (with_reducible refine Kd.C_drew ?_))); (case side2 => exact (Kd.V_reads' HO224.out).2.1); rintro e w60 ⟨v245, rfl, ho0, hb⟩; have n0_ := Aside0.mk (Kd.R_below (by (with_reducible repeat (first | apply Kd.R_alloc | apply Kd.R_drewN | apply Kd.R_drew)); exact HO218.out) hb); have n1_ := Aside0.mk (Kd.R_below (by (with_reducible repeat (first | apply Kd.R_alloc | apply Kd.R_drewN | apply Kd.R_drew)); exact HO221.out) hb); have n2_ := Aside0.mk (Kd.V_below (by (with_reducible repeat (first | apply Kd.V_alloc | apply Kd.V_drewN | apply Kd.V_drew)); exact HO224.out) hb); have n3_ := Aside0.mk (Kd.V_below (by (with_reducible repeat (first | apply Kd.V_alloc | apply Kd.V_drewN | apply Kd.V_drew)); exact HO228.out) hb); have n4_ := Aside0.mk (Kd.R_below (by (with_reducible repeat (first | apply Kd.R_alloc | apply Kd.R_drewN | apply Kd.R_drew)); exact HO232.out) hb); have n5_ := Aside0.mk (Kd.R_below (by (with_reducible repeat (first | apply Kd.R_alloc | apply Kd.R_drewN | apply Kd.R_drew)); exact HO236.out) hb); have n6_ := Aside0.mk (Kd.V_below (by (with_reducible repeat (first | apply Kd.V_alloc | apply Kd.V_drewN | apply Kd.V_drew)); exact HO240.out) hb); have n7_ := Aside0.mk (Kd.V_below (by (with_reducible repeat (first | apply Kd.V_alloc | apply Kd.V_drewN | apply Kd.V_drew)); exact HO243.out) hb); have n8_ := Aside0.mk (Kd.V_lower (Kd.V_mono (ok' := fun k_ => some k_ ≠ (.slice Ao44 y216.length co44 : Value).ownBlock ∧ some k_ ≠ (.slice Ao45 y219.length co45 : Value).ownBlock ∧ some k_ ≠ (.slice Ao51 y230.length co51 : Value).ownBlock ∧ some k_ ≠ (.slice Ao55 y234.length co55 : Value).ownBlock) ho0 (fun k_ hk_ => ⟨(Kd.fresh' (Kd.R_lt (by (with_reducible repeat (first | apply Kd.R_alloc | apply Kd.R_drewN | apply Kd.R_drew)); exact HO218.out)) k_ hk_), (Kd.fresh' (Kd.R_lt (by (with_reducible repeat (first | apply Kd.R_alloc | apply Kd.R_drewN | apply Kd.R_drew)); exact HO221.out)) k_ hk_), (Kd.fresh' (Kd.R_lt (by (with_reducible repeat (first | apply Kd.R_alloc | apply Kd.R_drewN | apply Kd.R_drew)); exact HO232.out)) k_ hk_), (Kd.fresh' (Kd.R_lt (by (with_reducible repeat (first | apply Kd.R_alloc | apply Kd.R_drewN | apply Kd.R_drew)); exact HO236.out)) k_ hk_)⟩)) (below_size (by repeat (first | (with_reducible first | exact HB.out | apply below_alloc | apply pw_below_drewN | apply below_drew1) | exact HB.out)))); have n9_ := Aside0.mk (below_step (by repeat (first | (with_reducible first | exact HB.out | apply below_alloc | apply pw_below_drewN | apply below_drew1) | exact HB.out)) hb); clear HO218; clear HO221; clear HO224; clear HO228; clear HO232; clear HO236; clear HO240; clear HO243; clear HB; have HO218 := n0_; have HO221 := n1_; have HO224 := n2_; have HO228 := n3_; have HO232 := n4_; have HO236 := n5_; have HO240 := n6_; have HO243 := n7_; have HO246 := n8_; have HB := n9_; clear n0_ n1_ n2_ n3_ n4_ n5_ n6_ n7_ n8_ n9_; (try clear hb); (try clear hb2); (try clear hk); (try clear hi); (try clear ho0); obtain ⟨Ao61, co61, eo61⟩ := Kd.V_slice HO246.out; subst eo61))
                go_ret
                exact ⟨by first | rfl | (simp [errW_none, errW_some] <;> rfl) | (simp [*, errW_none, errW_some] <;> rfl), by repeat (first | (with_reducible first | exact HB.out | apply below_alloc | apply pw_below_drewN | apply below_drew1) | exact HB.out)⟩
            · rw [if_neg c12] at H
              have c12b0 : ((t241.length : Int) == 5) = false := beq_eq_false_iff_ne.mpr c12
              have c12b1 : ((t241.length : Int) != 5) = true := bne_iff_ne.mpr c12
              obtain rfl := Option.some.inj H
              go_enter Try.func11, Try.ntmps11
              go_wp2_with (first | ((with_reducible refine gate_dst (N := 8) rfl ?_); (try (refine gate_guard (by rfl) ?_; dsimp only)); refine Kd.R_lit k62 _ 62 ?hg (N := 8) ?hd (xs := ([(⟨(⟨#[97]⟩ : ByteArray), (-1), 0⟩ : S62)] : List (S62))) (inner := [.string (⟨#[97]⟩ : ByteArray), .int .i64 (-1), .int .i64 0]) (ok := fun _ => True) (okp := fun _ => True) ?hr ?hp (fun _ hk => hk) trivial (Below.refl _ _) (Nat.le_refl _) (by simp) ?_; (case hd => rfl); (case hg => rfl); (case hr => first | (go_simp; done) | (go_simp; rfl)); (case hp => exact (Reps.c3 (show Kd.M k62 _ _ _ (⟨(⟨#[97]⟩ : ByteArray), (-1), 0⟩ : S62) [.string (⟨#[97]⟩ : ByteArray), .int .i64 (-1), .int .i64 0] from (k62_mkM _ _ _ (⟨(⟨#[97]⟩ : ByteArray), (-1), 0⟩ : S62) )) (Reps.none _ _))); intro v217 w62 ho63 hb hg_ hnew_; clear hg_ hnew_; (first | rw [← Ny216.out] at ho63 | (simp only [Int.reduceToNat] at ho63; rw [← Ny216.out] at ho63)); have n0_ := Aside0.mk (Kd.R_lower ho63 (below_size (by repeat (first | (with_reducible first | exact HB.out | apply below_alloc | apply pw_below_drewN | apply below_drew1) | exact HB.out)))); have n1_ := Aside0.mk (below_step (by repeat (first | (with_reducible first | exact HB.out | apply below_alloc | apply pw_below_drewN | apply below_drew1) | exact HB.out)) hb); clear HB; have HO218 := n0_; have HB := n1_; clear n0_ n1_; clear hb ho63) | ((with_reducible refine gate_dst (N := 11) rfl ?_); (try (refine gate_guard (by rfl) ?_; dsimp only)); refine Kd.R_lit k46 _ 46 ?hg (N := 11) ?hd (xs := ([(⟨0, 0, 9, 5, 0, 0⟩ : S46), (⟨0, 0, 4, 5, 0, 0⟩ : S46)] : List (S46))) (inner := [.int .i64 0, .int .i64 0, .int .i64 9, .int .i64 5, .int .i64 0, .int .i64 0, .int .i64 0, .int .i64 0, .int .i64 4, .int .i64 5, .int .i64 0, .int .i64 0]) (ok := fun _ => True) (okp := fun _ => True) ?hr ?hp (fun _ hk => hk) trivial (Below.refl _ _) (Nat.le_refl _) (by simp) ?_; (case hd => rfl); (case hg => rfl); (case hr => first | (go_simp; done) | (go_simp; rfl)); (case hp => exact (Reps.c6 (show Kd.M k46 _ _ _ (⟨0, 0, 9, 5, 0, 0⟩ : S46) [.int .i64 0, .int .i64 0, .int .i64 9, .int .i64 5, .int .i64 0, .int .i64 0] from (k46_mkM _ _ _ (⟨0, 0, 9, 5, 0, 0⟩ : S46) )) (Reps.c6 (show Kd.M k46 _ _ _ (⟨0, 0, 4, 5, 0, 0⟩ : S46) [.int .i64 0, .int .i64 0, .int .i64 4, .int .i64 5, .int .i64 0, .int .i64 0] from (k46_mkM _ _ _ (⟨0, 0, 4, 5, 0, 0⟩ : S46) )) (Reps.none _ _)))); intro v220 w64 ho65 hb hg_ hnew_; clear hg_ hnew_; (first | rw [← Ny219.out] at ho65 | (simp only [Int.reduceToNat] at ho65; rw [← Ny219.out] at ho65)); have n0_ := Aside0.mk (Kd.R_below (by (with_reducible repeat (first | apply Kd.R_alloc | apply Kd.R_drewN | apply Kd.R_drew)); exact HO218.out) hb); have n1_ := Aside0.mk (Kd.R_lower ho65 (below_size (by repeat (first | (with_reducible first | exact HB.out | apply below_alloc | apply pw_below_drewN | apply below_drew1) | exact HB.out)))); have n2_ := Aside0.mk (below_step (by repeat (first | (with_reducible first | exact HB.out | apply below_alloc | apply pw_below_drewN | apply below_drew1) | exact HB.out)) hb); clear HO218; clear HB; have HO218 := n0_; have HO221 := n1_; have HB := n2_; clear n0_ n1_ n2_; clear hb ho65; obtain ⟨Ao66, co66, eo66⟩ := Kd.R_slice HO218.out; subst eo66; obtain ⟨Ao67, co67, eo67⟩ := Kd.R_slice HO221.out; subst eo67) | ((with_reducible refine gate_callee (f := 9) rfl ?_); refine goesL_ (some 15) rfl rfl Try.func9 (by kernel_rfl) rfl #[.slice Ao66 y216.length co66, .slice Ao67 y219.length co67, .int .i64 0, .int .i64 7, .int .i64 0] rfl (by (try simp only [List.map_toArray, List.map_cons, List.map_nil]); first | done | rfl | (simp only [List.length_drop, List.length_take]; rfl)) ?_; (with_reducible refine (draw_Draws.calls k _ _ y216 _ _ y219 0 7 0 t222 t225 _ ?side1 ?side2 ?side3 ?side4 A1.out).mono ?_); (case side1 => repeat (first | exact (Kd.R_reads' HO218.out).2.2 | (with_reducible refine Kd.C_alloc ?_ _) | (with_reducible refine Kd.C_drewN ?_ _) | (with_reducible refine Kd.C_drew ?_))); (case side2 => exact (Kd.R_reads' HO218.out).2.1); (case side3 => repeat (first | exact (Kd.R_reads' HO221.out).2.2 | (with_reducible refine Kd.C_alloc ?_ _) | (with_reducible refine Kd.C_drewN ?_ _) | (with_reducible refine Kd.C_drew ?_))); (case side4 => exact (Kd.R_reads' HO221.out).2.1); rintro e w68 ⟨v223, rfl, ho0, hb⟩; refine ⟨_, rfl, ?_⟩; have n0_ := Aside0.mk (Kd.R_below (by (with_reducible repeat (first | apply Kd.R_alloc | apply Kd.R_drewN | apply Kd.R_drew)); exact HO218.out) hb); have n1_ := Aside0.mk (Kd.R_below (by (with_reducible repeat (first | apply Kd.R_alloc | apply Kd.R_drewN | apply Kd.R_drew)); exact HO221.out) hb); have n2_ := Aside0.mk (Kd.V_lower (Kd.V_mono (ok' := fun k_ => some k_ ≠ (.slice Ao66 y216.length co66 : Value).ownBlock ∧ some k_ ≠ (.slice Ao67 y219.length co67 : Value).ownBlock) ho0 (fun k_ hk_ => ⟨(Kd.fresh' (Kd.R_lt (by (with_reducible repeat (first | apply Kd.R_alloc | apply Kd.R_drewN | apply Kd.R_drew)); exact HO218.out)) k_ hk_), (Kd.fresh' (Kd.R_lt (by (with_reducible repeat (first | apply Kd.R_alloc | apply Kd.R_drewN | apply Kd.R_drew)); exact HO221.out)) k_ hk_)⟩)) (below_size (by repeat (first | (with_reducible first | exact HB.out | apply below_alloc | apply pw_below_drewN | apply below_drew1) | exact HB.out)))); have n3_ := Aside0.mk (below_step (by repeat (first | (with_reducible first | exact HB.out | apply below_alloc | apply pw_below_drewN | apply below_drew1) | exact HB.out)) hb); clear HO218; clear HO221; clear HB; have HO218 := n0_; have HO221 := n1_; have HO224 := n2_; have HB := n3_; clear n0_ n1_ n2_ n3_; (try clear hb); (try clear hb2); (try clear hk); (try clear hi); (try clear ho0); obtain ⟨Ao69, co69, eo69⟩ := Kd.V_slice HO224.out; subst eo69) | ((with_reducible refine gate_callee (f := 21) rfl ?_); refine goesL_ (some 20) rfl rfl Try.func21 (by kernel_rfl) rfl #[.slice Ao69 t222.length co69, .int .i64 6] rfl (by (try simp only [List.map_toArray, List.map_cons, List.map_nil]); first | done | rfl | (simp only [List.length_drop, List.length_take]; rfl)) ?_; (with_reducible refine (draw_Charge.calls k _ _ t222 6 t226 t229 _ ?side1 ?side2 A2.out).mono ?_); (case side1 => repeat (first | exact (Kd.V_reads' HO224.out).2.2 | (with_reducible refine Kd.C_alloc ?_ _) | (with_reducible refine Kd.C_drewN ?_ _) | (with_reducible refine Kd.C_drew ?_))); (case side2 => exact (Kd.V_reads' HO224.out).2.1); rintro e w70 ⟨v227, rfl, ho0, hb⟩; refine ⟨_, rfl, ?_⟩; have n0_ := Aside0.mk (Kd.R_below (by (with_reducible repeat (first | apply Kd.R_alloc | apply Kd.R_drewN | apply Kd.R_drew)); exact HO218.out) hb); have n1_ := Aside0.mk (Kd.R_below (by (with_reducible repeat (first | apply Kd.R_alloc | apply Kd.R_drewN | apply Kd.R_drew)); exact HO221.out) hb); have n2_ := Aside0.mk (Kd.V_below (by (with_reducible repeat (first | apply Kd.V_alloc | apply Kd.V_drewN | apply Kd.V_drew)); exact HO224.out) hb); have n3_ := Aside0.mk (Kd.V_lower (Kd.V_mono (ok' := fun k_ => some k_ ≠ (.slice Ao66 y216.length co66 : Value).ownBlock ∧ some k_ ≠ (.slice Ao67 y219.length co67 : Value).ownBlock) ho0 (fun k_ hk_ => ⟨(Kd.fresh' (Kd.R_lt (by (with_reducible repeat (first | apply Kd.R_alloc | apply Kd.R_drewN | apply Kd.R_drew)); exact HO218.out)) k_ hk_), (Kd.fresh' (Kd.R_lt (by (with_reducible repeat (first | apply Kd.R_alloc | apply Kd.R_drewN | apply Kd.R_drew)); exact HO221.out)) k_ hk_)⟩)) (below_size (by repeat (first | (with_reducible first | exact HB.out | apply below_alloc | apply pw_below_drewN | apply below_drew1) | exact HB.out)))); have n4_ := Aside0.mk (below_step (by repeat (first | (with_reducible first | exact HB.out | apply below_alloc | apply pw_below_drewN | apply below_drew1) | exact HB.out)) hb); clear HO218; clear HO221; clear HO224; clear HB; have HO218 := n0_; have HO221 := n1_; have HO224 := n2_; have HO228 := n3_; have HB := n4_; clear n0_ n1_ n2_ n3_ n4_; (try clear hb); (try clear hb2); (try clear hk); (try clear hi); (try clear ho0)) | ((with_reducible refine gate_dst (N := 29) rfl ?_); (try (refine gate_guard (by rfl) ?_; dsimp only)); refine Kd.R_lit k37 _ 37 ?hg (N := 29) ?hd (xs := ([(⟨1, 5⟩ : S37), (⟨0, 2⟩ : S37)] : List (S37))) (inner := [.int .i64 1, .int .i64 5, .int .i64 0, .int .i64 2]) (ok := fun _ => True) (okp := fun _ => True) ?hr ?hp (fun _ hk => hk) trivial (Below.refl _ _) (Nat.le_refl _) (by simp) ?_; (case hd => rfl); (case hg => rfl); (case hr => first | (go_simp; done) | (go_simp; rfl)); (case hp => exact (Reps.c2 (show Kd.M k37 _ _ _ (⟨1, 5⟩ : S37) [.int .i64 1, .int .i64 5] from (k37_mkM _ _ _ (⟨1, 5⟩ : S37) )) (Reps.c2 (show Kd.M k37 _ _ _ (⟨0, 2⟩ : S37) [.int .i64 0, .int .i64 2] from (k37_mkM _ _ _ (⟨0, 2⟩ : S37) )) (Reps.none _ _)))); intro v231 w71 ho72 hb hg_ hnew_; clear hg_ hnew_; (first | rw [← Ny230.out] at ho72 | (simp only [Int.reduceToNat] at ho72; rw [← Ny230.out] at ho72)); have n0_ := Aside0.mk (Kd.R_below (by (with_reducible repeat (first | apply Kd.R_alloc | apply Kd.R_drewN | apply Kd.R_drew)); exact HO218.out) hb); have n1_ := Aside0.mk (Kd.R_below (by (with_reducible repeat (first | apply Kd.R_alloc | apply Kd.R_drewN | apply Kd.R_drew)); exact HO221.out) hb); have n2_ := Aside0.mk (Kd.V_elder' (by (with_reducible repeat (first | apply Kd.V_alloc | apply Kd.V_drewN | apply Kd.V_drew)); exact HO224.out) (Kd.R_base ho72) hb); have n3_ := Aside0.mk (Kd.V_elder' (by (with_reducible repeat (first | apply Kd.V_alloc | apply Kd.V_drewN | apply Kd.V_drew)); exact HO228.out) (Kd.R_base ho72) hb); have n4_ := Aside0.mk (Kd.R_lower ho72 (below_size (by repeat (first | (with_reducible first | exact HB.out | apply below_alloc | apply pw_below_drewN | apply below_drew1) | exact HB.out)))); have n5_ := Aside0.mk (below_step (by repeat (first | (with_reducible first | exact HB.out | apply below_alloc | apply pw_below_drewN | apply below_drew1) | exact HB.out)) hb); clear HO218; clear HO221; clear HO224; clear HO228; clear HB; have HO218 := n0_; have HO221 := n1_; have HO224 := n2_; have HO228 := n3_; have HO232 := n4_; have HB := n5_; clear n0_ n1_ n2_ n3_ n4_ n5_; clear hb ho72; obtain ⟨Ao73, co73, eo73⟩ := Kd.R_slice HO232.out; subst eo73) | (go_at_call 12; (with_reducible refine (prebendref11_Alike.calls k _ _ t222 _ _ y230 true _ ?side1 ?side2 ?side3 ?side4 A4.out).mono ?_); (case side1 => repeat (first | exact (Kd.V_reads' HO224.out).2.2 | (with_reducible refine Kd.C_alloc ?_ _) | (with_reducible refine Kd.C_drewN ?_ _) | (with_reducible refine Kd.C_drew ?_))); (case side2 => exact (Kd.V_reads' HO224.out).2.1); (case side3 => repeat (first | exact (Kd.R_reads' HO232.out).2.2 | (with_reducible refine Kd.C_alloc ?_ _) | (with_reducible refine Kd.C_drewN ?_ _) | (with_reducible refine Kd.C_drew ?_))); (case side4 => exact (Kd.R_reads' HO232.out).2.1); rintro e w' ⟨rfl, ⟨nd, rfl⟩⟩) | ((with_reducible refine gate_dst (N := 40) rfl ?_); (try (refine gate_guard (by rfl) ?_; dsimp only)); refine Kd.R_lit k37 _ 37 ?hg (N := 40) ?hd (xs := ([(⟨1, 5⟩ : S37), (⟨0, 1⟩ : S37)] : List (S37))) (inner := [.int .i64 1, .int .i64 5, .int .i64 0, .int .i64 1]) (ok := fun _ => True) (okp := fun _ => True) ?hr ?hp (fun _ hk => hk) trivial (Below.refl _ _) (Nat.le_refl _) (by simp) ?_; (case hd => rfl); (case hg => rfl); (case hr => first | (go_simp; done) | (go_simp; rfl)); (case hp => exact (Reps.c2 (show Kd.M k37 _ _ _ (⟨1, 5⟩ : S37) [.int .i64 1, .int .i64 5] from (k37_mkM _ _ _ (⟨1, 5⟩ : S37) )) (Reps.c2 (show Kd.M k37 _ _ _ (⟨0, 1⟩ : S37) [.int .i64 0, .int .i64 1] from (k37_mkM _ _ _ (⟨0, 1⟩ : S37) )) (Reps.none _ _)))); intro v235 w74 ho75 hb hg_ hnew_; clear hg_ hnew_; (first | rw [← Ny234.out] at ho75 | (simp only [Int.reduceToNat] at ho75; rw [← Ny234.out] at ho75)); have n0_ := Aside0.mk (Kd.R_below (by (with_reducible repeat (first | apply Kd.R_alloc | apply Kd.R_drewN | apply Kd.R_drew)); exact HO218.out) hb); have n1_ := Aside0.mk (Kd.R_below (by (with_reducible repeat (first | apply Kd.R_alloc | apply Kd.R_drewN | apply Kd.R_drew)); exact HO221.out) hb); have n2_ := Aside0.mk (Kd.V_elder' (by (with_reducible repeat (first | apply Kd.V_alloc | apply Kd.V_drewN | apply Kd.V_drew)); exact HO224.out) (Kd.R_base ho75) hb); have n3_ := Aside0.mk (Kd.V_elder' (by (with_reducible repeat (first | apply Kd.V_alloc | apply Kd.V_drewN | apply Kd.V_drew)); exact HO228.out) (Kd.R_base ho75) hb); have n4_ := Aside0.mk (Kd.R_elder' (by (with_reducible repeat (first | apply Kd.R_alloc | apply Kd.R_drewN | apply Kd.R_drew)); exact HO232.out) (Kd.R_base ho75) hb); have n5_ := Aside0.mk (Kd.R_lower (Kd.R_new' ho75 (Kd.R_lt (by (with_reducible repeat (first | apply Kd.R_alloc | apply Kd.R_drewN | apply Kd.R_drew)); exact HO232.out))) (below_size (by repeat (first | (with_reducible first | exact HB.out | apply below_alloc | apply pw_below_drewN | apply below_drew1) | exact HB.out)))); have n6_ := Aside0.mk (below_step (by repeat (first | (with_reducible first | exact HB.out | apply below_alloc | apply pw_below_drewN | apply below_drew1) | exact HB.out)) hb); clear HO218; clear HO221; clear HO224; clear HO228; clear HO232; clear HB; have HO218 := n0_; have HO221 := n1_; have HO224 := n2_; have HO228 := n3_; have HO232 := n4_; have HO236 := n5_; have HB := n6_; clear n0_ n1_ n2_ n3_ n4_ n5_ n6_; clear hb ho75; obtain ⟨Ao76, co76, eo76⟩ := Kd.V_slice HO228.out; subst eo76; obtain ⟨Ao77, co77, eo77⟩ := Kd.R_slice HO236.out; subst eo77) | (go_at_call 12; (with_reducible refine (prebendref11_Alike.calls k _ _ t226 _ _ y234 true _ ?side1 ?side2 ?side3 ?side4 A7.out).mono ?_); (case side1 => repeat (first | exact (Kd.V_reads' HO228.out).2.2 | (with_reducible refine Kd.C_alloc ?_ _) | (with_reducible refine Kd.C_drewN ?_ _) | (with_reducible refine Kd.C_drew ?_))); (case side2 => exact (Kd.V_reads' HO228.out).2.1); (case side3 => repeat (first | exact (Kd.R_reads' HO236.out).2.2 | (with_reducible refine Kd.C_alloc ?_ _) | (with_reducible refine Kd.C_drewN ?_ _) | (with_reducible refine Kd.C_drew ?_))); (case side4 => exact (Kd.R_reads' HO236.out).2.1); rintro e w' ⟨rfl, ⟨nd, rfl⟩⟩) | (go_at_call 15; (with_reducible refine (draw_Lien.calls k _ _ t222 t238 _ ?side1 ?side2 A9.out).mono ?_); (case side1 => repeat (first | exact (Kd.V_reads' HO224.out).2.2 | (with_reducible refine Kd.C_alloc ?_ _) | (with_reducible refine Kd.C_drewN ?_ _) | (with_reducible refine Kd.C_drew ?_))); (case side2 => exact (Kd.V_reads' HO224.out).2.1); rintro e w78 ⟨v239, rfl, ho0, hb⟩; have n0_ := Aside0.mk (Kd.R_below (by (with_reducible repeat (first | apply Kd.R_alloc | apply Kd.R_drewN | apply Kd.R_drew)); exact HO218.out) hb); have n1_ := Aside0.mk (Kd.R_below (by (with_reducible repeat (first | apply Kd.R_alloc | apply Kd.R_drewN | apply Kd.R_drew)); exact HO221.out) hb); have n2_ := Aside0.mk (Kd.V_below (by (with_reducible repeat (first | apply Kd.V_alloc | apply Kd.V_drewN | apply Kd.V_drew)); exact HO224.out) hb); have n3_ := Aside0.mk (Kd.V_below (by (with_reducible repeat (first | apply Kd.V_alloc | apply Kd.V_drewN | apply Kd.V_drew)); exact HO228.out) hb); have n4_ := Aside0.mk (Kd.R_below (by (with_reducible repeat (first | apply Kd.R_alloc | apply Kd.R_drewN | apply Kd.R_drew)); exact HO232.out) hb); have n5_ := Aside0.mk (Kd.R_below (by (with_reducible repeat (first | apply Kd.R_alloc | apply Kd.R_drewN | apply Kd.R_drew)); exact HO236.out) hb); have n6_ := Aside0.mk (Kd.V_lower (Kd.V_mono (ok' := fun k_ => some k_ ≠ (.slice Ao66 y216.length co66 : Value).ownBlock ∧ some k_ ≠ (.slice Ao67 y219.length co67 : Value).ownBlock ∧ some k_ ≠ (.slice Ao73 y230.length co73 : Value).ownBlock ∧ some k_ ≠ (.slice Ao77 y234.length co77 : Value).ownBlock) ho0 (fun k_ hk_ => ⟨(Kd.fresh' (Kd.R_lt (by (with_reducible repeat (first | apply Kd.R_alloc | apply Kd.R_drewN | apply Kd.R_drew)); exact HO218.out)) k_ hk_), (Kd.fresh' (Kd.R_lt (by (with_reducible repeat (first | apply Kd.R_alloc | apply Kd.R_drewN | apply Kd.R_drew)); exact HO221.out)) k_ hk_), (Kd.fresh' (Kd.R_lt (by (with_reducible repeat (first | apply Kd.R_alloc | apply Kd.R_drewN | apply Kd.R_drew)); exact HO232.out)) k_ hk_), (Kd.fresh' (Kd.R_lt (by (with_reducible repeat (first | apply Kd.R_alloc | apply Kd.R_drewN | apply Kd.R_drew)); exact HO236.out)) k_ hk_)⟩)) (below_size (by repeat (first | (with_reducible first | exact HB.out | apply below_alloc | apply pw_below_drewN | apply below_drew1) | exact HB.out)))); have n7_ := Aside0.mk (below_step (by repeat (first | (with_reducible first | exact HB.out | apply below_alloc | apply pw_below_drewN | apply below_drew1) | exact HB.out)) hb); clear HO218; clear HO221; clear HO224; clear HO228; clear HO232; clear HO236; clear HB; have HO218 := n0_; have HO221 := n1_; have HO224 := n2_; have HO228 := n3_; have HO232 := n4_; have HO236 := n5_; have HO240 := n6_; have HB := n7_; clear n0_ n1_ n2_ n3_ n4_ n5_ n6_ n7_; (try clear hb); (try clear hb2); (try clear hk); (try clear hi); (try clear ho0); obtain ⟨Ao79, co79, eo79⟩ := Kd.V_slice HO240.out; subst eo79) | (go_at_call 19; (with_reducible refine (draw_Spend.calls k _ _ t222 _ _ t226 t241 _ ?side1 ?side2 ?side3 ?side4 A11.out).mono ?_); (case side1 => repeat (first | exact (Kd.V_reads' HO224.out).2.2 | (with_reducible refine Kd.C_alloc ?_ _) | (with_reducible refine Kd.C_drewN ?_ _) | (with_reducible refine Kd.C_drew ?_))); (case side2 => exact (Kd.V_reads' HO224.out).2.1); (case side3 => repeat (first | exact (Kd.V_reads' HO228.out).2.2 | (with_reducible refine Kd.C_alloc ?_ _) | (with_reducible refine Kd.C_drewN ?_ _) | (with_reducible refine Kd.C_drew ?_))); (case side4 => exact (Kd.V_reads' HO228.out).2.1); rintro e w80 ⟨v242, rfl, ho0, hb⟩; have n0_ := Aside0.mk (Kd.R_below (by (with_reducible repeat (first | apply Kd.R_alloc | apply Kd.R_drewN | apply Kd.R_drew)); exact HO218.out) hb); have n1_ := Aside0.mk (Kd.R_below (by (with_reducible repeat (first | apply Kd.R_alloc | apply Kd.R_drewN | apply Kd.R_drew)); exact HO221.out) hb); have n2_ := Aside0.mk (Kd.V_below (by (with_reducible repeat (first | apply Kd.V_alloc | apply Kd.V_drewN | apply Kd.V_drew)); exact HO224.out) hb); have n3_ := Aside0.mk (Kd.V_below (by (with_reducible repeat (first | apply Kd.V_alloc | apply Kd.V_drewN | apply Kd.V_drew)); exact HO228.out) hb); have n4_ := Aside0.mk (Kd.R_below (by (with_reducible repeat (first | apply Kd.R_alloc | apply Kd.R_drewN | apply Kd.R_drew)); exact HO232.out) hb); have n5_ := Aside0.mk (Kd.R_below (by (with_reducible repeat (first | apply Kd.R_alloc | apply Kd.R_drewN | apply Kd.R_drew)); exact HO236.out) hb); have n6_ := Aside0.mk (Kd.V_below (by (with_reducible repeat (first | apply Kd.V_alloc | apply Kd.V_drewN | apply Kd.V_drew)); exact HO240.out) hb); have n7_ := Aside0.mk (Kd.V_lower (Kd.V_mono (ok' := fun k_ => some k_ ≠ (.slice Ao66 y216.length co66 : Value).ownBlock ∧ some k_ ≠ (.slice Ao67 y219.length co67 : Value).ownBlock ∧ some k_ ≠ (.slice Ao73 y230.length co73 : Value).ownBlock ∧ some k_ ≠ (.slice Ao77 y234.length co77 : Value).ownBlock) ho0 (fun k_ hk_ => ⟨(Kd.fresh' (Kd.R_lt (by (with_reducible repeat (first | apply Kd.R_alloc | apply Kd.R_drewN | apply Kd.R_drew)); exact HO218.out)) k_ hk_), (Kd.fresh' (Kd.R_lt (by (with_reducible repeat (first | apply Kd.R_alloc | apply Kd.R_drewN | apply Kd.R_drew)); exact HO221.out)) k_ hk_), (Kd.fresh' (Kd.R_lt (by (with_reducible repeat (first | apply Kd.R_alloc | apply Kd.R_drewN | apply Kd.R_drew)); exact HO232.out)) k_ hk_), (Kd.fresh' (Kd.R_lt (by (with_reducible repeat (first | apply Kd.R_alloc | apply Kd.R_drewN | apply Kd.R_drew)); exact HO236.out)) k_ hk_)⟩)) (below_size (by repeat (first | (with_reducible first | exact HB.out | apply below_alloc | apply pw_below_drewN | apply below_drew1) | exact HB.out)))); have n8_ := Aside0.mk (below_step (by repeat (first | (with_reducible first | exact HB.out | apply below_alloc | apply pw_below_drewN | apply below_drew1) | exact HB.out)) hb); clear HO218; clear HO221; clear HO224; clear HO228; clear HO232; clear HO236; clear HO240; clear HB; have HO218 := n0_; have HO221 := n1_; have HO224 := n2_; have HO228 := n3_; have HO232 := n4_; have HO236 := n5_; have HO240 := n6_; have HO243 := n7_; have HB := n8_; clear n0_ n1_ n2_ n3_ n4_ n5_ n6_ n7_ n8_; (try clear hb); (try clear hb2); (try clear hk); (try clear hi); (try clear ho0); obtain ⟨Ao81, co81, eo81⟩ := Kd.V_slice HO243.out; subst eo81))
              go_ret
              exact ⟨by first | rfl | (simp [errW_none, errW_some] <;> rfl) | (simp [*, errW_none, errW_some] <;> rfl), by repeat (first | (with_reducible first | exact HB.out | apply below_alloc | apply pw_below_drewN | apply below_drew1) | exact HB.out)⟩
          · rw [if_neg c10] at H
            have c10b0 : ((t238.length : Int) == 4) = false := beq_eq_false_iff_ne.mpr c10
            have c10b1 : ((t238.length : Int) != 4) = true := bne_iff_ne.mpr c10
            obtain rfl := Option.some.inj H
            go_enter Try.func11, Try.ntmps11
            go_wp2_with (first | ((with_reducible refine gate_dst (N := 8) rfl ?_); (try (refine gate_guard (by rfl) ?_; dsimp only)); refine Kd.R_lit k62 _ 62 ?hg (N := 8) ?hd (xs := ([(⟨(⟨#[97]⟩ : ByteArray), (-1), 0⟩ : S62)] : List (S62))) (inner := [.string (⟨#[97]⟩ : ByteArray), .int .i64 (-1), .int .i64 0]) (ok := fun _ => True) (okp := fun _ => True) ?hr ?hp (fun _ hk => hk) trivial (Below.refl _ _) (Nat.le_refl _) (by simp) ?_; (case hd => rfl); (case hg => rfl); (case hr => first | (go_simp; done) | (go_simp; rfl)); (case hp => exact (Reps.c3 (show Kd.M k62 _ _ _ (⟨(⟨#[97]⟩ : ByteArray), (-1), 0⟩ : S62) [.string (⟨#[97]⟩ : ByteArray), .int .i64 (-1), .int .i64 0] from (k62_mkM _ _ _ (⟨(⟨#[97]⟩ : ByteArray), (-1), 0⟩ : S62) )) (Reps.none _ _))); intro v217 w82 ho83 hb hg_ hnew_; clear hg_ hnew_; (first | rw [← Ny216.out] at ho83 | (simp only [Int.reduceToNat] at ho83; rw [← Ny216.out] at ho83)); have n0_ := Aside0.mk (Kd.R_lower ho83 (below_size (by repeat (first | (with_reducible first | exact HB.out | apply below_alloc | apply pw_below_drewN | apply below_drew1) | exact HB.out)))); have n1_ := Aside0.mk (below_step (by repeat (first | (with_reducible first | exact HB.out | apply below_alloc | apply pw_below_drewN | apply below_drew1) | exact HB.out)) hb); clear HB; have HO218 := n0_; have HB := n1_; clear n0_ n1_; clear hb ho83) | ((with_reducible refine gate_dst (N := 11) rfl ?_); (try (refine gate_guard (by rfl) ?_; dsimp only)); refine Kd.R_lit k46 _ 46 ?hg (N := 11) ?hd (xs := ([(⟨0, 0, 9, 5, 0, 0⟩ : S46), (⟨0, 0, 4, 5, 0, 0⟩ : S46)] : List (S46))) (inner := [.int .i64 0, .int .i64 0, .int .i64 9, .int .i64 5, .int .i64 0, .int .i64 0, .int .i64 0, .int .i64 0, .int .i64 4, .int .i64 5, .int .i64 0, .int .i64 0]) (ok := fun _ => True) (okp := fun _ => True) ?hr ?hp (fun _ hk => hk) trivial (Below.refl _ _) (Nat.le_refl _) (by simp) ?_; (case hd => rfl); (case hg => rfl); (case hr => first | (go_simp; done) | (go_simp; rfl)); (case hp => exact (Reps.c6 (show Kd.M k46 _ _ _ (⟨0, 0, 9, 5, 0, 0⟩ : S46) [.int .i64 0, .int .i64 0, .int .i64 9, .int .i64 5, .int .i64 0, .int .i64 0] from (k46_mkM _ _ _ (⟨0, 0, 9, 5, 0, 0⟩ : S46) )) (Reps.c6 (show Kd.M k46 _ _ _ (⟨0, 0, 4, 5, 0, 0⟩ : S46) [.int .i64 0, .int .i64 0, .int .i64 4, .int .i64 5, .int .i64 0, .int .i64 0] from (k46_mkM _ _ _ (⟨0, 0, 4, 5, 0, 0⟩ : S46) )) (Reps.none _ _)))); intro v220 w84 ho85 hb hg_ hnew_; clear hg_ hnew_; (first | rw [← Ny219.out] at ho85 | (simp only [Int.reduceToNat] at ho85; rw [← Ny219.out] at ho85)); have n0_ := Aside0.mk (Kd.R_below (by (with_reducible repeat (first | apply Kd.R_alloc | apply Kd.R_drewN | apply Kd.R_drew)); exact HO218.out) hb); have n1_ := Aside0.mk (Kd.R_lower ho85 (below_size (by repeat (first | (with_reducible first | exact HB.out | apply below_alloc | apply pw_below_drewN | apply below_drew1) | exact HB.out)))); have n2_ := Aside0.mk (below_step (by repeat (first | (with_reducible first | exact HB.out | apply below_alloc | apply pw_below_drewN | apply below_drew1) | exact HB.out)) hb); clear HO218; clear HB; have HO218 := n0_; have HO221 := n1_; have HB := n2_; clear n0_ n1_ n2_; clear hb ho85; obtain ⟨Ao86, co86, eo86⟩ := Kd.R_slice HO218.out; subst eo86; obtain ⟨Ao87, co87, eo87⟩ := Kd.R_slice HO221.out; subst eo87) | ((with_reducible refine gate_callee (f := 9) rfl ?_); refine goesL_ (some 15) rfl rfl Try.func9 (by kernel_rfl) rfl #[.slice Ao86 y216.length co86, .slice Ao87 y219.length co87, .int .i64 0, .int .i64 7, .int .i64 0] rfl (by (try simp only [List.map_toArray, List.map_cons, List.map_nil]); first | done | rfl | (simp only [List.length_drop, List.length_take]; rfl)) ?_; (with_reducible refine (draw_Draws.calls k _ _ y216 _ _ y219 0 7 0 t222 t225 _ ?side1 ?side2 ?side3 ?side4 A1.out).mono ?_); (case side1 => repeat (first | exact (Kd.R_reads' HO218.out).2.2 | (with_reducible refine Kd.C_alloc ?_ _) | (with_reducible refine Kd.C_drewN ?_ _) | (with_reducible refine Kd.C_drew ?_))); (case side2 => exact (Kd.R_reads' HO218.out).2.1); (case side3 => repeat (first | exact (Kd.R_reads' HO221.out).2.2 | (with_reducible refine Kd.C_alloc ?_ _) | (with_reducible refine Kd.C_drewN ?_ _) | (with_reducible refine Kd.C_drew ?_))); (case side4 => exact (Kd.R_reads' HO221.out).2.1); rintro e w88 ⟨v223, rfl, ho0, hb⟩; refine ⟨_, rfl, ?_⟩; have n0_ := Aside0.mk (Kd.R_below (by (with_reducible repeat (first | apply Kd.R_alloc | apply Kd.R_drewN | apply Kd.R_drew)); exact HO218.out) hb); have n1_ := Aside0.mk (Kd.R_below (by (with_reducible repeat (first | apply Kd.R_alloc | apply Kd.R_drewN | apply Kd.R_drew)); exact HO221.out) hb); have n2_ := Aside0.mk (Kd.V_lower (Kd.V_mono (ok' := fun k_ => some k_ ≠ (.slice Ao86 y216.length co86 : Value).ownBlock ∧ some k_ ≠ (.slice Ao87 y219.length co87 : Value).ownBlock) ho0 (fun k_ hk_ => ⟨(Kd.fresh' (Kd.R_lt (by (with_reducible repeat (first | apply Kd.R_alloc | apply Kd.R_drewN | apply Kd.R_drew)); exact HO218.out)) k_ hk_), (Kd.fresh' (Kd.R_lt (by (with_reducible repeat (first | apply Kd.R_alloc | apply Kd.R_drewN | apply Kd.R_drew)); exact HO221.out)) k_ hk_)⟩)) (below_size (by repeat (first | (with_reducible first | exact HB.out | apply below_alloc | apply pw_below_drewN | apply below_drew1) | exact HB.out)))); have n3_ := Aside0.mk (below_step (by repeat (first | (with_reducible first | exact HB.out | apply below_alloc | apply pw_below_drewN | apply below_drew1) | exact HB.out)) hb); clear HO218; clear HO221; clear HB; have HO218 := n0_; have HO221 := n1_; have HO224 := n2_; have HB := n3_; clear n0_ n1_ n2_ n3_; (try clear hb); (try clear hb2); (try clear hk); (try clear hi); (try clear ho0); obtain ⟨Ao89, co89, eo89⟩ := Kd.V_slice HO224.out; subst eo89) | ((with_reducible refine gate_callee (f := 21) rfl ?_); refine goesL_ (some 20) rfl rfl Try.func21 (by kernel_rfl) rfl #[.slice Ao89 t222.length co89, .int .i64 6] rfl (by (try simp only [List.map_toArray, List.map_cons, List.map_nil]); first | done | rfl | (simp only [List.length_drop, List.length_take]; rfl)) ?_; (with_reducible refine (draw_Charge.calls k _ _ t222 6 t226 t229 _ ?side1 ?side2 A2.out).mono ?_); (case side1 => repeat (first | exact (Kd.V_reads' HO224.out).2.2 | (with_reducible refine Kd.C_alloc ?_ _) | (with_reducible refine Kd.C_drewN ?_ _) | (with_reducible refine Kd.C_drew ?_))); (case side2 => exact (Kd.V_reads' HO224.out).2.1); rintro e w90 ⟨v227, rfl, ho0, hb⟩; refine ⟨_, rfl, ?_⟩; have n0_ := Aside0.mk (Kd.R_below (by (with_reducible repeat (first | apply Kd.R_alloc | apply Kd.R_drewN | apply Kd.R_drew)); exact HO218.out) hb); have n1_ := Aside0.mk (Kd.R_below (by (with_reducible repeat (first | apply Kd.R_alloc | apply Kd.R_drewN | apply Kd.R_drew)); exact HO221.out) hb); have n2_ := Aside0.mk (Kd.V_below (by (with_reducible repeat (first | apply Kd.V_alloc | apply Kd.V_drewN | apply Kd.V_drew)); exact HO224.out) hb); have n3_ := Aside0.mk (Kd.V_lower (Kd.V_mono (ok' := fun k_ => some k_ ≠ (.slice Ao86 y216.length co86 : Value).ownBlock ∧ some k_ ≠ (.slice Ao87 y219.length co87 : Value).ownBlock) ho0 (fun k_ hk_ => ⟨(Kd.fresh' (Kd.R_lt (by (with_reducible repeat (first | apply Kd.R_alloc | apply Kd.R_drewN | apply Kd.R_drew)); exact HO218.out)) k_ hk_), (Kd.fresh' (Kd.R_lt (by (with_reducible repeat (first | apply Kd.R_alloc | apply Kd.R_drewN | apply Kd.R_drew)); exact HO221.out)) k_ hk_)⟩)) (below_size (by repeat (first | (with_reducible first | exact HB.out | apply below_alloc | apply pw_below_drewN | apply below_drew1) | exact HB.out)))); have n4_ := Aside0.mk (below_step (by repeat (first | (with_reducible first | exact HB.out | apply below_alloc | apply pw_below_drewN | apply below_drew1) | exact HB.out)) hb); clear HO218; clear HO221; clear HO224; clear HB; have HO218 := n0_; have HO221 := n1_; have HO224 := n2_; have HO228 := n3_; have HB := n4_; clear n0_ n1_ n2_ n3_ n4_; (try clear hb); (try clear hb2); (try clear hk); (try clear hi); (try clear ho0)) | ((with_reducible refine gate_dst (N := 29) rfl ?_); (try (refine gate_guard (by rfl) ?_; dsimp only)); refine Kd.R_lit k37 _ 37 ?hg (N := 29) ?hd (xs := ([(⟨1, 5⟩ : S37), (⟨0, 2⟩ : S37)] : List (S37))) (inner := [.int .i64 1, .int .i64 5, .int .i64 0, .int .i64 2]) (ok := fun _ => True) (okp := fun _ => True) ?hr ?hp (fun _ hk => hk) trivial (Below.refl _ _) (Nat.le_refl _) (by simp) ?_; (case hd => rfl); (case hg => rfl); (case hr => first | (go_simp; done) | (go_simp; rfl)); (case hp => exact (Reps.c2 (show Kd.M k37 _ _ _ (⟨1, 5⟩ : S37) [.int .i64 1, .int .i64 5] from (k37_mkM _ _ _ (⟨1, 5⟩ : S37) )) (Reps.c2 (show Kd.M k37 _ _ _ (⟨0, 2⟩ : S37) [.int .i64 0, .int .i64 2] from (k37_mkM _ _ _ (⟨0, 2⟩ : S37) )) (Reps.none _ _)))); intro v231 w91 ho92 hb hg_ hnew_; clear hg_ hnew_; (first | rw [← Ny230.out] at ho92 | (simp only [Int.reduceToNat] at ho92; rw [← Ny230.out] at ho92)); have n0_ := Aside0.mk (Kd.R_below (by (with_reducible repeat (first | apply Kd.R_alloc | apply Kd.R_drewN | apply Kd.R_drew)); exact HO218.out) hb); have n1_ := Aside0.mk (Kd.R_below (by (with_reducible repeat (first | apply Kd.R_alloc | apply Kd.R_drewN | apply Kd.R_drew)); exact HO221.out) hb); have n2_ := Aside0.mk (Kd.V_elder' (by (with_reducible repeat (first | apply Kd.V_alloc | apply Kd.V_drewN | apply Kd.V_drew)); exact HO224.out) (Kd.R_base ho92) hb); have n3_ := Aside0.mk (Kd.V_elder' (by (with_reducible repeat (first | apply Kd.V_alloc | apply Kd.V_drewN | apply Kd.V_drew)); exact HO228.out) (Kd.R_base ho92) hb); have n4_ := Aside0.mk (Kd.R_lower ho92 (below_size (by repeat (first | (with_reducible first | exact HB.out | apply below_alloc | apply pw_below_drewN | apply below_drew1) | exact HB.out)))); have n5_ := Aside0.mk (below_step (by repeat (first | (with_reducible first | exact HB.out | apply below_alloc | apply pw_below_drewN | apply below_drew1) | exact HB.out)) hb); clear HO218; clear HO221; clear HO224; clear HO228; clear HB; have HO218 := n0_; have HO221 := n1_; have HO224 := n2_; have HO228 := n3_; have HO232 := n4_; have HB := n5_; clear n0_ n1_ n2_ n3_ n4_ n5_; clear hb ho92; obtain ⟨Ao93, co93, eo93⟩ := Kd.R_slice HO232.out; subst eo93) | (go_at_call 12; (with_reducible refine (prebendref11_Alike.calls k _ _ t222 _ _ y230 true _ ?side1 ?side2 ?side3 ?side4 A4.out).mono ?_); (case side1 => repeat (first | exact (Kd.V_reads' HO224.out).2.2 | (with_reducible refine Kd.C_alloc ?_ _) | (with_reducible refine Kd.C_drewN ?_ _) | (with_reducible refine Kd.C_drew ?_))); (case side2 => exact (Kd.V_reads' HO224.out).2.1); (case side3 => repeat (first | exact (Kd.R_reads' HO232.out).2.2 | (with_reducible refine Kd.C_alloc ?_ _) | (with_reducible refine Kd.C_drewN ?_ _) | (with_reducible refine Kd.C_drew ?_))); (case side4 => exact (Kd.R_reads' HO232.out).2.1); rintro e w' ⟨rfl, ⟨nd, rfl⟩⟩) | ((with_reducible refine gate_dst (N := 40) rfl ?_); (try (refine gate_guard (by rfl) ?_; dsimp only)); refine Kd.R_lit k37 _ 37 ?hg (N := 40) ?hd (xs := ([(⟨1, 5⟩ : S37), (⟨0, 1⟩ : S37)] : List (S37))) (inner := [.int .i64 1, .int .i64 5, .int .i64 0, .int .i64 1]) (ok := fun _ => True) (okp := fun _ => True) ?hr ?hp (fun _ hk => hk) trivial (Below.refl _ _) (Nat.le_refl _) (by simp) ?_; (case hd => rfl); (case hg => rfl); (case hr => first | (go_simp; done) | (go_simp; rfl)); (case hp => exact (Reps.c2 (show Kd.M k37 _ _ _ (⟨1, 5⟩ : S37) [.int .i64 1, .int .i64 5] from (k37_mkM _ _ _ (⟨1, 5⟩ : S37) )) (Reps.c2 (show Kd.M k37 _ _ _ (⟨0, 1⟩ : S37) [.int .i64 0, .int .i64 1] from (k37_mkM _ _ _ (⟨0, 1⟩ : S37) )) (Reps.none _ _)))); intro v235 w94 ho95 hb hg_ hnew_; clear hg_ hnew_; (first | rw [← Ny234.out] at ho95 | (simp only [Int.reduceToNat] at ho95; rw [← Ny234.out] at ho95)); have n0_ := Aside0.mk (Kd.R_below (by (with_reducible repeat (first | apply Kd.R_alloc | apply Kd.R_drewN | apply Kd.R_drew)); exact HO218.out) hb); have n1_ := Aside0.mk (Kd.R_below (by (with_reducible repeat (first | apply Kd.R_alloc | apply Kd.R_drewN | apply Kd.R_drew)); exact HO221.out) hb); have n2_ := Aside0.mk (Kd.V_elder' (by (with_reducible repeat (first | apply Kd.V_alloc | apply Kd.V_drewN | apply Kd.V_drew)); exact HO224.out) (Kd.R_base ho95) hb); have n3_ := Aside0.mk (Kd.V_elder' (by (with_reducible repeat (first | apply Kd.V_alloc | apply Kd.V_drewN | apply Kd.V_drew)); exact HO228.out) (Kd.R_base ho95) hb); have n4_ := Aside0.mk (Kd.R_elder' (by (with_reducible repeat (first | apply Kd.R_alloc | apply Kd.R_drewN | apply Kd.R_drew)); exact HO232.out) (Kd.R_base ho95) hb); have n5_ := Aside0.mk (Kd.R_lower (Kd.R_new' ho95 (Kd.R_lt (by (with_reducible repeat (first | apply Kd.R_alloc | apply Kd.R_drewN | apply Kd.R_drew)); exact HO232.out))) (below_size (by repeat (first | (with_reducible first | exact HB.out | apply below_alloc | apply pw_below_drewN | apply below_drew1) | exact HB.out)))); have n6_ := Aside0.mk (below_step (by repeat (first | (with_reducible first | exact HB.out | apply below_alloc | apply pw_below_drewN | apply below_drew1) | exact HB.out)) hb); clear HO218; clear HO221; clear HO224; clear HO228; clear HO232; clear HB; have HO218 := n0_; have HO221 := n1_; have HO224 := n2_; have HO228 := n3_; have HO232 := n4_; have HO236 := n5_; have HB := n6_; clear n0_ n1_ n2_ n3_ n4_ n5_ n6_; clear hb ho95; obtain ⟨Ao96, co96, eo96⟩ := Kd.V_slice HO228.out; subst eo96; obtain ⟨Ao97, co97, eo97⟩ := Kd.R_slice HO236.out; subst eo97) | (go_at_call 12; (with_reducible refine (prebendref11_Alike.calls k _ _ t226 _ _ y234 true _ ?side1 ?side2 ?side3 ?side4 A7.out).mono ?_); (case side1 => repeat (first | exact (Kd.V_reads' HO228.out).2.2 | (with_reducible refine Kd.C_alloc ?_ _) | (with_reducible refine Kd.C_drewN ?_ _) | (with_reducible refine Kd.C_drew ?_))); (case side2 => exact (Kd.V_reads' HO228.out).2.1); (case side3 => repeat (first | exact (Kd.R_reads' HO236.out).2.2 | (with_reducible refine Kd.C_alloc ?_ _) | (with_reducible refine Kd.C_drewN ?_ _) | (with_reducible refine Kd.C_drew ?_))); (case side4 => exact (Kd.R_reads' HO236.out).2.1); rintro e w' ⟨rfl, ⟨nd, rfl⟩⟩) | (go_at_call 15; (with_reducible refine (draw_Lien.calls k _ _ t222 t238 _ ?side1 ?side2 A9.out).mono ?_); (case side1 => repeat (first | exact (Kd.V_reads' HO224.out).2.2 | (with_reducible refine Kd.C_alloc ?_ _) | (with_reducible refine Kd.C_drewN ?_ _) | (with_reducible refine Kd.C_drew ?_))); (case side2 => exact (Kd.V_reads' HO224.out).2.1); rintro e w98 ⟨v239, rfl, ho0, hb⟩; have n0_ := Aside0.mk (Kd.R_below (by (with_reducible repeat (first | apply Kd.R_alloc | apply Kd.R_drewN | apply Kd.R_drew)); exact HO218.out) hb); have n1_ := Aside0.mk (Kd.R_below (by (with_reducible repeat (first | apply Kd.R_alloc | apply Kd.R_drewN | apply Kd.R_drew)); exact HO221.out) hb); have n2_ := Aside0.mk (Kd.V_below (by (with_reducible repeat (first | apply Kd.V_alloc | apply Kd.V_drewN | apply Kd.V_drew)); exact HO224.out) hb); have n3_ := Aside0.mk (Kd.V_below (by (with_reducible repeat (first | apply Kd.V_alloc | apply Kd.V_drewN | apply Kd.V_drew)); exact HO228.out) hb); have n4_ := Aside0.mk (Kd.R_below (by (with_reducible repeat (first | apply Kd.R_alloc | apply Kd.R_drewN | apply Kd.R_drew)); exact HO232.out) hb); have n5_ := Aside0.mk (Kd.R_below (by (with_reducible repeat (first | apply Kd.R_alloc | apply Kd.R_drewN | apply Kd.R_drew)); exact HO236.out) hb); have n6_ := Aside0.mk (Kd.V_lower (Kd.V_mono (ok' := fun k_ => some k_ ≠ (.slice Ao86 y216.length co86 : Value).ownBlock ∧ some k_ ≠ (.slice Ao87 y219.length co87 : Value).ownBlock ∧ some k_ ≠ (.slice Ao93 y230.length co93 : Value).ownBlock ∧ some k_ ≠ (.slice Ao97 y234.length co97 : Value).ownBlock) ho0 (fun k_ hk_ => ⟨(Kd.fresh' (Kd.R_lt (by (with_reducible repeat (first | apply Kd.R_alloc | apply Kd.R_drewN | apply Kd.R_drew)); exact HO218.out)) k_ hk_), (Kd.fresh' (Kd.R_lt (by (with_reducible repeat (first | apply Kd.R_alloc | apply Kd.R_drewN | apply Kd.R_drew)); exact HO221.out)) k_ hk_), (Kd.fresh' (Kd.R_lt (by (with_reducible repeat (first | apply Kd.R_alloc | apply Kd.R_drewN | apply Kd.R_drew)); exact HO232.out)) k_ hk_), (Kd.fresh' (Kd.R_lt (by (with_reducible repeat (first | apply Kd.R_alloc | apply Kd.R_drewN | apply Kd.R_drew)); exact HO236.out)) k_ hk_)⟩)) (below_size (by repeat (first | (with_reducible first | exact HB.out | apply below_alloc | apply pw_below_drewN | apply below_drew1) | exact HB.out)))); have n7_ := Aside0.mk (below_step (by repeat (first | (with_reducible first | exact HB.out | apply below_alloc | apply pw_below_drewN | apply below_drew1) | exact HB.out)) hb); clear HO218; clear HO221; clear HO224; clear HO228; clear HO232; clear HO236; clear HB; have HO218 := n0_; have HO221 := n1_; have HO224 := n2_; have HO228 := n3_; have HO232 := n4_; have HO236 := n5_; have HO240 := n6_; have HB := n7_; clear n0_ n1_ n2_ n3_ n4_ n5_ n6_ n7_; (try clear hb); (try clear hb2); (try clear hk); (try clear hi); (try clear ho0); obtain ⟨Ao99, co99, eo99⟩ := Kd.V_slice HO240.out; subst eo99))
            go_ret
            exact ⟨by first | rfl | (simp [errW_none, errW_some] <;> rfl) | (simp [*, errW_none, errW_some] <;> rfl), by repeat (first | (with_reducible first | exact HB.out | apply below_alloc | apply pw_below_drewN | apply below_drew1) | exact HB.out)⟩
        · replace c8 := Bool.eq_false_iff.mpr c8
          subst c8
          have H1 : (some false) = some r := by rw [if_neg (show ¬ (false = true) by decide)] at H; exact H
          clear H
          have H := H1
          clear H1
          obtain rfl := Option.some.inj H
          go_enter Try.func11, Try.ntmps11
          go_wp2_with (first | ((with_reducible refine gate_dst (N := 8) rfl ?_); (try (refine gate_guard (by rfl) ?_; dsimp only)); refine Kd.R_lit k62 _ 62 ?hg (N := 8) ?hd (xs := ([(⟨(⟨#[97]⟩ : ByteArray), (-1), 0⟩ : S62)] : List (S62))) (inner := [.string (⟨#[97]⟩ : ByteArray), .int .i64 (-1), .int .i64 0]) (ok := fun _ => True) (okp := fun _ => True) ?hr ?hp (fun _ hk => hk) trivial (Below.refl _ _) (Nat.le_refl _) (by simp) ?_; (case hd => rfl); (case hg => rfl); (case hr => first | (go_simp; done) | (go_simp; rfl)); (case hp => exact (Reps.c3 (show Kd.M k62 _ _ _ (⟨(⟨#[97]⟩ : ByteArray), (-1), 0⟩ : S62) [.string (⟨#[97]⟩ : ByteArray), .int .i64 (-1), .int .i64 0] from (k62_mkM _ _ _ (⟨(⟨#[97]⟩ : ByteArray), (-1), 0⟩ : S62) )) (Reps.none _ _))); intro v217 w100 ho101 hb hg_ hnew_; clear hg_ hnew_; (first | rw [← Ny216.out] at ho101 | (simp only [Int.reduceToNat] at ho101; rw [← Ny216.out] at ho101)); have n0_ := Aside0.mk (Kd.R_lower ho101 (below_size (by repeat (first | (with_reducible first | exact HB.out | apply below_alloc | apply pw_below_drewN | apply below_drew1) | exact HB.out)))); have n1_ := Aside0.mk (below_step (by repeat (first | (with_reducible first | exact HB.out | apply below_alloc | apply pw_below_drewN | apply below_drew1) | exact HB.out)) hb); clear HB; have HO218 := n0_; have HB := n1_; clear n0_ n1_; clear hb ho101) | ((with_reducible refine gate_dst (N := 11) rfl ?_); (try (refine gate_guard (by rfl) ?_; dsimp only)); refine Kd.R_lit k46 _ 46 ?hg (N := 11) ?hd (xs := ([(⟨0, 0, 9, 5, 0, 0⟩ : S46), (⟨0, 0, 4, 5, 0, 0⟩ : S46)] : List (S46))) (inner := [.int .i64 0, .int .i64 0, .int .i64 9, .int .i64 5, .int .i64 0, .int .i64 0, .int .i64 0, .int .i64 0, .int .i64 4, .int .i64 5, .int .i64 0, .int .i64 0]) (ok := fun _ => True) (okp := fun _ => True) ?hr ?hp (fun _ hk => hk) trivial (Below.refl _ _) (Nat.le_refl _) (by simp) ?_; (case hd => rfl); (case hg => rfl); (case hr => first | (go_simp; done) | (go_simp; rfl)); (case hp => exact (Reps.c6 (show Kd.M k46 _ _ _ (⟨0, 0, 9, 5, 0, 0⟩ : S46) [.int .i64 0, .int .i64 0, .int .i64 9, .int .i64 5, .int .i64 0, .int .i64 0] from (k46_mkM _ _ _ (⟨0, 0, 9, 5, 0, 0⟩ : S46) )) (Reps.c6 (show Kd.M k46 _ _ _ (⟨0, 0, 4, 5, 0, 0⟩ : S46) [.int .i64 0, .int .i64 0, .int .i64 4, .int .i64 5, .int .i64 0, .int .i64 0] from (k46_mkM _ _ _ (⟨0, 0, 4, 5, 0, 0⟩ : S46) )) (Reps.none _ _)))); intro v220 w102 ho103 hb hg_ hnew_; clear hg_ hnew_; (first | rw [← Ny219.out] at ho103 | (simp only [Int.reduceToNat] at ho103; rw [← Ny219.out] at ho103)); have n0_ := Aside0.mk (Kd.R_below (by (with_reducible repeat (first | apply Kd.R_alloc | apply Kd.R_drewN | apply Kd.R_drew)); exact HO218.out) hb); have n1_ := Aside0.mk (Kd.R_lower ho103 (below_size (by repeat (first | (with_reducible first | exact HB.out | apply below_alloc | apply pw_below_drewN | apply below_drew1) | exact HB.out)))); have n2_ := Aside0.mk (below_step (by repeat (first | (with_reducible first | exact HB.out | apply below_alloc | apply pw_below_drewN | apply below_drew1) | exact HB.out)) hb); clear HO218; clear HB; have HO218 := n0_; have HO221 := n1_; have HB := n2_; clear n0_ n1_ n2_; clear hb ho103; obtain ⟨Ao104, co104, eo104⟩ := Kd.R_slice HO218.out; subst eo104; obtain ⟨Ao105, co105, eo105⟩ := Kd.R_slice HO221.out; subst eo105) | ((with_reducible refine gate_callee (f := 9) rfl ?_); refine goesL_ (some 15) rfl rfl Try.func9 (by kernel_rfl) rfl #[.slice Ao104 y216.length co104, .slice Ao105 y219.length co105, .int .i64 0, .int .i64 7, .int .i64 0] rfl (by (try simp only [List.map_toArray, List.map_cons, List.map_nil]); first | done | rfl | (simp only [List.length_drop, List.length_take]; rfl)) ?_; (with_reducible refine (draw_Draws.calls k _ _ y216 _ _ y219 0 7 0 t222 t225 _ ?side1 ?side2 ?side3 ?side4 A1.out).mono ?_); (case side1 => repeat (first | exact (Kd.R_reads' HO218.out).2.2 | (with_reducible refine Kd.C_alloc ?_ _) | (with_reducible refine Kd.C_drewN ?_ _) | (with_reducible refine Kd.C_drew ?_))); (case side2 => exact (Kd.R_reads' HO218.out).2.1); (case side3 => repeat (first | exact (Kd.R_reads' HO221.out).2.2 | (with_reducible refine Kd.C_alloc ?_ _) | (with_reducible refine Kd.C_drewN ?_ _) | (with_reducible refine Kd.C_drew ?_))); (case side4 => exact (Kd.R_reads' HO221.out).2.1); rintro e w106 ⟨v223, rfl, ho0, hb⟩; refine ⟨_, rfl, ?_⟩; have n0_ := Aside0.mk (Kd.R_below (by (with_reducible repeat (first | apply Kd.R_alloc | apply Kd.R_drewN | apply Kd.R_drew)); exact HO218.out) hb); have n1_ := Aside0.mk (Kd.R_below (by (with_reducible repeat (first | apply Kd.R_alloc | apply Kd.R_drewN | apply Kd.R_drew)); exact HO221.out) hb); have n2_ := Aside0.mk (Kd.V_lower (Kd.V_mono (ok' := fun k_ => some k_ ≠ (.slice Ao104 y216.length co104 : Value).ownBlock ∧ some k_ ≠ (.slice Ao105 y219.length co105 : Value).ownBlock) ho0 (fun k_ hk_ => ⟨(Kd.fresh' (Kd.R_lt (by (with_reducible repeat (first | apply Kd.R_alloc | apply Kd.R_drewN | apply Kd.R_drew)); exact HO218.out)) k_ hk_), (Kd.fresh' (Kd.R_lt (by (with_reducible repeat (first | apply Kd.R_alloc | apply Kd.R_drewN | apply Kd.R_drew)); exact HO221.out)) k_ hk_)⟩)) (below_size (by repeat (first | (with_reducible first | exact HB.out | apply below_alloc | apply pw_below_drewN | apply below_drew1) | exact HB.out)))); have n3_ := Aside0.mk (below_step (by repeat (first | (with_reducible first | exact HB.out | apply below_alloc | apply pw_below_drewN | apply below_drew1) | exact HB.out)) hb); clear HO218; clear HO221; clear HB; have HO218 := n0_; have HO221 := n1_; have HO224 := n2_; have HB := n3_; clear n0_ n1_ n2_ n3_; (try clear hb); (try clear hb2); (try clear hk); (try clear hi); (try clear ho0); obtain ⟨Ao107, co107, eo107⟩ := Kd.V_slice HO224.out; subst eo107) | ((with_reducible refine gate_callee (f := 21) rfl ?_); refine goesL_ (some 20) rfl rfl Try.func21 (by kernel_rfl) rfl #[.slice Ao107 t222.length co107, .int .i64 6] rfl (by (try simp only [List.map_toArray, List.map_cons, List.map_nil]); first | done | rfl | (simp only [List.length_drop, List.length_take]; rfl)) ?_; (with_reducible refine (draw_Charge.calls k _ _ t222 6 t226 t229 _ ?side1 ?side2 A2.out).mono ?_); (case side1 => repeat (first | exact (Kd.V_reads' HO224.out).2.2 | (with_reducible refine Kd.C_alloc ?_ _) | (with_reducible refine Kd.C_drewN ?_ _) | (with_reducible refine Kd.C_drew ?_))); (case side2 => exact (Kd.V_reads' HO224.out).2.1); rintro e w108 ⟨v227, rfl, ho0, hb⟩; refine ⟨_, rfl, ?_⟩; have n0_ := Aside0.mk (Kd.R_below (by (with_reducible repeat (first | apply Kd.R_alloc | apply Kd.R_drewN | apply Kd.R_drew)); exact HO218.out) hb); have n1_ := Aside0.mk (Kd.R_below (by (with_reducible repeat (first | apply Kd.R_alloc | apply Kd.R_drewN | apply Kd.R_drew)); exact HO221.out) hb); have n2_ := Aside0.mk (Kd.V_below (by (with_reducible repeat (first | apply Kd.V_alloc | apply Kd.V_drewN | apply Kd.V_drew)); exact HO224.out) hb); have n3_ := Aside0.mk (Kd.V_lower (Kd.V_mono (ok' := fun k_ => some k_ ≠ (.slice Ao104 y216.length co104 : Value).ownBlock ∧ some k_ ≠ (.slice Ao105 y219.length co105 : Value).ownBlock) ho0 (fun k_ hk_ => ⟨(Kd.fresh' (Kd.R_lt (by (with_reducible repeat (first | apply Kd.R_alloc | apply Kd.R_drewN | apply Kd.R_drew)); exact HO218.out)) k_ hk_), (Kd.fresh' (Kd.R_lt (by (with_reducible repeat (first | apply Kd.R_alloc | apply Kd.R_drewN | apply Kd.R_drew)); exact HO221.out)) k_ hk_)⟩)) (below_size (by repeat (first | (with_reducible first | exact HB.out | apply below_alloc | apply pw_below_drewN | apply below_drew1) | exact HB.out)))); have n4_ := Aside0.mk (below_step (by repeat (first | (with_reducible first | exact HB.out | apply below_alloc | apply pw_below_drewN | apply below_drew1) | exact HB.out)) hb); clear HO218; clear HO221; clear HO224; clear HB; have HO218 := n0_; have HO221 := n1_; have HO224 := n2_; have HO228 := n3_; have HB := n4_; clear n0_ n1_ n2_ n3_ n4_; (try clear hb); (try clear hb2); (try clear hk); (try clear hi); (try clear ho0)) | ((with_reducible refine gate_dst (N := 29) rfl ?_); (try (refine gate_guard (by rfl) ?_; dsimp only)); refine Kd.R_lit k37 _ 37 ?hg (N := 29) ?hd (xs := ([(⟨1, 5⟩ : S37), (⟨0, 2⟩ : S37)] : List (S37))) (inner := [.int .i64 1, .int .i64 5, .int .i64 0, .int .i64 2]) (ok := fun _ => True) (okp := fun _ => True) ?hr ?hp (fun _ hk => hk) trivial (Below.refl _ _) (Nat.le_refl _) (by simp) ?_; (case hd => rfl); (case hg => rfl); (case hr => first | (go_simp; done) | (go_simp; rfl)); (case hp => exact (Reps.c2 (show Kd.M k37 _ _ _ (⟨1, 5⟩ : S37) [.int .i64 1, .int .i64 5] from (k37_mkM _ _ _ (⟨1, 5⟩ : S37) )) (Reps.c2 (show Kd.M k37 _ _ _ (⟨0, 2⟩ : S37) [.int .i64 0, .int .i64 2] from (k37_mkM _ _ _ (⟨0, 2⟩ : S37) )) (Reps.none _ _)))); intro v231 w109 ho110 hb hg_ hnew_; clear hg_ hnew_; (first | rw [← Ny230.out] at ho110 | (simp only [Int.reduceToNat] at ho110; rw [← Ny230.out] at ho110)); have n0_ := Aside0.mk (Kd.R_below (by (with_reducible repeat (first | apply Kd.R_alloc | apply Kd.R_drewN | apply Kd.R_drew)); exact HO218.out) hb); have n1_ := Aside0.mk (Kd.R_below (by (with_reducible repeat (first | apply Kd.R_alloc | apply Kd.R_drewN | apply Kd.R_drew)); exact HO221.out) hb); have n2_ := Aside0.mk (Kd.V_elder' (by (with_reducible repeat (first | apply Kd.V_alloc | apply Kd.V_drewN | apply Kd.V_drew)); exact HO224.out) (Kd.R_base ho110) hb); have n3_ := Aside0.mk (Kd.V_elder' (by (with_reducible repeat (first | apply Kd.V_alloc | apply Kd.V_drewN | apply Kd.V_drew)); exact HO228.out) (Kd.R_base ho110) hb); have n4_ := Aside0.mk (Kd.R_lower ho110 (below_size (by repeat (first | (with_reducible first | exact HB.out | apply below_alloc | apply pw_below_drewN | apply below_drew1) | exact HB.out)))); have n5_ := Aside0.mk (below_step (by repeat (first | (with_reducible first | exact HB.out | apply below_alloc | apply pw_below_drewN | apply below_drew1) | exact HB.out)) hb); clear HO218; clear HO221; clear HO224; clear HO228; clear HB; have HO218 := n0_; have HO221 := n1_; have HO224 := n2_; have HO228 := n3_; have HO232 := n4_; have HB := n5_; clear n0_ n1_ n2_ n3_ n4_ n5_; clear hb ho110; obtain ⟨Ao111, co111, eo111⟩ := Kd.R_slice HO232.out; subst eo111) | (go_at_call 12; (with_reducible refine (prebendref11_Alike.calls k _ _ t222 _ _ y230 true _ ?side1 ?side2 ?side3 ?side4 A4.out).mono ?_); (case side1 => repeat (first | exact (Kd.V_reads' HO224.out).2.2 | (with_reducible refine Kd.C_alloc ?_ _) | (with_reducible refine Kd.C_drewN ?_ _) | (with_reducible refine Kd.C_drew ?_))); (case side2 => exact (Kd.V_reads' HO224.out).2.1); (case side3 => repeat (first | exact (Kd.R_reads' HO232.out).2.2 | (with_reducible refine Kd.C_alloc ?_ _) | (with_reducible refine Kd.C_drewN ?_ _) | (with_reducible refine Kd.C_drew ?_))); (case side4 => exact (Kd.R_reads' HO232.out).2.1); rintro e w' ⟨rfl, ⟨nd, rfl⟩⟩) | ((with_reducible refine gate_dst (N := 40) rfl ?_); (try (refine gate_guard (by rfl) ?_; dsimp only)); refine Kd.R_lit k37 _ 37 ?hg (N := 40) ?hd (xs := ([(⟨1, 5⟩ : S37), (⟨0, 1⟩ : S37)] : List (S37))) (inner := [.int .i64 1, .int .i64 5, .int .i64 0, .int .i64 1]) (ok := fun _ => True) (okp := fun _ => True) ?hr ?hp (fun _ hk => hk) trivial (Below.refl _ _) (Nat.le_refl _) (by simp) ?_; (case hd => rfl); (case hg => rfl); (case hr => first | (go_simp; done) | (go_simp; rfl)); (case hp => exact (Reps.c2 (show Kd.M k37 _ _ _ (⟨1, 5⟩ : S37) [.int .i64 1, .int .i64 5] from (k37_mkM _ _ _ (⟨1, 5⟩ : S37) )) (Reps.c2 (show Kd.M k37 _ _ _ (⟨0, 1⟩ : S37) [.int .i64 0, .int .i64 1] from (k37_mkM _ _ _ (⟨0, 1⟩ : S37) )) (Reps.none _ _)))); intro v235 w112 ho113 hb hg_ hnew_; clear hg_ hnew_; (first | rw [← Ny234.out] at ho113 | (simp only [Int.reduceToNat] at ho113; rw [← Ny234.out] at ho113)); have n0_ := Aside0.mk (Kd.R_below (by (with_reducible repeat (first | apply Kd.R_alloc | apply Kd.R_drewN | apply Kd.R_drew)); exact HO218.out) hb); have n1_ := Aside0.mk (Kd.R_below (by (with_reducible repeat (first | apply Kd.R_alloc | apply Kd.R_drewN | apply Kd.R_drew)); exact HO221.out) hb); have n2_ := Aside0.mk (Kd.V_elder' (by (with_reducible repeat (first | apply Kd.V_alloc | apply Kd.V_drewN | apply Kd.V_drew)); exact HO224.out) (Kd.R_base ho113) hb); have n3_ := Aside0.mk (Kd.V_elder' (by (with_reducible repeat (first | apply Kd.V_alloc | apply Kd.V_drewN | apply Kd.V_drew)); exact HO228.out) (Kd.R_base ho113) hb); have n4_ := Aside0.mk (Kd.R_elder' (by (with_reducible repeat (first | apply Kd.R_alloc | apply Kd.R_drewN | apply Kd.R_drew)); exact HO232.out) (Kd.R_base ho113) hb); have n5_ := Aside0.mk (Kd.R_lower (Kd.R_new' ho113 (Kd.R_lt (by (with_reducible repeat (first | apply Kd.R_alloc | apply Kd.R_drewN | apply Kd.R_drew)); exact HO232.out))) (below_size (by repeat (first | (with_reducible first | exact HB.out | apply below_alloc | apply pw_below_drewN | apply below_drew1) | exact HB.out)))); have n6_ := Aside0.mk (below_step (by repeat (first | (with_reducible first | exact HB.out | apply below_alloc | apply pw_below_drewN | apply below_drew1) | exact HB.out)) hb); clear HO218; clear HO221; clear HO224; clear HO228; clear HO232; clear HB; have HO218 := n0_; have HO221 := n1_; have HO224 := n2_; have HO228 := n3_; have HO232 := n4_; have HO236 := n5_; have HB := n6_; clear n0_ n1_ n2_ n3_ n4_ n5_ n6_; clear hb ho113; obtain ⟨Ao114, co114, eo114⟩ := Kd.V_slice HO228.out; subst eo114; obtain ⟨Ao115, co115, eo115⟩ := Kd.R_slice HO236.out; subst eo115) | (go_at_call 12; (with_reducible refine (prebendref11_Alike.calls k _ _ t226 _ _ y234 false _ ?side1 ?side2 ?side3 ?side4 A7.out).mono ?_); (case side1 => repeat (first | exact (Kd.V_reads' HO228.out).2.2 | (with_reducible refine Kd.C_alloc ?_ _) | (with_reducible refine Kd.C_drewN ?_ _) | (with_reducible refine Kd.C_drew ?_))); (case side2 => exact (Kd.V_reads' HO228.out).2.1); (case side3 => repeat (first | exact (Kd.R_reads' HO236.out).2.2 | (with_reducible refine Kd.C_alloc ?_ _) | (with_reducible refine Kd.C_drewN ?_ _) | (with_reducible refine Kd.C_drew ?_))); (case side4 => exact (Kd.R_reads' HO236.out).2.1); rintro e w' ⟨rfl, ⟨nd, rfl⟩⟩))
          go_ret
          exact ⟨by first | rfl | (simp [errW_none, errW_some] <;> rfl) | (simp [*, errW_none, errW_some] <;> rfl), by repeat (first | (with_reducible first | exact HB.out | apply below_alloc | apply pw_below_drewN | apply below_drew1) | exact HB.out)⟩
      · rw [if_neg c6] at H
        have c6b0 : (t229 == 0) = false := beq_eq_false_iff_ne.mpr c6
        have c6b1 : (t229 != 0) = true := bne_iff_ne.mpr c6
        obtain rfl := Option.some.inj H
        go_enter Try.func11, Try.ntmps11
        go_wp2_with (first | ((with_reducible refine gate_dst (N := 8) rfl ?_); (try (refine gate_guard (by rfl) ?_; dsimp only)); refine Kd.R_lit k62 _ 62 ?hg (N := 8) ?hd (xs := ([(⟨(⟨#[97]⟩ : ByteArray), (-1), 0⟩ : S62)] : List (S62))) (inner := [.string (⟨#[97]⟩ : ByteArray), .int .i64 (-1), .int .i64 0]) (ok := fun _ => True) (okp := fun _ => True) ?hr ?hp (fun _ hk => hk) trivial (Below.refl _ _) (Nat.le_refl _) (by simp) ?_; (case hd => rfl); (case hg => rfl); (case hr => first | (go_simp; done) | (go_simp; rfl)); (case hp => exact (Reps.c3 (show Kd.M k62 _ _ _ (⟨(⟨#[97]⟩ : ByteArray), (-1), 0⟩ : S62) [.string (⟨#[97]⟩ : ByteArray), .int .i64 (-1), .int .i64 0] from (k62_mkM _ _ _ (⟨(⟨#[97]⟩ : ByteArray), (-1), 0⟩ : S62) )) (Reps.none _ _))); intro v217 w116 ho117 hb hg_ hnew_; clear hg_ hnew_; (first | rw [← Ny216.out] at ho117 | (simp only [Int.reduceToNat] at ho117; rw [← Ny216.out] at ho117)); have n0_ := Aside0.mk (Kd.R_lower ho117 (below_size (by repeat (first | (with_reducible first | exact HB.out | apply below_alloc | apply pw_below_drewN | apply below_drew1) | exact HB.out)))); have n1_ := Aside0.mk (below_step (by repeat (first | (with_reducible first | exact HB.out | apply below_alloc | apply pw_below_drewN | apply below_drew1) | exact HB.out)) hb); clear HB; have HO218 := n0_; have HB := n1_; clear n0_ n1_; clear hb ho117) | ((with_reducible refine gate_dst (N := 11) rfl ?_); (try (refine gate_guard (by rfl) ?_; dsimp only)); refine Kd.R_lit k46 _ 46 ?hg (N := 11) ?hd (xs := ([(⟨0, 0, 9, 5, 0, 0⟩ : S46), (⟨0, 0, 4, 5, 0, 0⟩ : S46)] : List (S46))) (inner := [.int .i64 0, .int .i64 0, .int .i64 9, .int .i64 5, .int .i64 0, .int .i64 0, .int .i64 0, .int .i64 0, .int .i64 4, .int .i64 5, .int .i64 0, .int .i64 0]) (ok := fun _ => True) (okp := fun _ => True) ?hr ?hp (fun _ hk => hk) trivial (Below.refl _ _) (Nat.le_refl _) (by simp) ?_; (case hd => rfl); (case hg => rfl); (case hr => first | (go_simp; done) | (go_simp; rfl)); (case hp => exact (Reps.c6 (show Kd.M k46 _ _ _ (⟨0, 0, 9, 5, 0, 0⟩ : S46) [.int .i64 0, .int .i64 0, .int .i64 9, .int .i64 5, .int .i64 0, .int .i64 0] from (k46_mkM _ _ _ (⟨0, 0, 9, 5, 0, 0⟩ : S46) )) (Reps.c6 (show Kd.M k46 _ _ _ (⟨0, 0, 4, 5, 0, 0⟩ : S46) [.int .i64 0, .int .i64 0, .int .i64 4, .int .i64 5, .int .i64 0, .int .i64 0] from (k46_mkM _ _ _ (⟨0, 0, 4, 5, 0, 0⟩ : S46) )) (Reps.none _ _)))); intro v220 w118 ho119 hb hg_ hnew_; clear hg_ hnew_; (first | rw [← Ny219.out] at ho119 | (simp only [Int.reduceToNat] at ho119; rw [← Ny219.out] at ho119)); have n0_ := Aside0.mk (Kd.R_below (by (with_reducible repeat (first | apply Kd.R_alloc | apply Kd.R_drewN | apply Kd.R_drew)); exact HO218.out) hb); have n1_ := Aside0.mk (Kd.R_lower ho119 (below_size (by repeat (first | (with_reducible first | exact HB.out | apply below_alloc | apply pw_below_drewN | apply below_drew1) | exact HB.out)))); have n2_ := Aside0.mk (below_step (by repeat (first | (with_reducible first | exact HB.out | apply below_alloc | apply pw_below_drewN | apply below_drew1) | exact HB.out)) hb); clear HO218; clear HB; have HO218 := n0_; have HO221 := n1_; have HB := n2_; clear n0_ n1_ n2_; clear hb ho119; obtain ⟨Ao120, co120, eo120⟩ := Kd.R_slice HO218.out; subst eo120; obtain ⟨Ao121, co121, eo121⟩ := Kd.R_slice HO221.out; subst eo121) | ((with_reducible refine gate_callee (f := 9) rfl ?_); refine goesL_ (some 15) rfl rfl Try.func9 (by kernel_rfl) rfl #[.slice Ao120 y216.length co120, .slice Ao121 y219.length co121, .int .i64 0, .int .i64 7, .int .i64 0] rfl (by (try simp only [List.map_toArray, List.map_cons, List.map_nil]); first | done | rfl | (simp only [List.length_drop, List.length_take]; rfl)) ?_; (with_reducible refine (draw_Draws.calls k _ _ y216 _ _ y219 0 7 0 t222 t225 _ ?side1 ?side2 ?side3 ?side4 A1.out).mono ?_); (case side1 => repeat (first | exact (Kd.R_reads' HO218.out).2.2 | (with_reducible refine Kd.C_alloc ?_ _) | (with_reducible refine Kd.C_drewN ?_ _) | (with_reducible refine Kd.C_drew ?_))); (case side2 => exact (Kd.R_reads' HO218.out).2.1); (case side3 => repeat (first | exact (Kd.R_reads' HO221.out).2.2 | (with_reducible refine Kd.C_alloc ?_ _) | (with_reducible refine Kd.C_drewN ?_ _) | (with_reducible refine Kd.C_drew ?_))); (case side4 => exact (Kd.R_reads' HO221.out).2.1); rintro e w122 ⟨v223, rfl, ho0, hb⟩; refine ⟨_, rfl, ?_⟩; have n0_ := Aside0.mk (Kd.R_below (by (with_reducible repeat (first | apply Kd.R_alloc | apply Kd.R_drewN | apply Kd.R_drew)); exact HO218.out) hb); have n1_ := Aside0.mk (Kd.R_below (by (with_reducible repeat (first | apply Kd.R_alloc | apply Kd.R_drewN | apply Kd.R_drew)); exact HO221.out) hb); have n2_ := Aside0.mk (Kd.V_lower (Kd.V_mono (ok' := fun k_ => some k_ ≠ (.slice Ao120 y216.length co120 : Value).ownBlock ∧ some k_ ≠ (.slice Ao121 y219.length co121 : Value).ownBlock) ho0 (fun k_ hk_ => ⟨(Kd.fresh' (Kd.R_lt (by (with_reducible repeat (first | apply Kd.R_alloc | apply Kd.R_drewN | apply Kd.R_drew)); exact HO218.out)) k_ hk_), (Kd.fresh' (Kd.R_lt (by (with_reducible repeat (first | apply Kd.R_alloc | apply Kd.R_drewN | apply Kd.R_drew)); exact HO221.out)) k_ hk_)⟩)) (below_size (by repeat (first | (with_reducible first | exact HB.out | apply below_alloc | apply pw_below_drewN | apply below_drew1) | exact HB.out)))); have n3_ := Aside0.mk (below_step (by repeat (first | (with_reducible first | exact HB.out | apply below_alloc | apply pw_below_drewN | apply below_drew1) | exact HB.out)) hb); clear HO218; clear HO221; clear HB; have HO218 := n0_; have HO221 := n1_; have HO224 := n2_; have HB := n3_; clear n0_ n1_ n2_ n3_; (try clear hb); (try clear hb2); (try clear hk); (try clear hi); (try clear ho0); obtain ⟨Ao123, co123, eo123⟩ := Kd.V_slice HO224.out; subst eo123) | ((with_reducible refine gate_callee (f := 21) rfl ?_); refine goesL_ (some 20) rfl rfl Try.func21 (by kernel_rfl) rfl #[.slice Ao123 t222.length co123, .int .i64 6] rfl (by (try simp only [List.map_toArray, List.map_cons, List.map_nil]); first | done | rfl | (simp only [List.length_drop, List.length_take]; rfl)) ?_; (with_reducible refine (draw_Charge.calls k _ _ t222 6 t226 t229 _ ?side1 ?side2 A2.out).mono ?_); (case side1 => repeat (first | exact (Kd.V_reads' HO224.out).2.2 | (with_reducible refine Kd.C_alloc ?_ _) | (with_reducible refine Kd.C_drewN ?_ _) | (with_reducible refine Kd.C_drew ?_))); (case side2 => exact (Kd.V_reads' HO224.out).2.1); rintro e w124 ⟨v227, rfl, ho0, hb⟩; refine ⟨_, rfl, ?_⟩; have n0_ := Aside0.mk (Kd.R_below (by (with_reducible repeat (first | apply Kd.R_alloc | apply Kd.R_drewN | apply Kd.R_drew)); exact HO218.out) hb); have n1_ := Aside0.mk (Kd.R_below (by (with_reducible repeat (first | apply Kd.R_alloc | apply Kd.R_drewN | apply Kd.R_drew)); exact HO221.out) hb); have n2_ := Aside0.mk (Kd.V_below (by (with_reducible repeat (first | apply Kd.V_alloc | apply Kd.V_drewN | apply Kd.V_drew)); exact HO224.out) hb); have n3_ := Aside0.mk (Kd.V_lower (Kd.V_mono (ok' := fun k_ => some k_ ≠ (.slice Ao120 y216.length co120 : Value).ownBlock ∧ some k_ ≠ (.slice Ao121 y219.length co121 : Value).ownBlock) ho0 (fun k_ hk_ => ⟨(Kd.fresh' (Kd.R_lt (by (with_reducible repeat (first | apply Kd.R_alloc | apply Kd.R_drewN | apply Kd.R_drew)); exact HO218.out)) k_ hk_), (Kd.fresh' (Kd.R_lt (by (with_reducible repeat (first | apply Kd.R_alloc | apply Kd.R_drewN | apply Kd.R_drew)); exact HO221.out)) k_ hk_)⟩)) (below_size (by repeat (first | (with_reducible first | exact HB.out | apply below_alloc | apply pw_below_drewN | apply below_drew1) | exact HB.out)))); have n4_ := Aside0.mk (below_step (by repeat (first | (with_reducible first | exact HB.out | apply below_alloc | apply pw_below_drewN | apply below_drew1) | exact HB.out)) hb); clear HO218; clear HO221; clear HO224; clear HB; have HO218 := n0_; have HO221 := n1_; have HO224 := n2_; have HO228 := n3_; have HB := n4_; clear n0_ n1_ n2_ n3_ n4_; (try clear hb); (try clear hb2); (try clear hk); (try clear hi); (try clear ho0)) | ((with_reducible refine gate_dst (N := 29) rfl ?_); (try (refine gate_guard (by rfl) ?_; dsimp only)); refine Kd.R_lit k37 _ 37 ?hg (N := 29) ?hd (xs := ([(⟨1, 5⟩ : S37), (⟨0, 2⟩ : S37)] : List (S37))) (inner := [.int .i64 1, .int .i64 5, .int .i64 0, .int .i64 2]) (ok := fun _ => True) (okp := fun _ => True) ?hr ?hp (fun _ hk => hk) trivial (Below.refl _ _) (Nat.le_refl _) (by simp) ?_; (case hd => rfl); (case hg => rfl); (case hr => first | (go_simp; done) | (go_simp; rfl)); (case hp => exact (Reps.c2 (show Kd.M k37 _ _ _ (⟨1, 5⟩ : S37) [.int .i64 1, .int .i64 5] from (k37_mkM _ _ _ (⟨1, 5⟩ : S37) )) (Reps.c2 (show Kd.M k37 _ _ _ (⟨0, 2⟩ : S37) [.int .i64 0, .int .i64 2] from (k37_mkM _ _ _ (⟨0, 2⟩ : S37) )) (Reps.none _ _)))); intro v231 w125 ho126 hb hg_ hnew_; clear hg_ hnew_; (first | rw [← Ny230.out] at ho126 | (simp only [Int.reduceToNat] at ho126; rw [← Ny230.out] at ho126)); have n0_ := Aside0.mk (Kd.R_below (by (with_reducible repeat (first | apply Kd.R_alloc | apply Kd.R_drewN | apply Kd.R_drew)); exact HO218.out) hb); have n1_ := Aside0.mk (Kd.R_below (by (with_reducible repeat (first | apply Kd.R_alloc | apply Kd.R_drewN | apply Kd.R_drew)); exact HO221.out) hb); have n2_ := Aside0.mk (Kd.V_elder' (by (with_reducible repeat (first | apply Kd.V_alloc | apply Kd.V_drewN | apply Kd.V_drew)); exact HO224.out) (Kd.R_base ho126) hb); have n3_ := Aside0.mk (Kd.V_elder' (by (with_reducible repeat (first | apply Kd.V_alloc | apply Kd.V_drewN | apply Kd.V_drew)); exact HO228.out) (Kd.R_base ho126) hb); have n4_ := Aside0.mk (Kd.R_lower ho126 (below_size (by repeat (first | (with_reducible first | exact HB.out | apply below_alloc | apply pw_below_drewN | apply below_drew1) | exact HB.out)))); have n5_ := Aside0.mk (below_step (by repeat (first | (with_reducible first | exact HB.out | apply below_alloc | apply pw_below_drewN | apply below_drew1) | exact HB.out)) hb); clear HO218; clear HO221; clear HO224; clear HO228; clear HB; have HO218 := n0_; have HO221 := n1_; have HO224 := n2_; have HO228 := n3_; have HO232 := n4_; have HB := n5_; clear n0_ n1_ n2_ n3_ n4_ n5_; clear hb ho126; obtain ⟨Ao127, co127, eo127⟩ := Kd.R_slice HO232.out; subst eo127) | (go_at_call 12; (with_reducible refine (prebendref11_Alike.calls k _ _ t222 _ _ y230 true _ ?side1 ?side2 ?side3 ?side4 A4.out).mono ?_); (case side1 => repeat (first | exact (Kd.V_reads' HO224.out).2.2 | (with_reducible refine Kd.C_alloc ?_ _) | (with_reducible refine Kd.C_drewN ?_ _) | (with_reducible refine Kd.C_drew ?_))); (case side2 => exact (Kd.V_reads' HO224.out).2.1); (case side3 => repeat (first | exact (Kd.R_reads' HO232.out).2.2 | (with_reducible refine Kd.C_alloc ?_ _) | (with_reducible refine Kd.C_drewN ?_ _) | (with_reducible refine Kd.C_drew ?_))); (case side4 => exact (Kd.R_reads' HO232.out).2.1); rintro e w' ⟨rfl, ⟨nd, rfl⟩⟩))
        go_ret
        exact ⟨by first | rfl | (simp [errW_none, errW_some] <;> rfl) | (simp [*, errW_none, errW_some] <;> rfl), by repeat (first | (with_reducible first | exact HB.out | apply below_alloc | apply pw_below_drewN | apply below_drew1) | exact HB.out)⟩
    · replace c5 := Bool.eq_false_iff.mpr c5
      subst c5
      have H1 : (some false) = some r := by rw [if_neg (show ¬ (false = true) by decide)] at H; exact H
      clear H
      have H := H1
      clear H1
      obtain rfl := Option.some.inj H
      go_enter Try.func11, Try.ntmps11
      go_wp2_with (first | ((with_reducible refine gate_dst (N := 8) rfl ?_); (try (refine gate_guard (by rfl) ?_; dsimp only)); refine Kd.R_lit k62 _ 62 ?hg (N := 8) ?hd (xs := ([(⟨(⟨#[97]⟩ : ByteArray), (-1), 0⟩ : S62)] : List (S62))) (inner := [.string (⟨#[97]⟩ : ByteArray), .int .i64 (-1), .int .i64 0]) (ok := fun _ => True) (okp := fun _ => True) ?hr ?hp (fun _ hk => hk) trivial (Below.refl _ _) (Nat.le_refl _) (by simp) ?_; (case hd => rfl); (case hg => rfl); (case hr => first | (go_simp; done) | (go_simp; rfl)); (case hp => exact (Reps.c3 (show Kd.M k62 _ _ _ (⟨(⟨#[97]⟩ : ByteArray), (-1), 0⟩ : S62) [.string (⟨#[97]⟩ : ByteArray), .int .i64 (-1), .int .i64 0] from (k62_mkM _ _ _ (⟨(⟨#[97]⟩ : ByteArray), (-1), 0⟩ : S62) )) (Reps.none _ _))); intro v217 w128 ho129 hb hg_ hnew_; clear hg_ hnew_; (first | rw [← Ny216.out] at ho129 | (simp only [Int.reduceToNat] at ho129; rw [← Ny216.out] at ho129)); have n0_ := Aside0.mk (Kd.R_lower ho129 (below_size (by repeat (first | (with_reducible first | exact HB.out | apply below_alloc | apply pw_below_drewN | apply below_drew1) | exact HB.out)))); have n1_ := Aside0.mk (below_step (by repeat (first | (with_reducible first | exact HB.out | apply below_alloc | apply pw_below_drewN | apply below_drew1) | exact HB.out)) hb); clear HB; have HO218 := n0_; have HB := n1_; clear n0_ n1_; clear hb ho129) | ((with_reducible refine gate_dst (N := 11) rfl ?_); (try (refine gate_guard (by rfl) ?_; dsimp only)); refine Kd.R_lit k46 _ 46 ?hg (N := 11) ?hd (xs := ([(⟨0, 0, 9, 5, 0, 0⟩ : S46), (⟨0, 0, 4, 5, 0, 0⟩ : S46)] : List (S46))) (inner := [.int .i64 0, .int .i64 0, .int .i64 9, .int .i64 5, .int .i64 0, .int .i64 0, .int .i64 0, .int .i64 0, .int .i64 4, .int .i64 5, .int .i64 0, .int .i64 0]) (ok := fun _ => True) (okp := fun _ => True) ?hr ?hp (fun _ hk => hk) trivial (Below.refl _ _) (Nat.le_refl _) (by simp) ?_; (case hd => rfl); (case hg => rfl); (case hr => first | (go_simp; done) | (go_simp; rfl)); (case hp => exact (Reps.c6 (show Kd.M k46 _ _ _ (⟨0, 0, 9, 5, 0, 0⟩ : S46) [.int .i64 0, .int .i64 0, .int .i64 9, .int .i64 5, .int .i64 0, .int .i64 0] from (k46_mkM _ _ _ (⟨0, 0, 9, 5, 0, 0⟩ : S46) )) (Reps.c6 (show Kd.M k46 _ _ _ (⟨0, 0, 4, 5, 0, 0⟩ : S46) [.int .i64 0, .int .i64 0, .int .i64 4, .int .i64 5, .int .i64 0, .int .i64 0] from (k46_mkM _ _ _ (⟨0, 0, 4, 5, 0, 0⟩ : S46) )) (Reps.none _ _)))); intro v220 w130 ho131 hb hg_ hnew_; clear hg_ hnew_; (first | rw [← Ny219.out] at ho131 | (simp only [Int.reduceToNat] at ho131; rw [← Ny219.out] at ho131)); have n0_ := Aside0.mk (Kd.R_below (by (with_reducible repeat (first | apply Kd.R_alloc | apply Kd.R_drewN | apply Kd.R_drew)); exact HO218.out) hb); have n1_ := Aside0.mk (Kd.R_lower ho131 (below_size (by repeat (first | (with_reducible first | exact HB.out | apply below_alloc | apply pw_below_drewN | apply below_drew1) | exact HB.out)))); have n2_ := Aside0.mk (below_step (by repeat (first | (with_reducible first | exact HB.out | apply below_alloc | apply pw_below_drewN | apply below_drew1) | exact HB.out)) hb); clear HO218; clear HB; have HO218 := n0_; have HO221 := n1_; have HB := n2_; clear n0_ n1_ n2_; clear hb ho131; obtain ⟨Ao132, co132, eo132⟩ := Kd.R_slice HO218.out; subst eo132; obtain ⟨Ao133, co133, eo133⟩ := Kd.R_slice HO221.out; subst eo133) | ((with_reducible refine gate_callee (f := 9) rfl ?_); refine goesL_ (some 15) rfl rfl Try.func9 (by kernel_rfl) rfl #[.slice Ao132 y216.length co132, .slice Ao133 y219.length co133, .int .i64 0, .int .i64 7, .int .i64 0] rfl (by (try simp only [List.map_toArray, List.map_cons, List.map_nil]); first | done | rfl | (simp only [List.length_drop, List.length_take]; rfl)) ?_; (with_reducible refine (draw_Draws.calls k _ _ y216 _ _ y219 0 7 0 t222 t225 _ ?side1 ?side2 ?side3 ?side4 A1.out).mono ?_); (case side1 => repeat (first | exact (Kd.R_reads' HO218.out).2.2 | (with_reducible refine Kd.C_alloc ?_ _) | (with_reducible refine Kd.C_drewN ?_ _) | (with_reducible refine Kd.C_drew ?_))); (case side2 => exact (Kd.R_reads' HO218.out).2.1); (case side3 => repeat (first | exact (Kd.R_reads' HO221.out).2.2 | (with_reducible refine Kd.C_alloc ?_ _) | (with_reducible refine Kd.C_drewN ?_ _) | (with_reducible refine Kd.C_drew ?_))); (case side4 => exact (Kd.R_reads' HO221.out).2.1); rintro e w134 ⟨v223, rfl, ho0, hb⟩; refine ⟨_, rfl, ?_⟩; have n0_ := Aside0.mk (Kd.R_below (by (with_reducible repeat (first | apply Kd.R_alloc | apply Kd.R_drewN | apply Kd.R_drew)); exact HO218.out) hb); have n1_ := Aside0.mk (Kd.R_below (by (with_reducible repeat (first | apply Kd.R_alloc | apply Kd.R_drewN | apply Kd.R_drew)); exact HO221.out) hb); have n2_ := Aside0.mk (Kd.V_lower (Kd.V_mono (ok' := fun k_ => some k_ ≠ (.slice Ao132 y216.length co132 : Value).ownBlock ∧ some k_ ≠ (.slice Ao133 y219.length co133 : Value).ownBlock) ho0 (fun k_ hk_ => ⟨(Kd.fresh' (Kd.R_lt (by (with_reducible repeat (first | apply Kd.R_alloc | apply Kd.R_drewN | apply Kd.R_drew)); exact HO218.out)) k_ hk_), (Kd.fresh' (Kd.R_lt (by (with_reducible repeat (first | apply Kd.R_alloc | apply Kd.R_drewN | apply Kd.R_drew)); exact HO221.out)) k_ hk_)⟩)) (below_size (by repeat (first | (with_reducible first | exact HB.out | apply below_alloc | apply pw_below_drewN | apply below_drew1) | exact HB.out)))); have n3_ := Aside0.mk (below_step (by repeat (first | (with_reducible first | exact HB.out | apply below_alloc | apply pw_below_drewN | apply below_drew1) | exact HB.out)) hb); clear HO218; clear HO221; clear HB; have HO218 := n0_; have HO221 := n1_; have HO224 := n2_; have HB := n3_; clear n0_ n1_ n2_ n3_; (try clear hb); (try clear hb2); (try clear hk); (try clear hi); (try clear ho0); obtain ⟨Ao135, co135, eo135⟩ := Kd.V_slice HO224.out; subst eo135) | ((with_reducible refine gate_callee (f := 21) rfl ?_); refine goesL_ (some 20) rfl rfl Try.func21 (by kernel_rfl) rfl #[.slice Ao135 t222.length co135, .int .i64 6] rfl (by (try simp only [List.map_toArray, List.map_cons, List.map_nil]); first | done | rfl | (simp only [List.length_drop, List.length_take]; rfl)) ?_; (with_reducible refine (draw_Charge.calls k _ _ t222 6 t226 t229 _ ?side1 ?side2 A2.out).mono ?_); (case side1 => repeat (first | exact (Kd.V_reads' HO224.out).2.2 | (with_reducible refine Kd.C_alloc ?_ _) | (with_reducible refine Kd.C_drewN ?_ _) | (with_reducible refine Kd.C_drew ?_))); (case side2 => exact (Kd.V_reads' HO224.out).2.1); rintro e w136 ⟨v227, rfl, ho0, hb⟩; refine ⟨_, rfl, ?_⟩; have n0_ := Aside0.mk (Kd.R_below (by (with_reducible repeat (first | apply Kd.R_alloc | apply Kd.R_drewN | apply Kd.R_drew)); exact HO218.out) hb); have n1_ := Aside0.mk (Kd.R_below (by (with_reducible repeat (first | apply Kd.R_alloc | apply Kd.R_drewN | apply Kd.R_drew)); exact HO221.out) hb); have n2_ := Aside0.mk (Kd.V_below (by (with_reducible repeat (first | apply Kd.V_alloc | apply Kd.V_drewN | apply Kd.V_drew)); exact HO224.out) hb); have n3_ := Aside0.mk (Kd.V_lower (Kd.V_mono (ok' := fun k_ => some k_ ≠ (.slice Ao132 y216.length co132 : Value).ownBlock ∧ some k_ ≠ (.slice Ao133 y219.length co133 : Value).ownBlock) ho0 (fun k_ hk_ => ⟨(Kd.fresh' (Kd.R_lt (by (with_reducible repeat (first | apply Kd.R_alloc | apply Kd.R_drewN | apply Kd.R_drew)); exact HO218.out)) k_ hk_), (Kd.fresh' (Kd.R_lt (by (with_reducible repeat (first | apply Kd.R_alloc | apply Kd.R_drewN | apply Kd.R_drew)); exact HO221.out)) k_ hk_)⟩)) (below_size (by repeat (first | (with_reducible first | exact HB.out | apply below_alloc | apply pw_below_drewN | apply below_drew1) | exact HB.out)))); have n4_ := Aside0.mk (below_step (by repeat (first | (with_reducible first | exact HB.out | apply below_alloc | apply pw_below_drewN | apply below_drew1) | exact HB.out)) hb); clear HO218; clear HO221; clear HO224; clear HB; have HO218 := n0_; have HO221 := n1_; have HO224 := n2_; have HO228 := n3_; have HB := n4_; clear n0_ n1_ n2_ n3_ n4_; (try clear hb); (try clear hb2); (try clear hk); (try clear hi); (try clear ho0)) | ((with_reducible refine gate_dst (N := 29) rfl ?_); (try (refine gate_guard (by rfl) ?_; dsimp only)); refine Kd.R_lit k37 _ 37 ?hg (N := 29) ?hd (xs := ([(⟨1, 5⟩ : S37), (⟨0, 2⟩ : S37)] : List (S37))) (inner := [.int .i64 1, .int .i64 5, .int .i64 0, .int .i64 2]) (ok := fun _ => True) (okp := fun _ => True) ?hr ?hp (fun _ hk => hk) trivial (Below.refl _ _) (Nat.le_refl _) (by simp) ?_; (case hd => rfl); (case hg => rfl); (case hr => first | (go_simp; done) | (go_simp; rfl)); (case hp => exact (Reps.c2 (show Kd.M k37 _ _ _ (⟨1, 5⟩ : S37) [.int .i64 1, .int .i64 5] from (k37_mkM _ _ _ (⟨1, 5⟩ : S37) )) (Reps.c2 (show Kd.M k37 _ _ _ (⟨0, 2⟩ : S37) [.int .i64 0, .int .i64 2] from (k37_mkM _ _ _ (⟨0, 2⟩ : S37) )) (Reps.none _ _)))); intro v231 w137 ho138 hb hg_ hnew_; clear hg_ hnew_; (first | rw [← Ny230.out] at ho138 | (simp only [Int.reduceToNat] at ho138; rw [← Ny230.out] at ho138)); have n0_ := Aside0.mk (Kd.R_below (by (with_reducible repeat (first | apply Kd.R_alloc | apply Kd.R_drewN | apply Kd.R_drew)); exact HO218.out) hb); have n1_ := Aside0.mk (Kd.R_below (by (with_reducible repeat (first | apply Kd.R_alloc | apply Kd.R_drewN | apply Kd.R_drew)); exact HO221.out) hb); have n2_ := Aside0.mk (Kd.V_elder' (by (with_reducible repeat (first | apply Kd.V_alloc | apply Kd.V_drewN | apply Kd.V_drew)); exact HO224.out) (Kd.R_base ho138) hb); have n3_ := Aside0.mk (Kd.V_elder' (by (with_reducible repeat (first | apply Kd.V_alloc | apply Kd.V_drewN | apply Kd.V_drew)); exact HO228.out) (Kd.R_base ho138) hb); have n4_ := Aside0.mk (Kd.R_lower ho138 (below_size (by repeat (first | (with_reducible first | exact HB.out | apply below_alloc | apply pw_below_drewN | apply below_drew1) | exact HB.out)))); have n5_ := Aside0.mk (below_step (by repeat (first | (with_reducible first | exact HB.out | apply below_alloc | apply pw_below_drewN | apply below_drew1) | exact HB.out)) hb); clear HO218; clear HO221; clear HO224; clear HO228; clear HB; have HO218 := n0_; have HO221 := n1_; have HO224 := n2_; have HO228 := n3_; have HO232 := n4_; have HB := n5_; clear n0_ n1_ n2_ n3_ n4_ n5_; clear hb ho138; obtain ⟨Ao139, co139, eo139⟩ := Kd.R_slice HO232.out; subst eo139) | (go_at_call 12; (with_reducible refine (prebendref11_Alike.calls k _ _ t222 _ _ y230 false _ ?side1 ?side2 ?side3 ?side4 A4.out).mono ?_); (case side1 => repeat (first | exact (Kd.V_reads' HO224.out).2.2 | (with_reducible refine Kd.C_alloc ?_ _) | (with_reducible refine Kd.C_drewN ?_ _) | (with_reducible refine Kd.C_drew ?_))); (case side2 => exact (Kd.V_reads' HO224.out).2.1); (case side3 => repeat (first | exact (Kd.R_reads' HO232.out).2.2 | (with_reducible refine Kd.C_alloc ?_ _) | (with_reducible refine Kd.C_drewN ?_ _) | (with_reducible refine Kd.C_drew ?_))); (case side4 => exact (Kd.R_reads' HO232.out).2.1); rintro e w' ⟨rfl, ⟨nd, rfl⟩⟩))
      go_ret
      exact ⟨by first | rfl | (simp [errW_none, errW_some] <;> rfl) | (simp [*, errW_none, errW_some] <;> rfl), by repeat (first | (with_reducible first | exact HB.out | apply below_alloc | apply pw_below_drewN | apply below_drew1) | exact HB.out)⟩
  · rw [if_neg c3] at H
    have c3b0 : (t225 == 0) = false := beq_eq_false_iff_ne.mpr c3
    have c3b1 : (t225 != 0) = true := bne_iff_ne.mpr c3
    obtain rfl := Option.some.inj H
    go_enter Try.func11, Try.ntmps11
    go_wp2_with (first | ((with_reducible refine gate_dst (N := 8) rfl ?_); (try (refine gate_guard (by rfl) ?_; dsimp only)); refine Kd.R_lit k62 _ 62 ?hg (N := 8) ?hd (xs := ([(⟨(⟨#[97]⟩ : ByteArray), (-1), 0⟩ : S62)] : List (S62))) (inner := [.string (⟨#[97]⟩ : ByteArray), .int .i64 (-1), .int .i64 0]) (ok := fun _ => True) (okp := fun _ => True) ?hr ?hp (fun _ hk => hk) trivial (Below.refl _ _) (Nat.le_refl _) (by simp) ?_; (case hd => rfl); (case hg => rfl); (case hr => first | (go_simp; done) | (go_simp; rfl)); (case hp => exact (Reps.c3 (show Kd.M k62 _ _ _ (⟨(⟨#[97]⟩ : ByteArray), (-1), 0⟩ : S62) [.string (⟨#[97]⟩ : ByteArray), .int .i64 (-1), .int .i64 0] from (k62_mkM _ _ _ (⟨(⟨#[97]⟩ : ByteArray), (-1), 0⟩ : S62) )) (Reps.none _ _))); intro v217 w140 ho141 hb hg_ hnew_; clear hg_ hnew_; (first | rw [← Ny216.out] at ho141 | (simp only [Int.reduceToNat] at ho141; rw [← Ny216.out] at ho141)); have n0_ := Aside0.mk (Kd.R_lower ho141 (below_size (by repeat (first | (with_reducible first | exact HB.out | apply below_alloc | apply pw_below_drewN | apply below_drew1) | exact HB.out)))); have n1_ := Aside0.mk (below_step (by repeat (first | (with_reducible first | exact HB.out | apply below_alloc | apply pw_below_drewN | apply below_drew1) | exact HB.out)) hb); clear HB; have HO218 := n0_; have HB := n1_; clear n0_ n1_; clear hb ho141) | ((with_reducible refine gate_dst (N := 11) rfl ?_); (try (refine gate_guard (by rfl) ?_; dsimp only)); refine Kd.R_lit k46 _ 46 ?hg (N := 11) ?hd (xs := ([(⟨0, 0, 9, 5, 0, 0⟩ : S46), (⟨0, 0, 4, 5, 0, 0⟩ : S46)] : List (S46))) (inner := [.int .i64 0, .int .i64 0, .int .i64 9, .int .i64 5, .int .i64 0, .int .i64 0, .int .i64 0, .int .i64 0, .int .i64 4, .int .i64 5, .int .i64 0, .int .i64 0]) (ok := fun _ => True) (okp := fun _ => True) ?hr ?hp (fun _ hk => hk) trivial (Below.refl _ _) (Nat.le_refl _) (by simp) ?_; (case hd => rfl); (case hg => rfl); (case hr => first | (go_simp; done) | (go_simp; rfl)); (case hp => exact (Reps.c6 (show Kd.M k46 _ _ _ (⟨0, 0, 9, 5, 0, 0⟩ : S46) [.int .i64 0, .int .i64 0, .int .i64 9, .int .i64 5, .int .i64 0, .int .i64 0] from (k46_mkM _ _ _ (⟨0, 0, 9, 5, 0, 0⟩ : S46) )) (Reps.c6 (show Kd.M k46 _ _ _ (⟨0, 0, 4, 5, 0, 0⟩ : S46) [.int .i64 0, .int .i64 0, .int .i64 4, .int .i64 5, .int .i64 0, .int .i64 0] from (k46_mkM _ _ _ (⟨0, 0, 4, 5, 0, 0⟩ : S46) )) (Reps.none _ _)))); intro v220 w142 ho143 hb hg_ hnew_; clear hg_ hnew_; (first | rw [← Ny219.out] at ho143 | (simp only [Int.reduceToNat] at ho143; rw [← Ny219.out] at ho143)); have n0_ := Aside0.mk (Kd.R_below (by (with_reducible repeat (first | apply Kd.R_alloc | apply Kd.R_drewN | apply Kd.R_drew)); exact HO218.out) hb); have n1_ := Aside0.mk (Kd.R_lower ho143 (below_size (by repeat (first | (with_reducible first | exact HB.out | apply below_alloc | apply pw_below_drewN | apply below_drew1) | exact HB.out)))); have n2_ := Aside0.mk (below_step (by repeat (first | (with_reducible first | exact HB.out | apply below_alloc | apply pw_below_drewN | apply below_drew1) | exact HB.out)) hb); clear HO218; clear HB; have HO218 := n0_; have HO221 := n1_; have HB := n2_; clear n0_ n1_ n2_; clear hb ho143; obtain ⟨Ao144, co144, eo144⟩ := Kd.R_slice HO218.out; subst eo144; obtain ⟨Ao145, co145, eo145⟩ := Kd.R_slice HO221.out; subst eo145) | ((with_reducible refine gate_callee (f := 9) rfl ?_); refine goesL_ (some 15) rfl rfl Try.func9 (by kernel_rfl) rfl #[.slice Ao144 y216.length co144, .slice Ao145 y219.length co145, .int .i64 0, .int .i64 7, .int .i64 0] rfl (by (try simp only [List.map_toArray, List.map_cons, List.map_nil]); first | done | rfl | (simp only [List.length_drop, List.length_take]; rfl)) ?_; (with_reducible refine (draw_Draws.calls k _ _ y216 _ _ y219 0 7 0 t222 t225 _ ?side1 ?side2 ?side3 ?side4 A1.out).mono ?_); (case side1 => repeat (first | exact (Kd.R_reads' HO218.out).2.2 | (with_reducible refine Kd.C_alloc ?_ _) | (with_reducible refine Kd.C_drewN ?_ _) | (with_reducible refine Kd.C_drew ?_))); (case side2 => exact (Kd.R_reads' HO218.out).2.1); (case side3 => repeat (first | exact (Kd.R_reads' HO221.out).2.2 | (with_reducible refine Kd.C_alloc ?_ _) | (with_reducible refine Kd.C_drewN ?_ _) | (with_reducible refine Kd.C_drew ?_))); (case side4 => exact (Kd.R_reads' HO221.out).2.1); rintro e w146 ⟨v223, rfl, ho0, hb⟩; refine ⟨_, rfl, ?_⟩; have n0_ := Aside0.mk (Kd.R_below (by (with_reducible repeat (first | apply Kd.R_alloc | apply Kd.R_drewN | apply Kd.R_drew)); exact HO218.out) hb); have n1_ := Aside0.mk (Kd.R_below (by (with_reducible repeat (first | apply Kd.R_alloc | apply Kd.R_drewN | apply Kd.R_drew)); exact HO221.out) hb); have n2_ := Aside0.mk (Kd.V_lower (Kd.V_mono (ok' := fun k_ => some k_ ≠ (.slice Ao144 y216.length co144 : Value).ownBlock ∧ some k_ ≠ (.slice Ao145 y219.length co145 : Value).ownBlock) ho0 (fun k_ hk_ => ⟨(Kd.fresh' (Kd.R_lt (by (with_reducible repeat (first | apply Kd.R_alloc | apply Kd.R_drewN | apply Kd.R_drew)); exact HO218.out)) k_ hk_), (Kd.fresh' (Kd.R_lt (by (with_reducible repeat (first | apply Kd.R_alloc | apply Kd.R_drewN | apply Kd.R_drew)); exact HO221.out)) k_ hk_)⟩)) (below_size (by repeat (first | (with_reducible first | exact HB.out | apply below_alloc | apply pw_below_drewN | apply below_drew1) | exact HB.out)))); have n3_ := Aside0.mk (below_step (by repeat (first | (with_reducible first | exact HB.out | apply below_alloc | apply pw_below_drewN | apply below_drew1) | exact HB.out)) hb); clear HO218; clear HO221; clear HB; have HO218 := n0_; have HO221 := n1_; have HO224 := n2_; have HB := n3_; clear n0_ n1_ n2_ n3_; (try clear hb); (try clear hb2); (try clear hk); (try clear hi); (try clear ho0); obtain ⟨Ao147, co147, eo147⟩ := Kd.V_slice HO224.out; subst eo147) | ((with_reducible refine gate_callee (f := 21) rfl ?_); refine goesL_ (some 20) rfl rfl Try.func21 (by kernel_rfl) rfl #[.slice Ao147 t222.length co147, .int .i64 6] rfl (by (try simp only [List.map_toArray, List.map_cons, List.map_nil]); first | done | rfl | (simp only [List.length_drop, List.length_take]; rfl)) ?_; (with_reducible refine (draw_Charge.calls k _ _ t222 6 t226 t229 _ ?side1 ?side2 A2.out).mono ?_); (case side1 => repeat (first | exact (Kd.V_reads' HO224.out).2.2 | (with_reducible refine Kd.C_alloc ?_ _) | (with_reducible refine Kd.C_drewN ?_ _) | (with_reducible refine Kd.C_drew ?_))); (case side2 => exact (Kd.V_reads' HO224.out).2.1); rintro e w148 ⟨v227, rfl, ho0, hb⟩; refine ⟨_, rfl, ?_⟩; have n0_ := Aside0.mk (Kd.R_below (by (with_reducible repeat (first | apply Kd.R_alloc | apply Kd.R_drewN | apply Kd.R_drew)); exact HO218.out) hb); have n1_ := Aside0.mk (Kd.R_below (by (with_reducible repeat (first | apply Kd.R_alloc | apply Kd.R_drewN | apply Kd.R_drew)); exact HO221.out) hb); have n2_ := Aside0.mk (Kd.V_below (by (with_reducible repeat (first | apply Kd.V_alloc | apply Kd.V_drewN | apply Kd.V_drew)); exact HO224.out) hb); have n3_ := Aside0.mk (Kd.V_lower (Kd.V_mono (ok' := fun k_ => some k_ ≠ (.slice Ao144 y216.length co144 : Value).ownBlock ∧ some k_ ≠ (.slice Ao145 y219.length co145 : Value).ownBlock) ho0 (fun k_ hk_ => ⟨(Kd.fresh' (Kd.R_lt (by (with_reducible repeat (first | apply Kd.R_alloc | apply Kd.R_drewN | apply Kd.R_drew)); exact HO218.out)) k_ hk_), (Kd.fresh' (Kd.R_lt (by (with_reducible repeat (first | apply Kd.R_alloc | apply Kd.R_drewN | apply Kd.R_drew)); exact HO221.out)) k_ hk_)⟩)) (below_size (by repeat (first | (with_reducible first | exact HB.out | apply below_alloc | apply pw_below_drewN | apply below_drew1) | exact HB.out)))); have n4_ := Aside0.mk (below_step (by repeat (first | (with_reducible first | exact HB.out | apply below_alloc | apply pw_below_drewN | apply below_drew1) | exact HB.out)) hb); clear HO218; clear HO221; clear HO224; clear HB; have HO218 := n0_; have HO221 := n1_; have HO224 := n2_; have HO228 := n3_; have HB := n4_; clear n0_ n1_ n2_ n3_ n4_; (try clear hb); (try clear hb2); (try clear hk); (try clear hi); (try clear ho0)))
    go_ret
    exact ⟨by first | rfl | (simp [errW_none, errW_some] <;> rfl) | (simp [*, errW_none, errW_some] <;> rfl), by repeat (first | (with_reducible first | exact HB.out | apply below_alloc | apply pw_below_drewN | apply below_drew1) | exact HB.out)⟩

end Go.Proofs.Ytlccomoiajnkmaa.PAll
end
section
namespace Go.Proofs.Ytlccomoiajnkmaa.PAll
open Go.RowKit Go.Proofs.YtlccomoiajnkmaaW.PrintWords Go.Proofs.YtlccomoiajnkmaaW.PrintLast Go.Proofs.YtlccomoiajnkmaaW.PrintMore
attribute [local go_sem] max2_int min2_int max_two min_two max_three min_three max_four min_four   -- for this text's walks alone
set_option linter.unusedVariables false
set_option linter.unusedSimpArgs false

/-! ### prebendlaw11_sane: function 13 -/
mutual
def prebendlaw11_sane.l0 : Nat → List (S37) → List (S37) → Int → Option ((List (S37)))
  | 0, _, _, _ => none
  | k + 1, x0, x3, x4 => if x4 < (x0.length : Int) then (prebendlaw11_sane.j1 k x0 x3 x4 (decide (x4 < 20))) else (prebendlaw11_sane.j1 k x0 x3 x4 false)
def prebendlaw11_sane.j1 : Nat → List (S37) → List (S37) → Int → Bool → Option ((List (S37)))
  | 0, _, _, _, _ => none
  | k + 1, x0, x3, x4, x13 => if x13 = true then (if 0 ≤ x4 then (if x4 < (x0.length : Int) then (if ((rd_T37 x0 x4).f0) ≥ 0 then (if ((rd_T37 x0 x4).f0) < 16 then (if ((rd_T37 x0 x4).f1) ≥ (-1152921504606846976) then (if ((rd_T37 x0 x4).f1) ≤ 1152921504606846976 then (if x3.length < 8796093022208 then (prebendlaw11_sane.l0 k x0 (x3 ++ [(⟨(rd_T37 x0 x4).f0, (rd_T37 x0 x4).f1⟩ : S37)]) (wrap64 (x4 + 1))) else (none)) else (prebendlaw11_sane.l0 k x0 x3 (wrap64 (x4 + 1)))) else (prebendlaw11_sane.l0 k x0 x3 (wrap64 (x4 + 1)))) else (prebendlaw11_sane.l0 k x0 x3 (wrap64 (x4 + 1)))) else (prebendlaw11_sane.l0 k x0 x3 (wrap64 (x4 + 1)))) else (none)) else (none)) else (some x3)
end
def prebendlaw11_sane.f (k : Nat) (l0 : List (S37)) : Option ((List (S37))) := prebendlaw11_sane.l0 k l0 (([] : List (S37))) 0
theorem prebendlaw11_sane.mono_l : ∀ k, (∀ y0 y1 y2, LeO (prebendlaw11_sane.l0 k y0 y1 y2) (prebendlaw11_sane.l0 (k + 1) y0 y1 y2)) ∧ (∀ y0 y1 y2 y3, LeO (prebendlaw11_sane.j1 k y0 y1 y2 y3) (prebendlaw11_sane.j1 (k + 1) y0 y1 y2 y3))
  | 0 => ⟨fun _ _ _ r h => by simp [prebendlaw11_sane.l0] at h, fun _ _ _ _ r h => by simp [prebendlaw11_sane.j1] at h⟩
  | k + 1 => by
    obtain ⟨ih0, ih1⟩ := prebendlaw11_sane.mono_l k
    refine ⟨?_, ?_⟩
    · intro y0 y1 y2
      unfold prebendlaw11_sane.l0
      repeat' first
      | (with_reducible exact ih0 _ _ _)
      | (with_reducible exact ih1 _ _ _ _)
      | (with_reducible exact LeO.refl _)
      | (with_reducible exact LeO.none _)
      | (with_reducible refine LeO.ite ?_ ?_)
      | (with_reducible refine LeO.bind ?_ (fun _ => ?_))
      | exact ih0 _ _ _
      | exact ih1 _ _ _ _
      | exact LeO.none _
      | refine LeO.ite ?_ ?_
      | refine LeO.bind ?_ (fun _ => ?_)
    · intro y0 y1 y2 y3
      unfold prebendlaw11_sane.j1
      repeat' first
      | (with_reducible exact ih0 _ _ _)
      | (with_reducible exact ih1 _ _ _ _)
      | (with_reducible exact LeO.refl _)
      | (with_reducible exact LeO.none _)
      | (with_reducible refine LeO.ite ?_ ?_)
      | (with_reducible refine LeO.bind ?_ (fun _ => ?_))
      | exact ih0 _ _ _
      | exact ih1 _ _ _ _
      | exact LeO.none _
      | refine LeO.ite ?_ ?_
      | refine LeO.bind ?_ (fun _ => ?_)
theorem prebendlaw11_sane.mono : ∀ a0 k, LeO (prebendlaw11_sane.f k a0) (prebendlaw11_sane.f (k + 1) a0) := by
  intro a0 k
  obtain ⟨ih0, ih1⟩ := prebendlaw11_sane.mono_l k
  unfold prebendlaw11_sane.f
  repeat' first
      | (with_reducible exact ih0 _ _ _)
      | (with_reducible exact ih1 _ _ _ _)
      | (with_reducible exact LeO.refl _)
      | (with_reducible exact LeO.none _)
      | (with_reducible refine LeO.ite ?_ ?_)
      | (with_reducible refine LeO.bind ?_ (fun _ => ?_))
      | exact ih0 _ _ _
      | exact ih1 _ _ _ _
      | exact LeO.none _
      | refine LeO.ite ?_ ?_
      | refine LeO.bind ?_ (fun _ => ?_)
set_option maxHeartbeats 8000000 in
set_option maxRecDepth 100000 in
theorem prebendlaw11_sane.calls (k : Nat) (A0 : Option Addr) (c0 : Nat) (l0 : List (S37)) (r : List (S37)) (w : World) (hr0 : Kd.C k37 w A0 l0.length l0) (hc0 : l0.length ≤ c0) (h : prebendlaw11_sane.f k l0 = some r) :
    Calls Try.prog 13 #[.slice A0 l0.length c0] w fun e w' => ∃ v0_ : Value, e = .returned (v0_) ∧ Kd.R k37 37 w' w.heap.size (fun _ => True) v0_ r ∧ Below w.heap.size w w' := by
  have hu37 := Try.underlying37
  have HR0 := Aside0.mk hr0
  have HC0 := Aside0.mk hc0
  clear hr0 hc0
  have HB := Aside0.mk (Below.refl w.heap.size w)
  have H : (prebendlaw11_sane.l0 k l0 (([] : List (S37))) 0) = some r := h
  clear h
  obtain ⟨y266, hy266⟩ : ∃ y_ : List (S37), y_ = (([] : List (S37))) := ⟨_, rfl⟩
  replace H : (prebendlaw11_sane.l0 k l0 y266 0) = some r := by first | (rw [hy266]; with_reducible exact H) | (have H2_ := (Option.bind_some _ _).symm.trans H; rw [hy266]; with_reducible exact H2_) | (have H2_ := (Option.bind_some _ _).symm.trans H; with_reducible exact H2_) | with_reducible exact H | (rw [hy266]; exact H) | exact H
  have Ny266 := Aside0.mk hy266
  clear hy266
  have H' := Aside0.mk H
  clear H
  go_enter Try.func13, Try.ntmps13
  go_wp2_with (first | ((with_reducible refine gate_dst (N := 5) rfl ?_); refine Kd.R_lit k37 _ 37 ?hg (N := 5) ?hd (xs := ([] : List (S37))) (inner := []) (ok := fun _ => True) (okp := fun _ => True) ?hr ?hp (fun _ hk => hk) trivial (Below.refl _ _) (Nat.le_refl _) (by simp) ?_; (case hd => rfl); (case hg => rfl); (case hr => first | (go_simp; done) | (go_simp; rfl)); (case hp => exact (Reps.none _ _)); intro v267 w2 ho3 hb hg_ hnew_; clear hg_ hnew_; (first | rw [← Ny266.out] at ho3 | (simp only [Int.reduceToNat] at ho3; rw [← Ny266.out] at ho3)); have n0_ := Aside0.mk (Kd.R_lower ho3 (below_size (by repeat (first | (with_reducible first | exact HB.out | apply below_alloc | apply pw_below_drewN | apply below_drew1) | exact HB.out)))); have n1_ := Aside0.mk (below_step (by repeat (first | (with_reducible first | exact HB.out | apply below_alloc | apply pw_below_drewN | apply below_drew1) | exact HB.out)) hb); clear HB; have HO268 := n0_; have HB := n1_; clear n0_ n1_; clear hb ho3))
  go_loopg [3, 4] k (fun kq v3 v4 w' => ∃ (x3_1 : List (S37)) (x4_1 : Int), v4 = .int .i64 x4_1 ∧ Aside0 (prebendlaw11_sane.l0 kq l0 x3_1 x4_1 = some r) ∧ Aside0 (kq ≤ k) ∧ Aside0 (Kd.R k37 37 w' w.heap.size (fun _ => True) v3 x3_1) ∧ Aside0 (Below w.heap.size w w'))
  case atStart => exact ⟨(y266), (0), (by first | rfl | (simp; done) | (simp [*]; done)), H', ⟨Nat.le_refl _⟩, ⟨by (with_reducible repeat (first | apply Kd.R_alloc | apply Kd.R_drewN | apply Kd.R_drew)); exact HO268.out⟩, ⟨by repeat (first | (with_reducible first | exact HB.out | apply below_alloc | apply pw_below_drewN | apply below_drew1) | exact HB.out)⟩⟩
  case round =>
    clear H'
    try clear c1
    try clear p2
    obtain ⟨x3_1, x4_1, rfl, HA, HK1, HO_3, HB⟩ := hrel
    cases gk with
    | zero => exact absurd HA.out (by simp [prebendlaw11_sane.l0])
    | succ k1 =>
      have H := HA.out
      clear HA
      simp only [prebendlaw11_sane.l0] at H
      have HC4 := Aside0.mk H
      clear H
      go_upto_region 3 with (fail)
      go_cut [13] (fun v13 wc => ∃ (kq : Nat) (x13_3 : Bool), v13 = .bool x13_3 ∧ Aside0 (prebendlaw11_sane.j1 kq l0 x3_1 x4_1 x13_3 = some r) ∧ Aside0 (kq ≤ k1) ∧ Aside0 (Kd.R k37 37 wc w.heap.size (fun _ => True) u3 x3_1) ∧ Aside0 (Below w.heap.size w wc))
      case first =>
        have H := HC4.out
        clear HC4
        by_cases c5 : x4_1 < (l0.length : Int)
        · rw [if_pos c5] at H
          have c5b0 : decide (x4_1 < (l0.length : Int)) = true := decide_eq_true c5
          clear c5
          (first | rw [c5b0] | (simp only [i64_w, i32_w]; rw [c5b0]) | skip)
          have H' := Aside0.mk H
          clear H
          go_wp2
          go_meet
          case rel => exact ⟨_, (decide (x4_1 < 20)), (by first | rfl | (simp; done) | (simp [*]; done)), H', ⟨by have := HK1.out; first | omega | exact Nat.le_refl _⟩, ⟨by (with_reducible repeat (first | apply Kd.R_alloc | apply Kd.R_drewN | apply Kd.R_drew)); exact HO_3.out⟩, ⟨by repeat (first | (with_reducible first | exact HB.out | apply below_alloc | apply pw_below_drewN | apply below_drew1) | exact HB.out)⟩⟩
        · rw [if_neg c5] at H
          have c5b0 : decide (x4_1 < (l0.length : Int)) = false := decide_eq_false c5
          clear c5
          (first | rw [c5b0] | (simp only [i64_w, i32_w]; rw [c5b0]) | skip)
          have H' := Aside0.mk H
          clear H
          go_wp2
          go_meet
          case rel => exact ⟨_, (false), (by first | rfl | (simp; done) | (simp [*]; done)), H', ⟨by have := HK1.out; first | omega | exact Nat.le_refl _⟩, ⟨by (with_reducible repeat (first | apply Kd.R_alloc | apply Kd.R_drewN | apply Kd.R_drew)); exact HO_3.out⟩, ⟨by repeat (first | (with_reducible first | exact HB.out | apply below_alloc | apply pw_below_drewN | apply below_drew1) | exact HB.out)⟩⟩
      case rest =>
        clear HC4
        try clear c1
        try clear p2
        try clear c5
        try clear c5b0
        try clear p2
        obtain ⟨kq, x13_3, rfl, HA, HJ3, HO_3, HB⟩ := hcut
        cases kq with
        | zero => exact absurd HA.out (by simp [prebendlaw11_sane.j1])
        | succ kj3 =>
          have H := HA.out
          clear HA
          simp only [prebendlaw11_sane.j1] at H
          by_cases c6 : x13_3 = true
          · subst c6
            have H1 : (if 0 ≤ x4_1 then (if x4_1 < (l0.length : Int) then (if ((rd_T37 l0 x4_1).f0) ≥ 0 then (if ((rd_T37 l0 x4_1).f0) < 16 then (if ((rd_T37 l0 x4_1).f1) ≥ (-1152921504606846976) then (if ((rd_T37 l0 x4_1).f1) ≤ 1152921504606846976 then (if x3_1.length < 8796093022208 then (prebendlaw11_sane.l0 kj3 l0 (x3_1 ++ [(⟨(rd_T37 l0 x4_1).f0, (rd_T37 l0 x4_1).f1⟩ : S37)]) (wrap64 (x4_1 + 1))) else (none)) else (prebendlaw11_sane.l0 kj3 l0 x3_1 (wrap64 (x4_1 + 1)))) else (prebendlaw11_sane.l0 kj3 l0 x3_1 (wrap64 (x4_1 + 1)))) else (prebendlaw11_sane.l0 kj3 l0 x3_1 (wrap64 (x4_1 + 1)))) else (prebendlaw11_sane.l0 kj3 l0 x3_1 (wrap64 (x4_1 + 1)))) else (none)) else (none)) = some r := by rw [if_pos rfl] at H; exact H
            clear H
            have H := H1
            clear H1
            by_cases c7 : 0 ≤ x4_1
            · rw [if_pos c7] at H
              have c7b0 : decide (0 ≤ x4_1) = true := decide_eq_true c7
              clear c7
              by_cases c8 : x4_1 < (l0.length : Int)
              · rw [if_pos c8] at H
                have c8b0 : decide (x4_1 < (l0.length : Int)) = true := decide_eq_true c8
                clear c8
                by_cases c9 : ((rd_T37 l0 x4_1).f0) ≥ 0
                · rw [if_pos c9] at H
                  have c9b0 : decide (0 ≤ ((rd_T37 l0 x4_1).f0)) = true := decide_eq_true c9
                  clear c9
                  by_cases c10 : ((rd_T37 l0 x4_1).f0) < 16
                  · rw [if_pos c10] at H
                    have c10b0 : decide (((rd_T37 l0 x4_1).f0) < 16) = true := decide_eq_true c10
                    clear c10
                    by_cases c11 : ((rd_T37 l0 x4_1).f1) ≥ (-1152921504606846976)
                    · rw [if_pos c11] at H
                      have c11b0 : decide ((-1152921504606846976) ≤ ((rd_T37 l0 x4_1).f1)) = true := decide_eq_true c11
                      clear c11
                      by_cases c12 : ((rd_T37 l0 x4_1).f1) ≤ 1152921504606846976
                      · rw [if_pos c12] at H
                        have c12b0 : decide (((rd_T37 l0 x4_1).f1) ≤ 1152921504606846976) = true := decide_eq_true c12
                        clear c12
                        by_cases c13 : x3_1.length < 8796093022208
                        · rw [if_pos c13] at H
                          have LMc13 := Aside0.mk c13
                          clear c13
                          obtain ⟨y274, hy274⟩ : ∃ y_ : List (S37), y_ = (x3_1 ++ [(⟨(rd_T37 l0 x4_1).f0, (rd_T37 l0 x4_1).f1⟩ : S37)]) := ⟨_, rfl⟩
                          replace H : (prebendlaw11_sane.l0 kj3 l0 y274 (wrap64 (x4_1 + 1))) = some r := by first | (rw [hy274]; with_reducible exact H) | (have H2_ := (Option.bind_some _ _).symm.trans H; rw [hy274]; with_reducible exact H2_) | (have H2_ := (Option.bind_some _ _).symm.trans H; with_reducible exact H2_) | with_reducible exact H | (rw [hy274]; exact H) | exact H
                          have Ny274 := Aside0.mk hy274
                          clear hy274
                          have H' := Aside0.mk H
                          clear H
                          have p269 : 0 ≤ (x4_1 : Int) := of_decide_eq_true (by first | (with_reducible assumption) | assumption)
                          have q269 : x4_1 < (l0.length : Int) := of_decide_eq_true (by first | (with_reducible assumption) | assumption)
                          obtain ⟨ad269, e269, hx269_0, hx269_1⟩ := at_T37 HR0.out x4_1 p269 q269
                          cases e269
                          replace hx269_0 := (HB.out.cell (World.block_lt_of_cell? w _ hx269_0)).trans hx269_0
                          replace hx269_1 := (HB.out.cell (World.block_lt_of_cell? w _ hx269_1)).trans hx269_1
                          replace p269 := eq_true p269
                          replace q269 := eq_true q269
                          have p270 : 0 ≤ (x4_1 : Int) := of_decide_eq_true (by first | (with_reducible assumption) | assumption)
                          have q270 : x4_1 < (l0.length : Int) := of_decide_eq_true (by first | (with_reducible assumption) | assumption)
                          obtain ⟨ad270, e270, hx270_0, hx270_1⟩ := at_T37 HR0.out x4_1 p270 q270
                          obtain rfl : ad269 = ad270 := (by injection e270)
                          replace hx270_0 := (HB.out.cell (World.block_lt_of_cell? w _ hx270_0)).trans hx270_0
                          replace hx270_1 := (HB.out.cell (World.block_lt_of_cell? w _ hx270_1)).trans hx270_1
                          replace p270 := eq_true p270
                          replace q270 := eq_true q270
                          have p271 : 0 ≤ (x4_1 : Int) := of_decide_eq_true (by first | (with_reducible assumption) | assumption)
                          have q271 : x4_1 < (l0.length : Int) := of_decide_eq_true (by first | (with_reducible assumption) | assumption)
                          obtain ⟨ad271, e271, hx271_0, hx271_1⟩ := at_T37 HR0.out x4_1 p271 q271
                          obtain rfl : ad269 = ad271 := (by injection e271)
                          replace hx271_0 := (HB.out.cell (World.block_lt_of_cell? w _ hx271_0)).trans hx271_0
                          replace hx271_1 := (HB.out.cell (World.block_lt_of_cell? w _ hx271_1)).trans hx271_1
                          replace p271 := eq_true p271
                          replace q271 := eq_true q271
                          have p272 : 0 ≤ (x4_1 : Int) := of_decide_eq_true (by first | (with_reducible assumption) | assumption)
                          have q272 : x4_1 < (l0.length : Int) := of_decide_eq_true (by first | (with_reducible assumption) | assumption)
                          obtain ⟨ad272, e272, hx272_0, hx272_1⟩ := at_T37 HR0.out x4_1 p272 q272
                          obtain rfl : ad269 = ad272 := (by injection e272)
                          replace hx272_0 := (HB.out.cell (World.block_lt_of_cell? w _ hx272_0)).trans hx272_0
                          replace hx272_1 := (HB.out.cell (World.block_lt_of_cell? w _ hx272_1)).trans hx272_1
                          replace p272 := eq_true p272
                          replace q272 := eq_true q272
                          have p273 : 0 ≤ (x4_1 : Int) := of_decide_eq_true (by first | (with_reducible assumption) | assumption)
                          have q273 : x4_1 < (l0.length : Int) := of_decide_eq_true (by first | (with_reducible assumption) | assumption)
                          obtain ⟨ad273, e273, hx273_0, hx273_1⟩ := at_T37 HR0.out x4_1 p273 q273
                          obtain rfl : ad269 = ad273 := (by injection e273)
                          replace hx273_0 := (HB.out.cell (World.block_lt_of_cell? w _ hx273_0)).trans hx273_0
                          replace hx273_1 := (HB.out.cell (World.block_lt_of_cell? w _ hx273_1)).trans hx273_1
                          replace p273 := eq_true p273
                          replace q273 := eq_true q273
                          go_wp2_with (first | ((with_reducible refine gate_builtin (b := .append) (xs := #[.tmp 46, .tmp 51]) rfl ?_); at_builtin; refine Kd.R_append k37 (w0 := w) w.heap.size rfl (.tmp 46) (.tmp 51) 26 37 (.agg #[(.int .i64 0), (.int .i64 0)]) 16 rfl Try.underlying26 info37 rfl (by decide) (by omega) u3 x3_1 (⟨(rd_T37 l0 x4_1).f0, (rd_T37 l0 x4_1).f1⟩ : S37) [.int .i64 ((rd_T37 l0 x4_1).f0), .int .i64 ((rd_T37 l0 x4_1).f1)] (fun _ => True) (fun _ => False) rfl rfl ?aP (fun _ hk => hk.elim) ?aF ?aO ?aB ?aS ?aL ?_; (case aP => exact k37_mkM _ _ _ (⟨(rd_T37 l0 x4_1).f0, (rd_T37 l0 x4_1).f1⟩ : S37)); (case aB => exact (by repeat (first | (with_reducible first | exact HB.out | apply below_alloc | apply pw_below_drewN | apply below_drew1) | exact HB.out))); (case aF => exact (fun _ _ => trivial)); (case aO => exact (by (with_reducible repeat (first | apply Kd.R_alloc | apply Kd.R_drewN | apply Kd.R_drew)); exact HO_3.out)); (case aS => exact (below_size (by repeat (first | (with_reducible first | exact HB.out | apply below_alloc | apply pw_below_drewN | apply below_drew1) | exact HB.out)))); (case aL => have := LMc13.out; omega); intro v275 w14 ho hb hg hat; rw [← Ny274.out] at ho; have n0_ := Aside0.mk (hb); have n1_ := Aside0.mk (ho); clear HB; clear HO_3; have HB := n0_; have HO276 := n1_; clear n0_ n1_; clear ho hb hg hat))
                          go_roundg kj3
                          case measure => have := HK1.out; have := HJ3.out; omega
                          case rel => exact ⟨(y274), (wrap64 (x4_1 + 1)), (by first | rfl | (simp; done) | (simp [*]; done)), H', ⟨by have := HK1.out; have := HJ3.out; omega⟩, ⟨by (with_reducible repeat (first | apply Kd.R_alloc | apply Kd.R_drewN | apply Kd.R_drew)); exact HO276.out⟩, ⟨by repeat (first | (with_reducible first | exact HB.out | apply below_alloc | apply pw_below_drewN | apply below_drew1) | exact HB.out)⟩⟩
                        · rw [if_neg c13] at H
                          exact absurd H (by simp)
                      · rw [if_neg c12] at H
                        have c12b0 : decide (((rd_T37 l0 x4_1).f1) ≤ 1152921504606846976) = false := decide_eq_false c12
                        clear c12
                        have H' := Aside0.mk H
                        clear H
                        have p269 : 0 ≤ (x4_1 : Int) := of_decide_eq_true (by first | (with_reducible assumption) | assumption)
                        have q269 : x4_1 < (l0.length : Int) := of_decide_eq_true (by first | (with_reducible assumption) | assumption)
                        obtain ⟨ad269, e269, hx269_0, hx269_1⟩ := at_T37 HR0.out x4_1 p269 q269
                        cases e269
                        replace hx269_0 := (HB.out.cell (World.block_lt_of_cell? w _ hx269_0)).trans hx269_0
                        replace hx269_1 := (HB.out.cell (World.block_lt_of_cell? w _ hx269_1)).trans hx269_1
                        replace p269 := eq_true p269
                        replace q269 := eq_true q269
                        have p270 : 0 ≤ (x4_1 : Int) := of_decide_eq_true (by first | (with_reducible assumption) | assumption)
                        have q270 : x4_1 < (l0.length : Int) := of_decide_eq_true (by first | (with_reducible assumption) | assumption)
                        obtain ⟨ad270, e270, hx270_0, hx270_1⟩ := at_T37 HR0.out x4_1 p270 q270
                        obtain rfl : ad269 = ad270 := (by injection e270)
                        replace hx270_0 := (HB.out.cell (World.block_lt_of_cell? w _ hx270_0)).trans hx270_0
                        replace hx270_1 := (HB.out.cell (World.block_lt_of_cell? w _ hx270_1)).trans hx270_1
                        replace p270 := eq_true p270
                        replace q270 := eq_true q270
                        have p271 : 0 ≤ (x4_1 : Int) := of_decide_eq_true (by first | (with_reducible assumption) | assumption)
                        have q271 : x4_1 < (l0.length : Int) := of_decide_eq_true (by first | (with_reducible assumption) | assumption)
                        obtain ⟨ad271, e271, hx271_0, hx271_1⟩ := at_T37 HR0.out x4_1 p271 q271
                        obtain rfl : ad269 = ad271 := (by injection e271)
                        replace hx271_0 := (HB.out.cell (World.block_lt_of_cell? w _ hx271_0)).trans hx271_0
                        replace hx271_1 := (HB.out.cell (World.block_lt_of_cell? w _ hx271_1)).trans hx271_1
                        replace p271 := eq_true p271
                        replace q271 := eq_true q271
                        have p272 : 0 ≤ (x4_1 : Int) := of_decide_eq_true (by first | (with_reducible assumption) | assumption)
                        have q272 : x4_1 < (l0.length : Int) := of_decide_eq_true (by first | (with_reducible assumption) | assumption)
                        obtain ⟨ad272, e272, hx272_0, hx272_1⟩ := at_T37 HR0.out x4_1 p272 q272
                        obtain rfl : ad269 = ad272 := (by injection e272)
                        replace hx272_0 := (HB.out.cell (World.block_lt_of_cell? w _ hx272_0)).trans hx272_0
                        replace hx272_1 := (HB.out.cell (World.block_lt_of_cell? w _ hx272_1)).trans hx272_1
                        replace p272 := eq_true p272
                        replace q272 := eq_true q272
                        go_wp2
                        go_roundg kj3
                        case measure => have := HK1.out; have := HJ3.out; omega
                        case rel => exact ⟨(x3_1), (wrap64 (x4_1 + 1)), (by first | rfl | (simp; done) | (simp [*]; done)), H', ⟨by have := HK1.out; have := HJ3.out; omega⟩, ⟨by (with_reducible repeat (first | apply Kd.R_alloc | apply Kd.R_drewN | apply Kd.R_drew)); exact HO_3.out⟩, ⟨by repeat (first | (with_reducible first | exact HB.out | apply below_alloc | apply pw_below_drewN | apply below_drew1) | exact HB.out)⟩⟩
                    · rw [if_neg c11] at H
                      have c11b0 : decide ((-1152921504606846976) ≤ ((rd_T37 l0 x4_1).f1)) = false := decide_eq_false c11
                      clear c11
                      have H' := Aside0.mk H
                      clear H
                      have p269 : 0 ≤ (x4_1 : Int) := of_decide_eq_true (by first | (with_reducible assumption) | assumption)
                      have q269 : x4_1 < (l0.length : Int) := of_decide_eq_true (by first | (with_reducible assumption) | assumption)
                      obtain ⟨ad269, e269, hx269_0, hx269_1⟩ := at_T37 HR0.out x4_1 p269 q269
                      cases e269
                      replace hx269_0 := (HB.out.cell (World.block_lt_of_cell? w _ hx269_0)).trans hx269_0
                      replace hx269_1 := (HB.out.cell (World.block_lt_of_cell? w _ hx269_1)).trans hx269_1
                      replace p269 := eq_true p269
                      replace q269 := eq_true q269
                      have p270 : 0 ≤ (x4_1 : Int) := of_decide_eq_true (by first | (with_reducible assumption) | assumption)
                      have q270 : x4_1 < (l0.length : Int) := of_decide_eq_true (by first | (with_reducible assumption) | assumption)
                      obtain ⟨ad270, e270, hx270_0, hx270_1⟩ := at_T37 HR0.out x4_1 p270 q270
                      obtain rfl : ad269 = ad270 := (by injection e270)
                      replace hx270_0 := (HB.out.cell (World.block_lt_of_cell? w _ hx270_0)).trans hx270_0
                      replace hx270_1 := (HB.out.cell (World.block_lt_of_cell? w _ hx270_1)).trans hx270_1
                      replace p270 := eq_true p270
                      replace q270 := eq_true q270
                      have p271 : 0 ≤ (x4_1 : Int) := of_decide_eq_true (by first | (with_reducible assumption) | assumption)
                      have q271 : x4_1 < (l0.length : Int) := of_decide_eq_true (by first | (with_reducible assumption) | assumption)
                      obtain ⟨ad271, e271, hx271_0, hx271_1⟩ := at_T37 HR0.out x4_1 p271 q271
                      obtain rfl : ad269 = ad271 := (by injection e271)
                      replace hx271_0 := (HB.out.cell (World.block_lt_of_cell? w _ hx271_0)).trans hx271_0
                      replace hx271_1 := (HB.out.cell (World.block_lt_of_cell? w _ hx271_1)).trans hx271_1
                      replace p271 := eq_true p271
                      replace q271 := eq_true q271
                      go_wp2
                      go_roundg kj3
                      case measure => have := HK1.out; have := HJ3.out; omega
                      case rel => exact ⟨(x3_1), (wrap64 (x4_1 + 1)), (by first | rfl | (simp; done) | (simp [*]; done)), H', ⟨by have := HK1.out; have := HJ3.out; omega⟩, ⟨by (with_reducible repeat (first | apply Kd.R_alloc | apply Kd.R_drewN | apply Kd.R_drew)); exact HO_3.out⟩, ⟨by repeat (first | (with_reducible first | exact HB.out | apply below_alloc | apply pw_below_drewN | apply below_drew1) | exact HB.out)⟩⟩
                  · rw [if_neg c10] at H
                    have c10b0 : decide (((rd_T37 l0 x4_1).f0) < 16) = false := decide_eq_false c10
                    clear c10
                    have H' := Aside0.mk H
                    clear H
                    have p269 : 0 ≤ (x4_1 : Int) := of_decide_eq_true (by first | (with_reducible assumption) | assumption)
                    have q269 : x4_1 < (l0.length : Int) := of_decide_eq_true (by first | (with_reducible assumption) | assumption)
                    obtain ⟨ad269, e269, hx269_0, hx269_1⟩ := at_T37 HR0.out x4_1 p269 q269
                    cases e269
                    replace hx269_0 := (HB.out.cell (World.block_lt_of_cell? w _ hx269_0)).trans hx269_0
                    replace hx269_1 := (HB.out.cell (World.block_lt_of_cell? w _ hx269_1)).trans hx269_1
                    replace p269 := eq_true p269
                    replace q269 := eq_true q269
                    have p270 : 0 ≤ (x4_1 : Int) := of_decide_eq_true (by first | (with_reducible assumption) | assumption)
                    have q270 : x4_1 < (l0.length : Int) := of_decide_eq_true (by first | (with_reducible assumption) | assumption)
                    obtain ⟨ad270, e270, hx270_0, hx270_1⟩ := at_T37 HR0.out x4_1 p270 q270
                    obtain rfl : ad269 = ad270 := (by injection e270)
                    replace hx270_0 := (HB.out.cell (World.block_lt_of_cell? w _ hx270_0)).trans hx270_0
                    replace hx270_1 := (HB.out.cell (World.block_lt_of_cell? w _ hx270_1)).trans hx270_1
                    replace p270 := eq_true p270
                    replace q270 := eq_true q270
                    go_wp2
                    go_roundg kj3
                    case measure => have := HK1.out; have := HJ3.out; omega
                    case rel => exact ⟨(x3_1), (wrap64 (x4_1 + 1)), (by first | rfl | (simp; done) | (simp [*]; done)), H', ⟨by have := HK1.out; have := HJ3.out; omega⟩, ⟨by (with_reducible repeat (first | apply Kd.R_alloc | apply Kd.R_drewN | apply Kd.R_drew)); exact HO_3.out⟩, ⟨by repeat (first | (with_reducible first | exact HB.out | apply below_alloc | apply pw_below_drewN | apply below_drew1) | exact HB.out)⟩⟩
                · rw [if_neg c9] at H
                  have c9b0 : decide (0 ≤ ((rd_T37 l0 x4_1).f0)) = false := decide_eq_false c9
                  clear c9
                  have H' := Aside0.mk H
                  clear H
                  have p269 : 0 ≤ (x4_1 : Int) := of_decide_eq_true (by first | (with_reducible assumption) | assumption)
                  have q269 : x4_1 < (l0.length : Int) := of_decide_eq_true (by first | (with_reducible assumption) | assumption)
                  obtain ⟨ad269, e269, hx269_0, hx269_1⟩ := at_T37 HR0.out x4_1 p269 q269
                  cases e269
                  replace hx269_0 := (HB.out.cell (World.block_lt_of_cell? w _ hx269_0)).trans hx269_0
                  replace hx269_1 := (HB.out.cell (World.block_lt_of_cell? w _ hx269_1)).trans hx269_1
                  replace p269 := eq_true p269
                  replace q269 := eq_true q269
                  go_wp2
                  go_roundg kj3
                  case measure => have := HK1.out; have := HJ3.out; omega
                  case rel => exact ⟨(x3_1), (wrap64 (x4_1 + 1)), (by first | rfl | (simp; done) | (simp [*]; done)), H', ⟨by have := HK1.out; have := HJ3.out; omega⟩, ⟨by (with_reducible repeat (first | apply Kd.R_alloc | apply Kd.R_drewN | apply Kd.R_drew)); exact HO_3.out⟩, ⟨by repeat (first | (with_reducible first | exact HB.out | apply below_alloc | apply pw_below_drewN | apply below_drew1) | exact HB.out)⟩⟩
              · rw [if_neg c8] at H
                exact absurd H (by simp)
            · rw [if_neg c7] at H
              exact absurd H (by simp)
          · replace c6 := Bool.eq_false_iff.mpr c6
            subst c6
            have H1 : (some x3_1) = some r := by rw [if_neg (show ¬ (false = true) by decide)] at H; exact H
            clear H
            have H := H1
            clear H1
            obtain rfl := Option.some.inj H
            go_wp2
            go_ret
            exact ⟨_, by first | rfl | (simp [errW_none, errW_some] <;> rfl) | (simp [*, errW_none, errW_some] <;> rfl), by (with_reducible repeat (first | apply Kd.R_alloc | apply Kd.R_drewN | apply Kd.R_drew)); exact HO_3.out, by repeat (first | (with_reducible first | exact HB.out | apply below_alloc | apply pw_below_drewN | apply below_drew1) | exact HB.out)⟩

end Go.Proofs.Ytlccomoiajnkmaa.PAll
end
section
namespace Go.Proofs.Ytlccomoiajnkmaa.PAll
open Go.RowKit Go.Proofs.YtlccomoiajnkmaaW.PrintWords Go.Proofs.YtlccomoiajnkmaaW.PrintLast Go.Proofs.YtlccomoiajnkmaaW.PrintMore
attribute [local go_sem] max2_int min2_int max_two min_two max_three min_three max_four min_four   -- for this text's walks alone
set_option linter.unusedVariables false
set_option linter.unusedSimpArgs false

theorem eqA64 (d : Nat) (w : World) (x0 y0 : Int) (x1 y1 : Int) :
    (Op.equalIn (d + 2) 64 (.agg #[.int .i64 x0, .int .i64 x1]) (.agg #[.int .i64 y0, .int .i64 y1])).run Try.prog w = .ok (x0 == y0 && (x1 == y1)) w := by
  refine eqA_of Try.underlying64 (by kernel_rfl) ?_
  refine eqf_cons (by rfl) (by go_simp; rfl) (by go_simp; rfl) (by go_simp) ?_
  exact eqf_last (by rfl) (by go_simp; rfl) (by go_simp; rfl) (by go_simp)
end Go.Proofs.Ytlccomoiajnkmaa.PAll
end
section
namespace Go.Proofs.Ytlccomoiajnkmaa.PAll
open Go.RowKit Go.Proofs.YtlccomoiajnkmaaW.PrintWords Go.Proofs.YtlccomoiajnkmaaW.PrintLast Go.Proofs.YtlccomoiajnkmaaW.PrintMore
attribute [local go_sem] max2_int min2_int max_two min_two max_three min_three max_four min_four   -- for this text's walks alone
set_option linter.unusedVariables false
set_option linter.unusedSimpArgs false

attribute [local go_sem high] eqA64
/-! ### prebendref11_Same: function 14 -/
def prebendref11_Same.l0 : Nat → List (S64) → List (S64) → Int → Option (Bool)
  | 0, _, _, _ => none
  | k + 1, x0, x1, x5 => if x5 < (x0.length : Int) then (if 0 ≤ x5 then (if x5 < (x1.length : Int) then (if (!(((rd_T64 x0 x5).f0) == ((rd_T64 x1 x5).f0)) || (!(((rd_T64 x0 x5).f1) == ((rd_T64 x1 x5).f1)))) = true then (some false) else (prebendref11_Same.l0 k x0 x1 (wrap64 (x5 + 1)))) else (none)) else (none)) else (some true)
def prebendref11_Same.f (k : Nat) (l0 : List (S64)) (l1 : List (S64)) : Option (Bool) := if (l0.length : Int) = (l1.length : Int) then (prebendref11_Same.l0 k l0 l1 0) else (some false)
theorem prebendref11_Same.mono_l : ∀ k, (∀ y0 y1 y2, LeO (prebendref11_Same.l0 k y0 y1 y2) (prebendref11_Same.l0 (k + 1) y0 y1 y2))
  | 0 => fun _ _ _ r h => by simp [prebendref11_Same.l0] at h
  | k + 1 => by
    have ih0 := prebendref11_Same.mono_l k
    · intro y0 y1 y2
      unfold prebendref11_Same.l0
      repeat' first
      | (with_reducible exact ih0 _ _ _)
      | (with_reducible exact LeO.refl _)
      | (with_reducible exact LeO.none _)
      | (with_reducible refine LeO.ite ?_ ?_)
      | (with_reducible refine LeO.bind ?_ (fun _ => ?_))
      | exact ih0 _ _ _
      | exact LeO.none _
      | refine LeO.ite ?_ ?_
      | refine LeO.bind ?_ (fun _ => ?_)
theorem prebendref11_Same.mono : ∀ a0 a1 k, LeO (prebendref11_Same.f k a0 a1) (prebendref11_Same.f (k + 1) a0 a1) := by
  intro a0 a1 k
  have ih0 := prebendref11_Same.mono_l k
  unfold prebendref11_Same.f
  repeat' first
      | (with_reducible exact ih0 _ _ _)
      | (with_reducible exact LeO.refl _)
      | (with_reducible exact LeO.none _)
      | (with_reducible refine LeO.ite ?_ ?_)
      | (with_reducible refine LeO.bind ?_ (fun _ => ?_))
      | exact ih0 _ _ _
      | exact LeO.none _
      | refine LeO.ite ?_ ?_
      | refine LeO.bind ?_ (fun _ => ?_)
set_option maxHeartbeats 8000000 in
set_option maxRecDepth 100000 in
theorem prebendref11_Same.calls (k : Nat) (A0 : Option Addr) (c0 : Nat) (l0 : List (S64)) (A1 : Option Addr) (c1 : Nat) (l1 : List (S64)) (r : Bool) (w : World) (hr0 : Kd.C k64 w A0 l0.length l0) (hc0 : l0.length ≤ c0) (hr1 : Kd.C k64 w A1 l1.length l1) (hc1 : l1.length ≤ c1) (h : prebendref11_Same.f k l0 l1 = some r) :
    Calls Try.prog 14 #[.slice A0 l0.length c0, .slice A1 l1.length c1] w fun e w' => e = .returned (.bool r) ∧ Drawn0 w w' := by
  have hu64 := Try.underlying64
  have HR0 := Aside0.mk hr0
  have HC0 := Aside0.mk hc0
  clear hr0 hc0
  have HR1 := Aside0.mk hr1
  have HC1 := Aside0.mk hc1
  clear hr1 hc1
  have H : (if (l0.length : Int) = (l1.length : Int) then (prebendref11_Same.l0 k l0 l1 0) else (some false)) = some r := h
  clear h
  by_cases c3 : (l0.length : Int) = (l1.length : Int)
  · rw [if_pos c3] at H
    have c3b0 : ((l0.length : Int) == (l1.length : Int)) = true := beq_iff_eq.mpr c3
    have c3b1 : ((l0.length : Int) != (l1.length : Int)) = false := bne_eq_false_iff_eq.mpr c3
    have c3b2 : (l0.length == l1.length) = true := by first | simpa using c3 | (simp at c3 ⊢; omega)
    clear c3
    have H' := Aside0.mk H
    clear H
    go_enter Try.func14, Try.ntmps14
    go_wp2
    repeat (go_quiet (fail); try go_wp2)
    go_loopg [5] k (fun kq v5 w' => ∃ (x5_1 : Int), v5 = .int .i64 x5_1 ∧ Aside0 (prebendref11_Same.l0 kq l0 l1 x5_1 = some r) ∧ Aside0 (kq ≤ k) ∧ Drawn0 w w')
    case atStart => exact ⟨(0), (by first | rfl | (simp; done) | (simp [*]; done)), H', ⟨Nat.le_refl _⟩, by repeat (first | exact Drawn0.refl _ | apply Drawn0.step)⟩
    case round =>
      clear H'
      try clear c1
      try clear p2
      try clear c3
      try clear c3b0
      try clear c3b1
      try clear c3b2
      obtain ⟨x5_1, rfl, HA, HK1, ⟨m1, rfl⟩⟩ := hrel
      cases gk with
      | zero => exact absurd HA.out (by simp [prebendref11_Same.l0])
      | succ k1 =>
        have H := HA.out
        clear HA
        simp only [prebendref11_Same.l0] at H
        by_cases c4 : x5_1 < (l0.length : Int)
        · rw [if_pos c4] at H
          have c4b0 : decide (x5_1 < (l0.length : Int)) = true := decide_eq_true c4
          clear c4
          by_cases c5 : 0 ≤ x5_1
          · rw [if_pos c5] at H
            have c5b0 : decide (0 ≤ x5_1) = true := decide_eq_true c5
            clear c5
            by_cases c6 : x5_1 < (l1.length : Int)
            · rw [if_pos c6] at H
              have c6b0 : decide (x5_1 < (l1.length : Int)) = true := decide_eq_true c6
              clear c6
              by_cases c7 : (!(((rd_T64 l0 x5_1).f0) == ((rd_T64 l1 x5_1).f0)) || (!(((rd_T64 l0 x5_1).f1) == ((rd_T64 l1 x5_1).f1)))) = true
              · rw [if_pos c7] at H
                have c7b0 : (!(((rd_T64 l0 x5_1).f0) == ((rd_T64 l1 x5_1).f0)) || (!(((rd_T64 l0 x5_1).f1) == ((rd_T64 l1 x5_1).f1)))) = true := c7
                clear c7
                obtain rfl := Option.some.inj H
                have p277 : 0 ≤ (x5_1 : Int) := of_decide_eq_true (by first | (with_reducible assumption) | assumption)
                have q277 : x5_1 < (l0.length : Int) := of_decide_eq_true (by first | (with_reducible assumption) | assumption)
                obtain ⟨ad277, e277, hx277_0, hx277_1⟩ := at_T64 HR0.out x5_1 p277 q277
                cases e277
                replace p277 := eq_true p277
                replace q277 := eq_true q277
                have p278 : 0 ≤ (x5_1 : Int) := of_decide_eq_true (by first | (with_reducible assumption) | assumption)
                have q278 : x5_1 < (l1.length : Int) := of_decide_eq_true (by first | (with_reducible assumption) | assumption)
                obtain ⟨ad278, e278, hx278_0, hx278_1⟩ := at_T64 HR1.out x5_1 p278 q278
                cases e278
                replace p278 := eq_true p278
                replace q278 := eq_true q278
                go_wp2
                repeat (go_quiet (fail); try go_wp2)
                go_ret
                exact ⟨by first | rfl | (simp; done) | (simp [*]; done), by repeat (first | exact Drawn0.refl _ | apply Drawn0.step)⟩
              · rw [if_neg c7] at H
                have c7b0 : (!(((rd_T64 l0 x5_1).f0) == ((rd_T64 l1 x5_1).f0)) || (!(((rd_T64 l0 x5_1).f1) == ((rd_T64 l1 x5_1).f1)))) = false := by simpa using c7
                clear c7
                have H' := Aside0.mk H
                clear H
                have p277 : 0 ≤ (x5_1 : Int) := of_decide_eq_true (by first | (with_reducible assumption) | assumption)
                have q277 : x5_1 < (l0.length : Int) := of_decide_eq_true (by first | (with_reducible assumption) | assumption)
                obtain ⟨ad277, e277, hx277_0, hx277_1⟩ := at_T64 HR0.out x5_1 p277 q277
                cases e277
                replace p277 := eq_true p277
                replace q277 := eq_true q277
                have p278 : 0 ≤ (x5_1 : Int) := of_decide_eq_true (by first | (with_reducible assumption) | assumption)
                have q278 : x5_1 < (l1.length : Int) := of_decide_eq_true (by first | (with_reducible assumption) | assumption)
                obtain ⟨ad278, e278, hx278_0, hx278_1⟩ := at_T64 HR1.out x5_1 p278 q278
                cases e278
                replace p278 := eq_true p278
                replace q278 := eq_true q278
                go_wp2
                repeat (go_quiet (fail); try go_wp2)
                go_roundg k1
                case measure => have := HK1.out; omega
                case rel => exact ⟨(wrap64 (x5_1 + 1)), (by first | rfl | (simp; done) | (simp [*]; done)), H', ⟨by have := HK1.out; omega⟩, by repeat (first | exact Drawn0.refl _ | apply Drawn0.step)⟩
            · rw [if_neg c6] at H
              exact absurd H (by simp)
          · rw [if_neg c5] at H
            exact absurd H (by simp)
        · rw [if_neg c4] at H
          have c4b0 : decide (x5_1 < (l0.length : Int)) = false := decide_eq_false c4
          clear c4
          obtain rfl := Option.some.inj H
          go_wp2
          repeat (go_quiet (fail); try go_wp2)
          go_ret
          exact ⟨by first | rfl | (simp; done) | (simp [*]; done), by repeat (first | exact Drawn0.refl _ | apply Drawn0.step)⟩
  · rw [if_neg c3] at H
    have c3b0 : ((l0.length : Int) == (l1.length : Int)) = false := beq_eq_false_iff_ne.mpr c3
    have c3b1 : ((l0.length : Int) != (l1.length : Int)) = true := bne_iff_ne.mpr c3
    have c3b2 : (l0.length == l1.length) = false := by first | simpa using c3 | (simp at c3 ⊢; omega)
    obtain rfl := Option.some.inj H
    go_enter Try.func14, Try.ntmps14
    go_wp2
    repeat (go_quiet (fail); try go_wp2)
    go_ret
    exact ⟨by first | rfl | (simp; done) | (simp [*]; done), by repeat (first | exact Drawn0.refl _ | apply Drawn0.step)⟩

end Go.Proofs.Ytlccomoiajnkmaa.PAll
end
