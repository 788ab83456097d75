/- Words, plain functions and contracts of the functions that the law of this claim reaches; no conditions. -/
import Derived.Test.YtlccomoiajnkmaaBDrawLegs2
section
namespace Go.Proofs.Ytlccomoiajnkmaa.PAll
open Go.RowKit Go.Proofs.YtlccomoiajnkmaaW.PrintWords Go.Proofs.YtlccomoiajnkmaaW.PrintLast Go.Proofs.YtlccomoiajnkmaaW.PrintMore
attribute [local go_sem] max2_int min2_int max_two min_two max_three min_three max_four min_four   -- for this text's walks alone
set_option linter.unusedVariables false
set_option linter.unusedSimpArgs false

/-! ### prebendref11_Legs: function 16 -/
def prebendref11_Legs.l0 : Nat → List (S37) → List (S37) → Int → Int → Int → List (S64) → Int → Option ((List (S64)))
  | 0, _, _, _, _, _, _, _ => none
  | k + 1, x0, x1, x2, x3, x4, x11, x12 => if x12 < (x0.length : Int) then (if 0 ≤ x12 then (if ((rd_T37 x0 x12).f1) = 0 then (prebendref11_Legs.l0 k x0 x1 x2 x3 x4 x11 (wrap64 (x12 + 1))) else (if x12 < (x1.length : Int) then (if x11.length < 8796093022208 then ((some (x11 ++ [(⟨wrap64 (x2 + (wrap64 (3 * ((rd_T37 x0 x12).f0)))), wrap64 (-((rd_T37 x0 x12).f1))⟩ : S64)] : List (S64))).bind fun y285 => (if ((rd_T37 x1 x12).f1) = 0 then (if (wrap64 (((rd_T37 x0 x12).f1) - ((rd_T37 x1 x12).f1))) = 0 then (prebendref11_Legs.l0 k x0 x1 x2 x3 x4 y285 (wrap64 (x12 + 1))) else (if y285.length < 8796093022208 then (prebendref11_Legs.l0 k x0 x1 x2 x3 x4 (y285 ++ [(⟨wrap64 (x4 + (wrap64 (3 * ((rd_T37 x0 x12).f0)))), wrap64 (((rd_T37 x0 x12).f1) - ((rd_T37 x1 x12).f1))⟩ : S64)]) (wrap64 (x12 + 1))) else (none))) else (if y285.length < 8796093022208 then ((some (y285 ++ [(⟨wrap64 (x3 + (wrap64 (3 * ((rd_T37 x0 x12).f0)))), (rd_T37 x1 x12).f1⟩ : S64)] : List (S64))).bind fun y291 => (if (wrap64 (((rd_T37 x0 x12).f1) - ((rd_T37 x1 x12).f1))) = 0 then (prebendref11_Legs.l0 k x0 x1 x2 x3 x4 y291 (wrap64 (x12 + 1))) else (if y291.length < 8796093022208 then (prebendref11_Legs.l0 k x0 x1 x2 x3 x4 (y291 ++ [(⟨wrap64 (x4 + (wrap64 (3 * ((rd_T37 x0 x12).f0)))), wrap64 (((rd_T37 x0 x12).f1) - ((rd_T37 x1 x12).f1))⟩ : S64)]) (wrap64 (x12 + 1))) else (none)))) else (none)))) else (none)) else (none))) else (none)) else (some x11)
def prebendref11_Legs.f (k : Nat) (l0 : List (S37)) (l1 : List (S37)) (a2 : Int) (a3 : Int) (a4 : Int) : Option ((List (S64))) := prebendref11_Legs.l0 k l0 l1 a2 a3 a4 (([] : List (S64))) 0
theorem prebendref11_Legs.mono_l : ∀ k, (∀ y0 y1 y2 y3 y4 y5 y6, LeO (prebendref11_Legs.l0 k y0 y1 y2 y3 y4 y5 y6) (prebendref11_Legs.l0 (k + 1) y0 y1 y2 y3 y4 y5 y6))
  | 0 => fun _ _ _ _ _ _ _ r h => by simp [prebendref11_Legs.l0] at h
  | k + 1 => by
    have ih0 := prebendref11_Legs.mono_l k
    · intro y0 y1 y2 y3 y4 y5 y6
      unfold prebendref11_Legs.l0
      repeat' first
      | (with_reducible exact ih0 _ _ _ _ _ _ _)
      | (with_reducible exact LeO.refl _)
      | (with_reducible exact LeO.none _)
      | (with_reducible refine LeO.ite ?_ ?_)
      | (with_reducible refine LeO.bind ?_ (fun _ => ?_))
      | exact ih0 _ _ _ _ _ _ _
      | exact LeO.none _
      | refine LeO.ite ?_ ?_
      | refine LeO.bind ?_ (fun _ => ?_)
theorem prebendref11_Legs.mono : ∀ a0 a1 a2 a3 a4 k, LeO (prebendref11_Legs.f k a0 a1 a2 a3 a4) (prebendref11_Legs.f (k + 1) a0 a1 a2 a3 a4) := by
  intro a0 a1 a2 a3 a4 k
  have ih0 := prebendref11_Legs.mono_l k
  unfold prebendref11_Legs.f
  repeat' first
      | (with_reducible exact ih0 _ _ _ _ _ _ _)
      | (with_reducible exact LeO.refl _)
      | (with_reducible exact LeO.none _)
      | (with_reducible refine LeO.ite ?_ ?_)
      | (with_reducible refine LeO.bind ?_ (fun _ => ?_))
      | exact ih0 _ _ _ _ _ _ _
      | exact LeO.none _
      | refine LeO.ite ?_ ?_
      | refine LeO.bind ?_ (fun _ => ?_)
set_option maxHeartbeats 8000000 in
set_option maxRecDepth 100000 in
theorem prebendref11_Legs.calls (k : Nat) (A0 : Option Addr) (c0 : Nat) (l0 : List (S37)) (A1 : Option Addr) (c1 : Nat) (l1 : List (S37)) (a2 : Int) (a3 : Int) (a4 : Int) (r : List (S64)) (w : World) (hr0 : Kd.C k37 w A0 l0.length l0) (hc0 : l0.length ≤ c0) (hr1 : Kd.C k37 w A1 l1.length l1) (hc1 : l1.length ≤ c1) (h : prebendref11_Legs.f k l0 l1 a2 a3 a4 = some r) :
    Calls Try.prog 16 #[.slice A0 l0.length c0, .slice A1 l1.length c1, .int .i64 a2, .int .i64 a3, .int .i64 a4] w fun e w' => ∃ v0_ : Value, e = .returned (v0_) ∧ Kd.R k64 64 w' w.heap.size (fun _ => True) v0_ r ∧ Below w.heap.size w w' := by
  have hu64 := Try.underlying64
  have HR0 := Aside0.mk hr0
  have HC0 := Aside0.mk hc0
  clear hr0 hc0
  have HR1 := Aside0.mk hr1
  have HC1 := Aside0.mk hc1
  clear hr1 hc1
  have HB := Aside0.mk (Below.refl w.heap.size w)
  have H : (prebendref11_Legs.l0 k l0 l1 a2 a3 a4 (([] : List (S64))) 0) = some r := h
  clear h
  obtain ⟨y279, hy279⟩ : ∃ y_ : List (S64), y_ = (([] : List (S64))) := ⟨_, rfl⟩
  replace H : (prebendref11_Legs.l0 k l0 l1 a2 a3 a4 y279 0) = some r := by first | (rw [hy279]; with_reducible exact H) | (have H2_ := (Option.bind_some _ _).symm.trans H; rw [hy279]; with_reducible exact H2_) | (have H2_ := (Option.bind_some _ _).symm.trans H; with_reducible exact H2_) | with_reducible exact H | (rw [hy279]; exact H) | exact H
  have Ny279 := Aside0.mk hy279
  clear hy279
  have H' := Aside0.mk H
  clear H
  go_enter Try.func16, Try.ntmps16
  go_wp2_with (first | ((with_reducible refine gate_dst (N := 16) rfl ?_); refine Kd.R_lit k64 _ 64 ?hg (N := 16) ?hd (xs := ([] : List (S64))) (inner := []) (ok := fun _ => True) (okp := fun _ => True) ?hr ?hp (fun _ hk => hk) trivial (Below.refl _ _) (Nat.le_refl _) (by simp) ?_; (case hd => rfl); (case hg => rfl); (case hr => first | (go_simp; done) | (go_simp; rfl)); (case hp => exact (Reps.none _ _)); intro v280 w6 ho7 hb hg_ hnew_; clear hg_ hnew_; (first | rw [← Ny279.out] at ho7 | (simp only [Int.reduceToNat] at ho7; rw [← Ny279.out] at ho7)); have n0_ := Aside0.mk (Kd.R_lower ho7 (below_size (by repeat (first | (with_reducible first | exact HB.out | apply below_alloc | apply pw_below_drewN | apply below_drew1) | exact HB.out)))); have n1_ := Aside0.mk (below_step (by repeat (first | (with_reducible first | exact HB.out | apply below_alloc | apply pw_below_drewN | apply below_drew1) | exact HB.out)) hb); clear HB; have HO281 := n0_; have HB := n1_; clear n0_ n1_; clear hb ho7))
  repeat (go_quiet (first | ((with_reducible refine gate_dst (N := 16) rfl ?_); refine Kd.R_lit k64 _ 64 ?hg (N := 16) ?hd (xs := ([] : List (S64))) (inner := []) (ok := fun _ => True) (okp := fun _ => True) ?hr ?hp (fun _ hk => hk) trivial (Below.refl _ _) (Nat.le_refl _) (by simp) ?_; (case hd => rfl); (case hg => rfl); (case hr => first | (go_simp; done) | (go_simp; rfl)); (case hp => exact (Reps.none _ _)); intro v280 w6 ho7 hb hg_ hnew_; clear hg_ hnew_; (first | rw [← Ny279.out] at ho7 | (simp only [Int.reduceToNat] at ho7; rw [← Ny279.out] at ho7)); have n0_ := Aside0.mk (Kd.R_lower ho7 (below_size (by repeat (first | (with_reducible first | exact HB.out | apply below_alloc | apply pw_below_drewN | apply below_drew1) | exact HB.out)))); have n1_ := Aside0.mk (below_step (by repeat (first | (with_reducible first | exact HB.out | apply below_alloc | apply pw_below_drewN | apply below_drew1) | exact HB.out)) hb); clear HB; have HO281 := n0_; have HB := n1_; clear n0_ n1_; clear hb ho7)); try go_wp2_with (first | ((with_reducible refine gate_dst (N := 16) rfl ?_); refine Kd.R_lit k64 _ 64 ?hg (N := 16) ?hd (xs := ([] : List (S64))) (inner := []) (ok := fun _ => True) (okp := fun _ => True) ?hr ?hp (fun _ hk => hk) trivial (Below.refl _ _) (Nat.le_refl _) (by simp) ?_; (case hd => rfl); (case hg => rfl); (case hr => first | (go_simp; done) | (go_simp; rfl)); (case hp => exact (Reps.none _ _)); intro v280 w6 ho7 hb hg_ hnew_; clear hg_ hnew_; (first | rw [← Ny279.out] at ho7 | (simp only [Int.reduceToNat] at ho7; rw [← Ny279.out] at ho7)); have n0_ := Aside0.mk (Kd.R_lower ho7 (below_size (by repeat (first | (with_reducible first | exact HB.out | apply below_alloc | apply pw_below_drewN | apply below_drew1) | exact HB.out)))); have n1_ := Aside0.mk (below_step (by repeat (first | (with_reducible first | exact HB.out | apply below_alloc | apply pw_below_drewN | apply below_drew1) | exact HB.out)) hb); clear HB; have HO281 := n0_; have HB := n1_; clear n0_ n1_; clear hb ho7)))
  go_loopg [11, 12] k (fun kq v11 v12 w' => ∃ (x11_1 : List (S64)) (x12_1 : Int), v12 = .int .i64 x12_1 ∧ Aside0 (prebendref11_Legs.l0 kq l0 l1 a2 a3 a4 x11_1 x12_1 = some r) ∧ Aside0 (kq ≤ k) ∧ Aside0 (Kd.R k64 64 w' w.heap.size (fun _ => True) v11 x11_1) ∧ Aside0 (Below w.heap.size w w'))
  case atStart => exact ⟨(y279), (0), (by first | rfl | (simp; done) | (simp [*]; done)), H', ⟨Nat.le_refl _⟩, ⟨by (with_reducible repeat (first | apply Kd.R_alloc | apply Kd.R_drewN | apply Kd.R_drew)); exact HO281.out⟩, ⟨by repeat (first | (with_reducible first | exact HB.out | apply below_alloc | apply pw_below_drewN | apply below_drew1) | exact HB.out)⟩⟩
  case round =>
    clear H'
    try clear c1
    try clear p2
    obtain ⟨x11_1, x12_1, rfl, HA, HK1, HO_11, HB⟩ := hrel
    cases gk with
    | zero => exact absurd HA.out (by simp [prebendref11_Legs.l0])
    | succ k1 =>
      have H := HA.out
      clear HA
      simp only [prebendref11_Legs.l0] at H
      by_cases c8 : x12_1 < (l0.length : Int)
      · rw [if_pos c8] at H
        have c8b0 : decide (x12_1 < (l0.length : Int)) = true := decide_eq_true c8
        clear c8
        by_cases c9 : 0 ≤ x12_1
        · rw [if_pos c9] at H
          have c9b0 : decide (0 ≤ x12_1) = true := decide_eq_true c9
          clear c9
          by_cases c10 : ((rd_T37 l0 x12_1).f1) = 0
          · rw [if_pos c10] at H
            have c10b0 : (((rd_T37 l0 x12_1).f1) == 0) = true := beq_iff_eq.mpr c10
            have c10b1 : (((rd_T37 l0 x12_1).f1) != 0) = false := bne_eq_false_iff_eq.mpr c10
            clear c10
            have H' := Aside0.mk H
            clear H
            have p282 : 0 ≤ (x12_1 : Int) := of_decide_eq_true (by first | (with_reducible assumption) | assumption)
            have q282 : x12_1 < (l0.length : Int) := of_decide_eq_true (by first | (with_reducible assumption) | assumption)
            obtain ⟨ad282, e282, hx282_0, hx282_1⟩ := at_T37 HR0.out x12_1 p282 q282
            cases e282
            replace hx282_0 := (HB.out.cell (World.block_lt_of_cell? w _ hx282_0)).trans hx282_0
            replace hx282_1 := (HB.out.cell (World.block_lt_of_cell? w _ hx282_1)).trans hx282_1
            replace p282 := eq_true p282
            replace q282 := eq_true q282
            have p283 : 0 ≤ (x12_1 : Int) := of_decide_eq_true (by first | (with_reducible assumption) | assumption)
            have q283 : x12_1 < (l0.length : Int) := of_decide_eq_true (by first | (with_reducible assumption) | assumption)
            obtain ⟨ad283, e283, hx283_0, hx283_1⟩ := at_T37 HR0.out x12_1 p283 q283
            obtain rfl : ad282 = ad283 := (by injection e283)
            replace hx283_0 := (HB.out.cell (World.block_lt_of_cell? w _ hx283_0)).trans hx283_0
            replace hx283_1 := (HB.out.cell (World.block_lt_of_cell? w _ hx283_1)).trans hx283_1
            replace p283 := eq_true p283
            replace q283 := eq_true q283
            go_wp2
            repeat (go_quiet (fail); try go_wp2)
            go_roundg k1
            case measure => have := HK1.out; omega
            case rel => exact ⟨(x11_1), (wrap64 (x12_1 + 1)), (by first | rfl | (simp; done) | (simp [*]; done)), H', ⟨by have := HK1.out; omega⟩, ⟨by (with_reducible repeat (first | apply Kd.R_alloc | apply Kd.R_drewN | apply Kd.R_drew)); exact HO_11.out⟩, ⟨by repeat (first | (with_reducible first | exact HB.out | apply below_alloc | apply pw_below_drewN | apply below_drew1) | exact HB.out)⟩⟩
          · rw [if_neg c10] at H
            have c10b0 : (((rd_T37 l0 x12_1).f1) == 0) = false := beq_eq_false_iff_ne.mpr c10
            have c10b1 : (((rd_T37 l0 x12_1).f1) != 0) = true := bne_iff_ne.mpr c10
            by_cases c11 : x12_1 < (l1.length : Int)
            · rw [if_pos c11] at H
              have c11b0 : decide (x12_1 < (l1.length : Int)) = true := decide_eq_true c11
              clear c11
              by_cases c12 : x11_1.length < 8796093022208
              · rw [if_pos c12] at H
                have LMc12 := Aside0.mk c12
                clear c12
                obtain ⟨y285, hy285⟩ : ∃ y_ : List (S64), y_ = (x11_1 ++ [(⟨wrap64 (a2 + (wrap64 (3 * ((rd_T37 l0 x12_1).f0)))), wrap64 (-((rd_T37 l0 x12_1).f1))⟩ : S64)]) := ⟨_, rfl⟩
                replace H : (if ((rd_T37 l1 x12_1).f1) = 0 then (if (wrap64 (((rd_T37 l0 x12_1).f1) - ((rd_T37 l1 x12_1).f1))) = 0 then (prebendref11_Legs.l0 k1 l0 l1 a2 a3 a4 y285 (wrap64 (x12_1 + 1))) else (if y285.length < 8796093022208 then (prebendref11_Legs.l0 k1 l0 l1 a2 a3 a4 (y285 ++ [(⟨wrap64 (a4 + (wrap64 (3 * ((rd_T37 l0 x12_1).f0)))), wrap64 (((rd_T37 l0 x12_1).f1) - ((rd_T37 l1 x12_1).f1))⟩ : S64)]) (wrap64 (x12_1 + 1))) else (none))) else (if y285.length < 8796093022208 then ((some (y285 ++ [(⟨wrap64 (a3 + (wrap64 (3 * ((rd_T37 l0 x12_1).f0)))), (rd_T37 l1 x12_1).f1⟩ : S64)] : List (S64))).bind fun y291 => (if (wrap64 (((rd_T37 l0 x12_1).f1) - ((rd_T37 l1 x12_1).f1))) = 0 then (prebendref11_Legs.l0 k1 l0 l1 a2 a3 a4 y291 (wrap64 (x12_1 + 1))) else (if y291.length < 8796093022208 then (prebendref11_Legs.l0 k1 l0 l1 a2 a3 a4 (y291 ++ [(⟨wrap64 (a4 + (wrap64 (3 * ((rd_T37 l0 x12_1).f0)))), wrap64 (((rd_T37 l0 x12_1).f1) - ((rd_T37 l1 x12_1).f1))⟩ : S64)]) (wrap64 (x12_1 + 1))) else (none)))) else (none))) = some r := by first | (rw [hy285]; with_reducible exact H) | (have H2_ := (Option.bind_some _ _).symm.trans H; rw [hy285]; with_reducible exact H2_) | (have H2_ := (Option.bind_some _ _).symm.trans H; with_reducible exact H2_) | with_reducible exact H | (rw [hy285]; exact H) | exact H
                have Ny285 := Aside0.mk hy285
                clear hy285
                by_cases c13 : ((rd_T37 l1 x12_1).f1) = 0
                · rw [if_pos c13] at H
                  have c13b0 : (((rd_T37 l1 x12_1).f1) == 0) = true := beq_iff_eq.mpr c13
                  have c13b1 : (((rd_T37 l1 x12_1).f1) != 0) = false := bne_eq_false_iff_eq.mpr c13
                  clear c13
                  by_cases c14 : (wrap64 (((rd_T37 l0 x12_1).f1) - ((rd_T37 l1 x12_1).f1))) = 0
                  · rw [if_pos c14] at H
                    have c14b0 : ((wrap64 (((rd_T37 l0 x12_1).f1) - ((rd_T37 l1 x12_1).f1))) == 0) = true := beq_iff_eq.mpr c14
                    have c14b1 : ((wrap64 (((rd_T37 l0 x12_1).f1) - ((rd_T37 l1 x12_1).f1))) != 0) = false := bne_eq_false_iff_eq.mpr c14
                    clear c14
                    have H' := Aside0.mk H
                    clear H
                    have p282 : 0 ≤ (x12_1 : Int) := of_decide_eq_true (by first | (with_reducible assumption) | assumption)
                    have q282 : x12_1 < (l0.length : Int) := of_decide_eq_true (by first | (with_reducible assumption) | assumption)
                    obtain ⟨ad282, e282, hx282_0, hx282_1⟩ := at_T37 HR0.out x12_1 p282 q282
                    cases e282
                    replace hx282_0 := (HB.out.cell (World.block_lt_of_cell? w _ hx282_0)).trans hx282_0
                    replace hx282_1 := (HB.out.cell (World.block_lt_of_cell? w _ hx282_1)).trans hx282_1
                    replace p282 := eq_true p282
                    replace q282 := eq_true q282
                    have p283 : 0 ≤ (x12_1 : Int) := of_decide_eq_true (by first | (with_reducible assumption) | assumption)
                    have q283 : x12_1 < (l0.length : Int) := of_decide_eq_true (by first | (with_reducible assumption) | assumption)
                    obtain ⟨ad283, e283, hx283_0, hx283_1⟩ := at_T37 HR0.out x12_1 p283 q283
                    obtain rfl : ad282 = ad283 := (by injection e283)
                    replace hx283_0 := (HB.out.cell (World.block_lt_of_cell? w _ hx283_0)).trans hx283_0
                    replace hx283_1 := (HB.out.cell (World.block_lt_of_cell? w _ hx283_1)).trans hx283_1
                    replace p283 := eq_true p283
                    replace q283 := eq_true q283
                    have p284 : 0 ≤ (x12_1 : Int) := of_decide_eq_true (by first | (with_reducible assumption) | assumption)
                    have q284 : x12_1 < (l1.length : Int) := of_decide_eq_true (by first | (with_reducible assumption) | assumption)
                    obtain ⟨ad284, e284, hx284_0, hx284_1⟩ := at_T37 HR1.out x12_1 p284 q284
                    cases e284
                    replace hx284_0 := (HB.out.cell (World.block_lt_of_cell? w _ hx284_0)).trans hx284_0
                    replace hx284_1 := (HB.out.cell (World.block_lt_of_cell? w _ hx284_1)).trans hx284_1
                    replace p284 := eq_true p284
                    replace q284 := eq_true q284
                    go_wp2_with (first | ((with_reducible refine gate_builtin (b := .append) (xs := #[.tmp 40, .tmp 48]) rfl ?_); at_builtin; refine Kd.R_append k64 (w0 := w) w.heap.size rfl (.tmp 40) (.tmp 48) 39 64 (.agg #[(.int .i64 0), (.int .i64 0)]) 16 rfl Try.underlying39 info64 rfl (by decide) (by omega) u11 x11_1 (⟨wrap64 (a2 + (wrap64 (3 * ((rd_T37 l0 x12_1).f0)))), wrap64 (-((rd_T37 l0 x12_1).f1))⟩ : S64) [.int .i64 (wrap64 (a2 + (wrap64 (3 * ((rd_T37 l0 x12_1).f0))))), .int .i64 (wrap64 (-((rd_T37 l0 x12_1).f1)))] (fun _ => True) (fun _ => False) rfl rfl ?aP (fun _ hk => hk.elim) ?aF ?aO ?aB ?aS ?aL ?_; (case aP => exact k64_mkM _ _ _ (⟨wrap64 (a2 + (wrap64 (3 * ((rd_T37 l0 x12_1).f0)))), wrap64 (-((rd_T37 l0 x12_1).f1))⟩ : S64)); (case aB => exact (by repeat (first | (with_reducible first | exact HB.out | apply below_alloc | apply pw_below_drewN | apply below_drew1) | exact HB.out))); (case aF => exact (fun _ _ => trivial)); (case aO => exact (by (with_reducible repeat (first | apply Kd.R_alloc | apply Kd.R_drewN | apply Kd.R_drew)); exact HO_11.out)); (case aS => exact (below_size (by repeat (first | (with_reducible first | exact HB.out | apply below_alloc | apply pw_below_drewN | apply below_drew1) | exact HB.out)))); (case aL => have := LMc12.out; omega); intro v286 w15 ho hb hg hat; rw [← Ny285.out] at ho; have n0_ := Aside0.mk (hb); have n1_ := Aside0.mk (ho); clear HB; clear HO_11; have HB := n0_; have HO287 := n1_; clear n0_ n1_; clear ho hb hg hat))
                    repeat (go_quiet (first | ((with_reducible refine gate_builtin (b := .append) (xs := #[.tmp 40, .tmp 48]) rfl ?_); at_builtin; refine Kd.R_append k64 (w0 := w) w.heap.size rfl (.tmp 40) (.tmp 48) 39 64 (.agg #[(.int .i64 0), (.int .i64 0)]) 16 rfl Try.underlying39 info64 rfl (by decide) (by omega) u11 x11_1 (⟨wrap64 (a2 + (wrap64 (3 * ((rd_T37 l0 x12_1).f0)))), wrap64 (-((rd_T37 l0 x12_1).f1))⟩ : S64) [.int .i64 (wrap64 (a2 + (wrap64 (3 * ((rd_T37 l0 x12_1).f0))))), .int .i64 (wrap64 (-((rd_T37 l0 x12_1).f1)))] (fun _ => True) (fun _ => False) rfl rfl ?aP (fun _ hk => hk.elim) ?aF ?aO ?aB ?aS ?aL ?_; (case aP => exact k64_mkM _ _ _ (⟨wrap64 (a2 + (wrap64 (3 * ((rd_T37 l0 x12_1).f0)))), wrap64 (-((rd_T37 l0 x12_1).f1))⟩ : S64)); (case aB => exact (by repeat (first | (with_reducible first | exact HB.out | apply below_alloc | apply pw_below_drewN | apply below_drew1) | exact HB.out))); (case aF => exact (fun _ _ => trivial)); (case aO => exact (by (with_reducible repeat (first | apply Kd.R_alloc | apply Kd.R_drewN | apply Kd.R_drew)); exact HO_11.out)); (case aS => exact (below_size (by repeat (first | (with_reducible first | exact HB.out | apply below_alloc | apply pw_below_drewN | apply below_drew1) | exact HB.out)))); (case aL => have := LMc12.out; omega); intro v286 w15 ho hb hg hat; rw [← Ny285.out] at ho; have n0_ := Aside0.mk (hb); have n1_ := Aside0.mk (ho); clear HB; clear HO_11; have HB := n0_; have HO287 := n1_; clear n0_ n1_; clear ho hb hg hat)); try go_wp2_with (first | ((with_reducible refine gate_builtin (b := .append) (xs := #[.tmp 40, .tmp 48]) rfl ?_); at_builtin; refine Kd.R_append k64 (w0 := w) w.heap.size rfl (.tmp 40) (.tmp 48) 39 64 (.agg #[(.int .i64 0), (.int .i64 0)]) 16 rfl Try.underlying39 info64 rfl (by decide) (by omega) u11 x11_1 (⟨wrap64 (a2 + (wrap64 (3 * ((rd_T37 l0 x12_1).f0)))), wrap64 (-((rd_T37 l0 x12_1).f1))⟩ : S64) [.int .i64 (wrap64 (a2 + (wrap64 (3 * ((rd_T37 l0 x12_1).f0))))), .int .i64 (wrap64 (-((rd_T37 l0 x12_1).f1)))] (fun _ => True) (fun _ => False) rfl rfl ?aP (fun _ hk => hk.elim) ?aF ?aO ?aB ?aS ?aL ?_; (case aP => exact k64_mkM _ _ _ (⟨wrap64 (a2 + (wrap64 (3 * ((rd_T37 l0 x12_1).f0)))), wrap64 (-((rd_T37 l0 x12_1).f1))⟩ : S64)); (case aB => exact (by repeat (first | (with_reducible first | exact HB.out | apply below_alloc | apply pw_below_drewN | apply below_drew1) | exact HB.out))); (case aF => exact (fun _ _ => trivial)); (case aO => exact (by (with_reducible repeat (first | apply Kd.R_alloc | apply Kd.R_drewN | apply Kd.R_drew)); exact HO_11.out)); (case aS => exact (below_size (by repeat (first | (with_reducible first | exact HB.out | apply below_alloc | apply pw_below_drewN | apply below_drew1) | exact HB.out)))); (case aL => have := LMc12.out; omega); intro v286 w15 ho hb hg hat; rw [← Ny285.out] at ho; have n0_ := Aside0.mk (hb); have n1_ := Aside0.mk (ho); clear HB; clear HO_11; have HB := n0_; have HO287 := n1_; clear n0_ n1_; clear ho hb hg hat)))
                    go_roundg k1
                    case measure => have := HK1.out; omega
                    case rel => exact ⟨(y285), (wrap64 (x12_1 + 1)), (by first | rfl | (simp; done) | (simp [*]; done)), H', ⟨by have := HK1.out; omega⟩, ⟨by (with_reducible repeat (first | apply Kd.R_alloc | apply Kd.R_drewN | apply Kd.R_drew)); exact HO287.out⟩, ⟨by repeat (first | (with_reducible first | exact HB.out | apply below_alloc | apply pw_below_drewN | apply below_drew1) | exact HB.out)⟩⟩
                  · rw [if_neg c14] at H
                    have c14b0 : ((wrap64 (((rd_T37 l0 x12_1).f1) - ((rd_T37 l1 x12_1).f1))) == 0) = false := beq_eq_false_iff_ne.mpr c14
                    have c14b1 : ((wrap64 (((rd_T37 l0 x12_1).f1) - ((rd_T37 l1 x12_1).f1))) != 0) = true := bne_iff_ne.mpr c14
                    by_cases c16 : y285.length < 8796093022208
                    · rw [if_pos c16] at H
                      have LMc16 := Aside0.mk c16
                      clear c16
                      obtain ⟨y288, hy288⟩ : ∃ y_ : List (S64), y_ = (y285 ++ [(⟨wrap64 (a4 + (wrap64 (3 * ((rd_T37 l0 x12_1).f0)))), wrap64 (((rd_T37 l0 x12_1).f1) - ((rd_T37 l1 x12_1).f1))⟩ : S64)]) := ⟨_, rfl⟩
                      replace H : (prebendref11_Legs.l0 k1 l0 l1 a2 a3 a4 y288 (wrap64 (x12_1 + 1))) = some r := by first | (rw [hy288]; with_reducible exact H) | (have H2_ := (Option.bind_some _ _).symm.trans H; rw [hy288]; with_reducible exact H2_) | (have H2_ := (Option.bind_some _ _).symm.trans H; with_reducible exact H2_) | with_reducible exact H | (rw [hy288]; exact H) | exact H
                      have Ny288 := Aside0.mk hy288
                      clear hy288
                      have H' := Aside0.mk H
                      clear H
                      have p282 : 0 ≤ (x12_1 : Int) := of_decide_eq_true (by first | (with_reducible assumption) | assumption)
                      have q282 : x12_1 < (l0.length : Int) := of_decide_eq_true (by first | (with_reducible assumption) | assumption)
                      obtain ⟨ad282, e282, hx282_0, hx282_1⟩ := at_T37 HR0.out x12_1 p282 q282
                      cases e282
                      replace hx282_0 := (HB.out.cell (World.block_lt_of_cell? w _ hx282_0)).trans hx282_0
                      replace hx282_1 := (HB.out.cell (World.block_lt_of_cell? w _ hx282_1)).trans hx282_1
                      replace p282 := eq_true p282
                      replace q282 := eq_true q282
                      have p283 : 0 ≤ (x12_1 : Int) := of_decide_eq_true (by first | (with_reducible assumption) | assumption)
                      have q283 : x12_1 < (l0.length : Int) := of_decide_eq_true (by first | (with_reducible assumption) | assumption)
                      obtain ⟨ad283, e283, hx283_0, hx283_1⟩ := at_T37 HR0.out x12_1 p283 q283
                      obtain rfl : ad282 = ad283 := (by injection e283)
                      replace hx283_0 := (HB.out.cell (World.block_lt_of_cell? w _ hx283_0)).trans hx283_0
                      replace hx283_1 := (HB.out.cell (World.block_lt_of_cell? w _ hx283_1)).trans hx283_1
                      replace p283 := eq_true p283
                      replace q283 := eq_true q283
                      have p284 : 0 ≤ (x12_1 : Int) := of_decide_eq_true (by first | (with_reducible assumption) | assumption)
                      have q284 : x12_1 < (l1.length : Int) := of_decide_eq_true (by first | (with_reducible assumption) | assumption)
                      obtain ⟨ad284, e284, hx284_0, hx284_1⟩ := at_T37 HR1.out x12_1 p284 q284
                      cases e284
                      replace hx284_0 := (HB.out.cell (World.block_lt_of_cell? w _ hx284_0)).trans hx284_0
                      replace hx284_1 := (HB.out.cell (World.block_lt_of_cell? w _ hx284_1)).trans hx284_1
                      replace p284 := eq_true p284
                      replace q284 := eq_true q284
                      go_wp2_with (first | ((with_reducible refine gate_builtin (b := .append) (xs := #[.tmp 40, .tmp 48]) rfl ?_); at_builtin; refine Kd.R_append k64 (w0 := w) w.heap.size rfl (.tmp 40) (.tmp 48) 39 64 (.agg #[(.int .i64 0), (.int .i64 0)]) 16 rfl Try.underlying39 info64 rfl (by decide) (by omega) u11 x11_1 (⟨wrap64 (a2 + (wrap64 (3 * ((rd_T37 l0 x12_1).f0)))), wrap64 (-((rd_T37 l0 x12_1).f1))⟩ : S64) [.int .i64 (wrap64 (a2 + (wrap64 (3 * ((rd_T37 l0 x12_1).f0))))), .int .i64 (wrap64 (-((rd_T37 l0 x12_1).f1)))] (fun _ => True) (fun _ => False) rfl rfl ?aP (fun _ hk => hk.elim) ?aF ?aO ?aB ?aS ?aL ?_; (case aP => exact k64_mkM _ _ _ (⟨wrap64 (a2 + (wrap64 (3 * ((rd_T37 l0 x12_1).f0)))), wrap64 (-((rd_T37 l0 x12_1).f1))⟩ : S64)); (case aB => exact (by repeat (first | (with_reducible first | exact HB.out | apply below_alloc | apply pw_below_drewN | apply below_drew1) | exact HB.out))); (case aF => exact (fun _ _ => trivial)); (case aO => exact (by (with_reducible repeat (first | apply Kd.R_alloc | apply Kd.R_drewN | apply Kd.R_drew)); exact HO_11.out)); (case aS => exact (below_size (by repeat (first | (with_reducible first | exact HB.out | apply below_alloc | apply pw_below_drewN | apply below_drew1) | exact HB.out)))); (case aL => have := LMc12.out; omega); intro v286 w17 ho hb hg hat; rw [← Ny285.out] at ho; have n0_ := Aside0.mk (hb); have n1_ := Aside0.mk (ho); clear HB; clear HO_11; have HB := n0_; have HO287 := n1_; clear n0_ n1_; clear ho hb hg hat) | ((with_reducible refine gate_builtin (b := .append) (xs := #[.tmp 65, .tmp 74]) rfl ?_); at_builtin; refine Kd.R_append k64 (w0 := w) w.heap.size rfl (.tmp 65) (.tmp 74) 39 64 (.agg #[(.int .i64 0), (.int .i64 0)]) 16 rfl Try.underlying39 info64 rfl (by decide) (by omega) v286 y285 (⟨wrap64 (a4 + (wrap64 (3 * ((rd_T37 l0 x12_1).f0)))), wrap64 (((rd_T37 l0 x12_1).f1) - ((rd_T37 l1 x12_1).f1))⟩ : S64) [.int .i64 (wrap64 (a4 + (wrap64 (3 * ((rd_T37 l0 x12_1).f0))))), .int .i64 (wrap64 (((rd_T37 l0 x12_1).f1) - ((rd_T37 l1 x12_1).f1)))] (fun _ => True) (fun _ => False) rfl rfl ?aP (fun _ hk => hk.elim) ?aF ?aO ?aB ?aS ?aL ?_; (case aP => exact k64_mkM _ _ _ (⟨wrap64 (a4 + (wrap64 (3 * ((rd_T37 l0 x12_1).f0)))), wrap64 (((rd_T37 l0 x12_1).f1) - ((rd_T37 l1 x12_1).f1))⟩ : S64)); (case aB => exact (by repeat (first | (with_reducible first | exact HB.out | apply below_alloc | apply pw_below_drewN | apply below_drew1) | exact HB.out))); (case aF => exact (fun _ _ => trivial)); (case aO => exact (by (with_reducible repeat (first | apply Kd.R_alloc | apply Kd.R_drewN | apply Kd.R_drew)); exact HO287.out)); (case aS => exact (below_size (by repeat (first | (with_reducible first | exact HB.out | apply below_alloc | apply pw_below_drewN | apply below_drew1) | exact HB.out)))); (case aL => have := LMc16.out; omega); intro v289 w18 ho hb hg hat; rw [← Ny288.out] at ho; have n0_ := Aside0.mk (hb); have n1_ := Aside0.mk (ho); clear HB; clear HO287; have HB := n0_; have HO290 := n1_; clear n0_ n1_; clear ho hb hg hat))
                      repeat (go_quiet (first | ((with_reducible refine gate_builtin (b := .append) (xs := #[.tmp 40, .tmp 48]) rfl ?_); at_builtin; refine Kd.R_append k64 (w0 := w) w.heap.size rfl (.tmp 40) (.tmp 48) 39 64 (.agg #[(.int .i64 0), (.int .i64 0)]) 16 rfl Try.underlying39 info64 rfl (by decide) (by omega) u11 x11_1 (⟨wrap64 (a2 + (wrap64 (3 * ((rd_T37 l0 x12_1).f0)))), wrap64 (-((rd_T37 l0 x12_1).f1))⟩ : S64) [.int .i64 (wrap64 (a2 + (wrap64 (3 * ((rd_T37 l0 x12_1).f0))))), .int .i64 (wrap64 (-((rd_T37 l0 x12_1).f1)))] (fun _ => True) (fun _ => False) rfl rfl ?aP (fun _ hk => hk.elim) ?aF ?aO ?aB ?aS ?aL ?_; (case aP => exact k64_mkM _ _ _ (⟨wrap64 (a2 + (wrap64 (3 * ((rd_T37 l0 x12_1).f0)))), wrap64 (-((rd_T37 l0 x12_1).f1))⟩ : S64)); (case aB => exact (by repeat (first | (with_reducible first | exact HB.out | apply below_alloc | apply pw_below_drewN | apply below_drew1) | exact HB.out))); (case aF => exact (fun _ _ => trivial)); (case aO => exact (by (with_reducible repeat (first | apply Kd.R_alloc | apply Kd.R_drewN | apply Kd.R_drew)); exact HO_11.out)); (case aS => exact (below_size (by repeat (first | (with_reducible first | exact HB.out | apply below_alloc | apply pw_below_drewN | apply below_drew1) | exact HB.out)))); (case aL => have := LMc12.out; omega); intro v286 w17 ho hb hg hat; rw [← Ny285.out] at ho; have n0_ := Aside0.mk (hb); have n1_ := Aside0.mk (ho); clear HB; clear HO_11; have HB := n0_; have HO287 := n1_; clear n0_ n1_; clear ho hb hg hat) | ((with_reducible refine gate_builtin (b := .append) (xs := #[.tmp 65, .tmp 74]) rfl ?_); at_builtin; refine Kd.R_append k64 (w0 := w) w.heap.size rfl (.tmp 65) (.tmp 74) 39 64 (.agg #[(.int .i64 0), (.int .i64 0)]) 16 rfl Try.underlying39 info64 rfl (by decide) (by omega) v286 y285 (⟨wrap64 (a4 + (wrap64 (3 * ((rd_T37 l0 x12_1).f0)))), wrap64 (((rd_T37 l0 x12_1).f1) - ((rd_T37 l1 x12_1).f1))⟩ : S64) [.int .i64 (wrap64 (a4 + (wrap64 (3 * ((rd_T37 l0 x12_1).f0))))), .int .i64 (wrap64 (((rd_T37 l0 x12_1).f1) - ((rd_T37 l1 x12_1).f1)))] (fun _ => True) (fun _ => False) rfl rfl ?aP (fun _ hk => hk.elim) ?aF ?aO ?aB ?aS ?aL ?_; (case aP => exact k64_mkM _ _ _ (⟨wrap64 (a4 + (wrap64 (3 * ((rd_T37 l0 x12_1).f0)))), wrap64 (((rd_T37 l0 x12_1).f1) - ((rd_T37 l1 x12_1).f1))⟩ : S64)); (case aB => exact (by repeat (first | (with_reducible first | exact HB.out | apply below_alloc | apply pw_below_drewN | apply below_drew1) | exact HB.out))); (case aF => exact (fun _ _ => trivial)); (case aO => exact (by (with_reducible repeat (first | apply Kd.R_alloc | apply Kd.R_drewN | apply Kd.R_drew)); exact HO287.out)); (case aS => exact (below_size (by repeat (first | (with_reducible first | exact HB.out | apply below_alloc | apply pw_below_drewN | apply below_drew1) | exact HB.out)))); (case aL => have := LMc16.out; omega); intro v289 w18 ho hb hg hat; rw [← Ny288.out] at ho; have n0_ := Aside0.mk (hb); have n1_ := Aside0.mk (ho); clear HB; clear HO287; have HB := n0_; have HO290 := n1_; clear n0_ n1_; clear ho hb hg hat)); try go_wp2_with (first | ((with_reducible refine gate_builtin (b := .append) (xs := #[.tmp 40, .tmp 48]) rfl ?_); at_builtin; refine Kd.R_append k64 (w0 := w) w.heap.size rfl (.tmp 40) (.tmp 48) 39 64 (.agg #[(.int .i64 0), (.int .i64 0)]) 16 rfl Try.underlying39 info64 rfl (by decide) (by omega) u11 x11_1 (⟨wrap64 (a2 + (wrap64 (3 * ((rd_T37 l0 x12_1).f0)))), wrap64 (-((rd_T37 l0 x12_1).f1))⟩ : S64) [.int .i64 (wrap64 (a2 + (wrap64 (3 * ((rd_T37 l0 x12_1).f0))))), .int .i64 (wrap64 (-((rd_T37 l0 x12_1).f1)))] (fun _ => True) (fun _ => False) rfl rfl ?aP (fun _ hk => hk.elim) ?aF ?aO ?aB ?aS ?aL ?_; (case aP => exact k64_mkM _ _ _ (⟨wrap64 (a2 + (wrap64 (3 * ((rd_T37 l0 x12_1).f0)))), wrap64 (-((rd_T37 l0 x12_1).f1))⟩ : S64)); (case aB => exact (by repeat (first | (with_reducible first | exact HB.out | apply below_alloc | apply pw_below_drewN | apply below_drew1) | exact HB.out))); (case aF => exact (fun _ _ => trivial)); (case aO => exact (by (with_reducible repeat (first | apply Kd.R_alloc | apply Kd.R_drewN | apply Kd.R_drew)); exact HO_11.out)); (case aS => exact (below_size (by repeat (first | (with_reducible first | exact HB.out | apply below_alloc | apply pw_below_drewN | apply below_drew1) | exact HB.out)))); (case aL => have := LMc12.out; omega); intro v286 w17 ho hb hg hat; rw [← Ny285.out] at ho; have n0_ := Aside0.mk (hb); have n1_ := Aside0.mk (ho); clear HB; clear HO_11; have HB := n0_; have HO287 := n1_; clear n0_ n1_; clear ho hb hg hat) | ((with_reducible refine gate_builtin (b := .append) (xs := #[.tmp 65, .tmp 74]) rfl ?_); at_builtin; refine Kd.R_append k64 (w0 := w) w.heap.size rfl (.tmp 65) (.tmp 74) 39 64 (.agg #[(.int .i64 0), (.int .i64 0)]) 16 rfl Try.underlying39 info64 rfl (by decide) (by omega) v286 y285 (⟨wrap64 (a4 + (wrap64 (3 * ((rd_T37 l0 x12_1).f0)))), wrap64 (((rd_T37 l0 x12_1).f1) - ((rd_T37 l1 x12_1).f1))⟩ : S64) [.int .i64 (wrap64 (a4 + (wrap64 (3 * ((rd_T37 l0 x12_1).f0))))), .int .i64 (wrap64 (((rd_T37 l0 x12_1).f1) - ((rd_T37 l1 x12_1).f1)))] (fun _ => True) (fun _ => False) rfl rfl ?aP (fun _ hk => hk.elim) ?aF ?aO ?aB ?aS ?aL ?_; (case aP => exact k64_mkM _ _ _ (⟨wrap64 (a4 + (wrap64 (3 * ((rd_T37 l0 x12_1).f0)))), wrap64 (((rd_T37 l0 x12_1).f1) - ((rd_T37 l1 x12_1).f1))⟩ : S64)); (case aB => exact (by repeat (first | (with_reducible first | exact HB.out | apply below_alloc | apply pw_below_drewN | apply below_drew1) | exact HB.out))); (case aF => exact (fun _ _ => trivial)); (case aO => exact (by (with_reducible repeat (first | apply Kd.R_alloc | apply Kd.R_drewN | apply Kd.R_drew)); exact HO287.out)); (case aS => exact (below_size (by repeat (first | (with_reducible first | exact HB.out | apply below_alloc | apply pw_below_drewN | apply below_drew1) | exact HB.out)))); (case aL => have := LMc16.out; omega); intro v289 w18 ho hb hg hat; rw [← Ny288.out] at ho; have n0_ := Aside0.mk (hb); have n1_ := Aside0.mk (ho); clear HB; clear HO287; have HB := n0_; have HO290 := n1_; clear n0_ n1_; clear ho hb hg hat)))
                      go_roundg k1
                      case measure => have := HK1.out; omega
                      case rel => exact ⟨(y288), (wrap64 (x12_1 + 1)), (by first | rfl | (simp; done) | (simp [*]; done)), H', ⟨by have := HK1.out; omega⟩, ⟨by (with_reducible repeat (first | apply Kd.R_alloc | apply Kd.R_drewN | apply Kd.R_drew)); exact HO290.out⟩, ⟨by repeat (first | (with_reducible first | exact HB.out | apply below_alloc | apply pw_below_drewN | apply below_drew1) | exact HB.out)⟩⟩
                    · rw [if_neg c16] at H
                      exact absurd H (by simp)
                · rw [if_neg c13] at H
                  have c13b0 : (((rd_T37 l1 x12_1).f1) == 0) = false := beq_eq_false_iff_ne.mpr c13
                  have c13b1 : (((rd_T37 l1 x12_1).f1) != 0) = true := bne_iff_ne.mpr c13
                  by_cases c19 : y285.length < 8796093022208
                  · rw [if_pos c19] at H
                    have LMc19 := Aside0.mk c19
                    clear c19
                    obtain ⟨y291, hy291⟩ : ∃ y_ : List (S64), y_ = (y285 ++ [(⟨wrap64 (a3 + (wrap64 (3 * ((rd_T37 l0 x12_1).f0)))), (rd_T37 l1 x12_1).f1⟩ : S64)]) := ⟨_, rfl⟩
                    replace H : (if (wrap64 (((rd_T37 l0 x12_1).f1) - ((rd_T37 l1 x12_1).f1))) = 0 then (prebendref11_Legs.l0 k1 l0 l1 a2 a3 a4 y291 (wrap64 (x12_1 + 1))) else (if y291.length < 8796093022208 then (prebendref11_Legs.l0 k1 l0 l1 a2 a3 a4 (y291 ++ [(⟨wrap64 (a4 + (wrap64 (3 * ((rd_T37 l0 x12_1).f0)))), wrap64 (((rd_T37 l0 x12_1).f1) - ((rd_T37 l1 x12_1).f1))⟩ : S64)]) (wrap64 (x12_1 + 1))) else (none))) = some r := by first | (rw [hy291]; with_reducible exact H) | (have H2_ := (Option.bind_some _ _).symm.trans H; rw [hy291]; with_reducible exact H2_) | (have H2_ := (Option.bind_some _ _).symm.trans H; with_reducible exact H2_) | with_reducible exact H | (rw [hy291]; exact H) | exact H
                    have Ny291 := Aside0.mk hy291
                    clear hy291
                    by_cases c20 : (wrap64 (((rd_T37 l0 x12_1).f1) - ((rd_T37 l1 x12_1).f1))) = 0
                    · rw [if_pos c20] at H
                      have c20b0 : ((wrap64 (((rd_T37 l0 x12_1).f1) - ((rd_T37 l1 x12_1).f1))) == 0) = true := beq_iff_eq.mpr c20
                      have c20b1 : ((wrap64 (((rd_T37 l0 x12_1).f1) - ((rd_T37 l1 x12_1).f1))) != 0) = false := bne_eq_false_iff_eq.mpr c20
                      clear c20
                      have H' := Aside0.mk H
                      clear H
                      have p282 : 0 ≤ (x12_1 : Int) := of_decide_eq_true (by first | (with_reducible assumption) | assumption)
                      have q282 : x12_1 < (l0.length : Int) := of_decide_eq_true (by first | (with_reducible assumption) | assumption)
                      obtain ⟨ad282, e282, hx282_0, hx282_1⟩ := at_T37 HR0.out x12_1 p282 q282
                      cases e282
                      replace hx282_0 := (HB.out.cell (World.block_lt_of_cell? w _ hx282_0)).trans hx282_0
                      replace hx282_1 := (HB.out.cell (World.block_lt_of_cell? w _ hx282_1)).trans hx282_1
                      replace p282 := eq_true p282
                      replace q282 := eq_true q282
                      have p283 : 0 ≤ (x12_1 : Int) := of_decide_eq_true (by first | (with_reducible assumption) | assumption)
                      have q283 : x12_1 < (l0.length : Int) := of_decide_eq_true (by first | (with_reducible assumption) | assumption)
                      obtain ⟨ad283, e283, hx283_0, hx283_1⟩ := at_T37 HR0.out x12_1 p283 q283
                      obtain rfl : ad282 = ad283 := (by injection e283)
                      replace hx283_0 := (HB.out.cell (World.block_lt_of_cell? w _ hx283_0)).trans hx283_0
                      replace hx283_1 := (HB.out.cell (World.block_lt_of_cell? w _ hx283_1)).trans hx283_1
                      replace p283 := eq_true p283
                      replace q283 := eq_true q283
                      have p284 : 0 ≤ (x12_1 : Int) := of_decide_eq_true (by first | (with_reducible assumption) | assumption)
                      have q284 : x12_1 < (l1.length : Int) := of_decide_eq_true (by first | (with_reducible assumption) | assumption)
                      obtain ⟨ad284, e284, hx284_0, hx284_1⟩ := at_T37 HR1.out x12_1 p284 q284
                      cases e284
                      replace hx284_0 := (HB.out.cell (World.block_lt_of_cell? w _ hx284_0)).trans hx284_0
                      replace hx284_1 := (HB.out.cell (World.block_lt_of_cell? w _ hx284_1)).trans hx284_1
                      replace p284 := eq_true p284
                      replace q284 := eq_true q284
                      go_wp2_with (first | ((with_reducible refine gate_builtin (b := .append) (xs := #[.tmp 40, .tmp 48]) rfl ?_); at_builtin; refine Kd.R_append k64 (w0 := w) w.heap.size rfl (.tmp 40) (.tmp 48) 39 64 (.agg #[(.int .i64 0), (.int .i64 0)]) 16 rfl Try.underlying39 info64 rfl (by decide) (by omega) u11 x11_1 (⟨wrap64 (a2 + (wrap64 (3 * ((rd_T37 l0 x12_1).f0)))), wrap64 (-((rd_T37 l0 x12_1).f1))⟩ : S64) [.int .i64 (wrap64 (a2 + (wrap64 (3 * ((rd_T37 l0 x12_1).f0))))), .int .i64 (wrap64 (-((rd_T37 l0 x12_1).f1)))] (fun _ => True) (fun _ => False) rfl rfl ?aP (fun _ hk => hk.elim) ?aF ?aO ?aB ?aS ?aL ?_; (case aP => exact k64_mkM _ _ _ (⟨wrap64 (a2 + (wrap64 (3 * ((rd_T37 l0 x12_1).f0)))), wrap64 (-((rd_T37 l0 x12_1).f1))⟩ : S64)); (case aB => exact (by repeat (first | (with_reducible first | exact HB.out | apply below_alloc | apply pw_below_drewN | apply below_drew1) | exact HB.out))); (case aF => exact (fun _ _ => trivial)); (case aO => exact (by (with_reducible repeat (first | apply Kd.R_alloc | apply Kd.R_drewN | apply Kd.R_drew)); exact HO_11.out)); (case aS => exact (below_size (by repeat (first | (with_reducible first | exact HB.out | apply below_alloc | apply pw_below_drewN | apply below_drew1) | exact HB.out)))); (case aL => have := LMc12.out; omega); intro v286 w21 ho hb hg hat; rw [← Ny285.out] at ho; have n0_ := Aside0.mk (hb); have n1_ := Aside0.mk (ho); clear HB; clear HO_11; have HB := n0_; have HO287 := n1_; clear n0_ n1_; clear ho hb hg hat) | ((with_reducible refine gate_builtin (b := .append) (xs := #[.tmp 52, .tmp 59]) rfl ?_); at_builtin; refine Kd.R_append k64 (w0 := w) w.heap.size rfl (.tmp 52) (.tmp 59) 39 64 (.agg #[(.int .i64 0), (.int .i64 0)]) 16 rfl Try.underlying39 info64 rfl (by decide) (by omega) v286 y285 (⟨wrap64 (a3 + (wrap64 (3 * ((rd_T37 l0 x12_1).f0)))), (rd_T37 l1 x12_1).f1⟩ : S64) [.int .i64 (wrap64 (a3 + (wrap64 (3 * ((rd_T37 l0 x12_1).f0))))), .int .i64 ((rd_T37 l1 x12_1).f1)] (fun _ => True) (fun _ => False) rfl rfl ?aP (fun _ hk => hk.elim) ?aF ?aO ?aB ?aS ?aL ?_; (case aP => exact k64_mkM _ _ _ (⟨wrap64 (a3 + (wrap64 (3 * ((rd_T37 l0 x12_1).f0)))), (rd_T37 l1 x12_1).f1⟩ : S64)); (case aB => exact (by repeat (first | (with_reducible first | exact HB.out | apply below_alloc | apply pw_below_drewN | apply below_drew1) | exact HB.out))); (case aF => exact (fun _ _ => trivial)); (case aO => exact (by (with_reducible repeat (first | apply Kd.R_alloc | apply Kd.R_drewN | apply Kd.R_drew)); exact HO287.out)); (case aS => exact (below_size (by repeat (first | (with_reducible first | exact HB.out | apply below_alloc | apply pw_below_drewN | apply below_drew1) | exact HB.out)))); (case aL => have := LMc19.out; omega); intro v292 w22 ho hb hg hat; rw [← Ny291.out] at ho; have n0_ := Aside0.mk (hb); have n1_ := Aside0.mk (ho); clear HB; clear HO287; have HB := n0_; have HO293 := n1_; clear n0_ n1_; clear ho hb hg hat))
                      repeat (go_quiet (first | ((with_reducible refine gate_builtin (b := .append) (xs := #[.tmp 40, .tmp 48]) rfl ?_); at_builtin; refine Kd.R_append k64 (w0 := w) w.heap.size rfl (.tmp 40) (.tmp 48) 39 64 (.agg #[(.int .i64 0), (.int .i64 0)]) 16 rfl Try.underlying39 info64 rfl (by decide) (by omega) u11 x11_1 (⟨wrap64 (a2 + (wrap64 (3 * ((rd_T37 l0 x12_1).f0)))), wrap64 (-((rd_T37 l0 x12_1).f1))⟩ : S64) [.int .i64 (wrap64 (a2 + (wrap64 (3 * ((rd_T37 l0 x12_1).f0))))), .int .i64 (wrap64 (-((rd_T37 l0 x12_1).f1)))] (fun _ => True) (fun _ => False) rfl rfl ?aP (fun _ hk => hk.elim) ?aF ?aO ?aB ?aS ?aL ?_; (case aP => exact k64_mkM _ _ _ (⟨wrap64 (a2 + (wrap64 (3 * ((rd_T37 l0 x12_1).f0)))), wrap64 (-((rd_T37 l0 x12_1).f1))⟩ : S64)); (case aB => exact (by repeat (first | (with_reducible first | exact HB.out | apply below_alloc | apply pw_below_drewN | apply below_drew1) | exact HB.out))); (case aF => exact (fun _ _ => trivial)); (case aO => exact (by (with_reducible repeat (first | apply Kd.R_alloc | apply Kd.R_drewN | apply Kd.R_drew)); exact HO_11.out)); (case aS => exact (below_size (by repeat (first | (with_reducible first | exact HB.out | apply below_alloc | apply pw_below_drewN | apply below_drew1) | exact HB.out)))); (case aL => have := LMc12.out; omega); intro v286 w21 ho hb hg hat; rw [← Ny285.out] at ho; have n0_ := Aside0.mk (hb); have n1_ := Aside0.mk (ho); clear HB; clear HO_11; have HB := n0_; have HO287 := n1_; clear n0_ n1_; clear ho hb hg hat) | ((with_reducible refine gate_builtin (b := .append) (xs := #[.tmp 52, .tmp 59]) rfl ?_); at_builtin; refine Kd.R_append k64 (w0 := w) w.heap.size rfl (.tmp 52) (.tmp 59) 39 64 (.agg #[(.int .i64 0), (.int .i64 0)]) 16 rfl Try.underlying39 info64 rfl (by decide) (by omega) v286 y285 (⟨wrap64 (a3 + (wrap64 (3 * ((rd_T37 l0 x12_1).f0)))), (rd_T37 l1 x12_1).f1⟩ : S64) [.int .i64 (wrap64 (a3 + (wrap64 (3 * ((rd_T37 l0 x12_1).f0))))), .int .i64 ((rd_T37 l1 x12_1).f1)] (fun _ => True) (fun _ => False) rfl rfl ?aP (fun _ hk => hk.elim) ?aF ?aO ?aB ?aS ?aL ?_; (case aP => exact k64_mkM _ _ _ (⟨wrap64 (a3 + (wrap64 (3 * ((rd_T37 l0 x12_1).f0)))), (rd_T37 l1 x12_1).f1⟩ : S64)); (case aB => exact (by repeat (first | (with_reducible first | exact HB.out | apply below_alloc | apply pw_below_drewN | apply below_drew1) | exact HB.out))); (case aF => exact (fun _ _ => trivial)); (case aO => exact (by (with_reducible repeat (first | apply Kd.R_alloc | apply Kd.R_drewN | apply Kd.R_drew)); exact HO287.out)); (case aS => exact (below_size (by repeat (first | (with_reducible first | exact HB.out | apply below_alloc | apply pw_below_drewN | apply below_drew1) | exact HB.out)))); (case aL => have := LMc19.out; omega); intro v292 w22 ho hb hg hat; rw [← Ny291.out] at ho; have n0_ := Aside0.mk (hb); have n1_ := Aside0.mk (ho); clear HB; clear HO287; have HB := n0_; have HO293 := n1_; clear n0_ n1_; clear ho hb hg hat)); try go_wp2_with (first | ((with_reducible refine gate_builtin (b := .append) (xs := #[.tmp 40, .tmp 48]) rfl ?_); at_builtin; refine Kd.R_append k64 (w0 := w) w.heap.size rfl (.tmp 40) (.tmp 48) 39 64 (.agg #[(.int .i64 0), (.int .i64 0)]) 16 rfl Try.underlying39 info64 rfl (by decide) (by omega) u11 x11_1 (⟨wrap64 (a2 + (wrap64 (3 * ((rd_T37 l0 x12_1).f0)))), wrap64 (-((rd_T37 l0 x12_1).f1))⟩ : S64) [.int .i64 (wrap64 (a2 + (wrap64 (3 * ((rd_T37 l0 x12_1).f0))))), .int .i64 (wrap64 (-((rd_T37 l0 x12_1).f1)))] (fun _ => True) (fun _ => False) rfl rfl ?aP (fun _ hk => hk.elim) ?aF ?aO ?aB ?aS ?aL ?_; (case aP => exact k64_mkM _ _ _ (⟨wrap64 (a2 + (wrap64 (3 * ((rd_T37 l0 x12_1).f0)))), wrap64 (-((rd_T37 l0 x12_1).f1))⟩ : S64)); (case aB => exact (by repeat (first | (with_reducible first | exact HB.out | apply below_alloc | apply pw_below_drewN | apply below_drew1) | exact HB.out))); (case aF => exact (fun _ _ => trivial)); (case aO => exact (by (with_reducible repeat (first | apply Kd.R_alloc | apply Kd.R_drewN | apply Kd.R_drew)); exact HO_11.out)); (case aS => exact (below_size (by repeat (first | (with_reducible first | exact HB.out | apply below_alloc | apply pw_below_drewN | apply below_drew1) | exact HB.out)))); (case aL => have := LMc12.out; omega); intro v286 w21 ho hb hg hat; rw [← Ny285.out] at ho; have n0_ := Aside0.mk (hb); have n1_ := Aside0.mk (ho); clear HB; clear HO_11; have HB := n0_; have HO287 := n1_; clear n0_ n1_; clear ho hb hg hat) | ((with_reducible refine gate_builtin (b := .append) (xs := #[.tmp 52, .tmp 59]) rfl ?_); at_builtin; refine Kd.R_append k64 (w0 := w) w.heap.size rfl (.tmp 52) (.tmp 59) 39 64 (.agg #[(.int .i64 0), (.int .i64 0)]) 16 rfl Try.underlying39 info64 rfl (by decide) (by omega) v286 y285 (⟨wrap64 (a3 + (wrap64 (3 * ((rd_T37 l0 x12_1).f0)))), (rd_T37 l1 x12_1).f1⟩ : S64) [.int .i64 (wrap64 (a3 + (wrap64 (3 * ((rd_T37 l0 x12_1).f0))))), .int .i64 ((rd_T37 l1 x12_1).f1)] (fun _ => True) (fun _ => False) rfl rfl ?aP (fun _ hk => hk.elim) ?aF ?aO ?aB ?aS ?aL ?_; (case aP => exact k64_mkM _ _ _ (⟨wrap64 (a3 + (wrap64 (3 * ((rd_T37 l0 x12_1).f0)))), (rd_T37 l1 x12_1).f1⟩ : S64)); (case aB => exact (by repeat (first | (with_reducible first | exact HB.out | apply below_alloc | apply pw_below_drewN | apply below_drew1) | exact HB.out))); (case aF => exact (fun _ _ => trivial)); (case aO => exact (by (with_reducible repeat (first | apply Kd.R_alloc | apply Kd.R_drewN | apply Kd.R_drew)); exact HO287.out)); (case aS => exact (below_size (by repeat (first | (with_reducible first | exact HB.out | apply below_alloc | apply pw_below_drewN | apply below_drew1) | exact HB.out)))); (case aL => have := LMc19.out; omega); intro v292 w22 ho hb hg hat; rw [← Ny291.out] at ho; have n0_ := Aside0.mk (hb); have n1_ := Aside0.mk (ho); clear HB; clear HO287; have HB := n0_; have HO293 := n1_; clear n0_ n1_; clear ho hb hg hat)))
                      go_roundg k1
                      case measure => have := HK1.out; omega
                      case rel => exact ⟨(y291), (wrap64 (x12_1 + 1)), (by first | rfl | (simp; done) | (simp [*]; done)), H', ⟨by have := HK1.out; omega⟩, ⟨by (with_reducible repeat (first | apply Kd.R_alloc | apply Kd.R_drewN | apply Kd.R_drew)); exact HO293.out⟩, ⟨by repeat (first | (with_reducible first | exact HB.out | apply below_alloc | apply pw_below_drewN | apply below_drew1) | exact HB.out)⟩⟩
                    · rw [if_neg c20] at H
                      have c20b0 : ((wrap64 (((rd_T37 l0 x12_1).f1) - ((rd_T37 l1 x12_1).f1))) == 0) = false := beq_eq_false_iff_ne.mpr c20
                      have c20b1 : ((wrap64 (((rd_T37 l0 x12_1).f1) - ((rd_T37 l1 x12_1).f1))) != 0) = true := bne_iff_ne.mpr c20
                      by_cases c23 : y291.length < 8796093022208
                      · rw [if_pos c23] at H
                        have LMc23 := Aside0.mk c23
                        clear c23
                        obtain ⟨y294, hy294⟩ : ∃ y_ : List (S64), y_ = (y291 ++ [(⟨wrap64 (a4 + (wrap64 (3 * ((rd_T37 l0 x12_1).f0)))), wrap64 (((rd_T37 l0 x12_1).f1) - ((rd_T37 l1 x12_1).f1))⟩ : S64)]) := ⟨_, rfl⟩
                        replace H : (prebendref11_Legs.l0 k1 l0 l1 a2 a3 a4 y294 (wrap64 (x12_1 + 1))) = some r := by first | (rw [hy294]; with_reducible exact H) | (have H2_ := (Option.bind_some _ _).symm.trans H; rw [hy294]; with_reducible exact H2_) | (have H2_ := (Option.bind_some _ _).symm.trans H; with_reducible exact H2_) | with_reducible exact H | (rw [hy294]; exact H) | exact H
                        have Ny294 := Aside0.mk hy294
                        clear hy294
                        have H' := Aside0.mk H
                        clear H
                        have p282 : 0 ≤ (x12_1 : Int) := of_decide_eq_true (by first | (with_reducible assumption) | assumption)
                        have q282 : x12_1 < (l0.length : Int) := of_decide_eq_true (by first | (with_reducible assumption) | assumption)
                        obtain ⟨ad282, e282, hx282_0, hx282_1⟩ := at_T37 HR0.out x12_1 p282 q282
                        cases e282
                        replace hx282_0 := (HB.out.cell (World.block_lt_of_cell? w _ hx282_0)).trans hx282_0
                        replace hx282_1 := (HB.out.cell (World.block_lt_of_cell? w _ hx282_1)).trans hx282_1
                        replace p282 := eq_true p282
                        replace q282 := eq_true q282
                        have p283 : 0 ≤ (x12_1 : Int) := of_decide_eq_true (by first | (with_reducible assumption) | assumption)
                        have q283 : x12_1 < (l0.length : Int) := of_decide_eq_true (by first | (with_reducible assumption) | assumption)
                        obtain ⟨ad283, e283, hx283_0, hx283_1⟩ := at_T37 HR0.out x12_1 p283 q283
                        obtain rfl : ad282 = ad283 := (by injection e283)
                        replace hx283_0 := (HB.out.cell (World.block_lt_of_cell? w _ hx283_0)).trans hx283_0
                        replace hx283_1 := (HB.out.cell (World.block_lt_of_cell? w _ hx283_1)).trans hx283_1
                        replace p283 := eq_true p283
                        replace q283 := eq_true q283
                        have p284 : 0 ≤ (x12_1 : Int) := of_decide_eq_true (by first | (with_reducible assumption) | assumption)
                        have q284 : x12_1 < (l1.length : Int) := of_decide_eq_true (by first | (with_reducible assumption) | assumption)
                        obtain ⟨ad284, e284, hx284_0, hx284_1⟩ := at_T37 HR1.out x12_1 p284 q284
                        cases e284
                        replace hx284_0 := (HB.out.cell (World.block_lt_of_cell? w _ hx284_0)).trans hx284_0
                        replace hx284_1 := (HB.out.cell (World.block_lt_of_cell? w _ hx284_1)).trans hx284_1
                        replace p284 := eq_true p284
                        replace q284 := eq_true q284
                        go_wp2_with (first | ((with_reducible refine gate_builtin (b := .append) (xs := #[.tmp 40, .tmp 48]) rfl ?_); at_builtin; refine Kd.R_append k64 (w0 := w) w.heap.size rfl (.tmp 40) (.tmp 48) 39 64 (.agg #[(.int .i64 0), (.int .i64 0)]) 16 rfl Try.underlying39 info64 rfl (by decide) (by omega) u11 x11_1 (⟨wrap64 (a2 + (wrap64 (3 * ((rd_T37 l0 x12_1).f0)))), wrap64 (-((rd_T37 l0 x12_1).f1))⟩ : S64) [.int .i64 (wrap64 (a2 + (wrap64 (3 * ((rd_T37 l0 x12_1).f0))))), .int .i64 (wrap64 (-((rd_T37 l0 x12_1).f1)))] (fun _ => True) (fun _ => False) rfl rfl ?aP (fun _ hk => hk.elim) ?aF ?aO ?aB ?aS ?aL ?_; (case aP => exact k64_mkM _ _ _ (⟨wrap64 (a2 + (wrap64 (3 * ((rd_T37 l0 x12_1).f0)))), wrap64 (-((rd_T37 l0 x12_1).f1))⟩ : S64)); (case aB => exact (by repeat (first | (with_reducible first | exact HB.out | apply below_alloc | apply pw_below_drewN | apply below_drew1) | exact HB.out))); (case aF => exact (fun _ _ => trivial)); (case aO => exact (by (with_reducible repeat (first | apply Kd.R_alloc | apply Kd.R_drewN | apply Kd.R_drew)); exact HO_11.out)); (case aS => exact (below_size (by repeat (first | (with_reducible first | exact HB.out | apply below_alloc | apply pw_below_drewN | apply below_drew1) | exact HB.out)))); (case aL => have := LMc12.out; omega); intro v286 w24 ho hb hg hat; rw [← Ny285.out] at ho; have n0_ := Aside0.mk (hb); have n1_ := Aside0.mk (ho); clear HB; clear HO_11; have HB := n0_; have HO287 := n1_; clear n0_ n1_; clear ho hb hg hat) | ((with_reducible refine gate_builtin (b := .append) (xs := #[.tmp 52, .tmp 59]) rfl ?_); at_builtin; refine Kd.R_append k64 (w0 := w) w.heap.size rfl (.tmp 52) (.tmp 59) 39 64 (.agg #[(.int .i64 0), (.int .i64 0)]) 16 rfl Try.underlying39 info64 rfl (by decide) (by omega) v286 y285 (⟨wrap64 (a3 + (wrap64 (3 * ((rd_T37 l0 x12_1).f0)))), (rd_T37 l1 x12_1).f1⟩ : S64) [.int .i64 (wrap64 (a3 + (wrap64 (3 * ((rd_T37 l0 x12_1).f0))))), .int .i64 ((rd_T37 l1 x12_1).f1)] (fun _ => True) (fun _ => False) rfl rfl ?aP (fun _ hk => hk.elim) ?aF ?aO ?aB ?aS ?aL ?_; (case aP => exact k64_mkM _ _ _ (⟨wrap64 (a3 + (wrap64 (3 * ((rd_T37 l0 x12_1).f0)))), (rd_T37 l1 x12_1).f1⟩ : S64)); (case aB => exact (by repeat (first | (with_reducible first | exact HB.out | apply below_alloc | apply pw_below_drewN | apply below_drew1) | exact HB.out))); (case aF => exact (fun _ _ => trivial)); (case aO => exact (by (with_reducible repeat (first | apply Kd.R_alloc | apply Kd.R_drewN | apply Kd.R_drew)); exact HO287.out)); (case aS => exact (below_size (by repeat (first | (with_reducible first | exact HB.out | apply below_alloc | apply pw_below_drewN | apply below_drew1) | exact HB.out)))); (case aL => have := LMc19.out; omega); intro v292 w25 ho hb hg hat; rw [← Ny291.out] at ho; have n0_ := Aside0.mk (hb); have n1_ := Aside0.mk (ho); clear HB; clear HO287; have HB := n0_; have HO293 := n1_; clear n0_ n1_; clear ho hb hg hat) | ((with_reducible refine gate_builtin (b := .append) (xs := #[.tmp 65, .tmp 74]) rfl ?_); at_builtin; refine Kd.R_append k64 (w0 := w) w.heap.size rfl (.tmp 65) (.tmp 74) 39 64 (.agg #[(.int .i64 0), (.int .i64 0)]) 16 rfl Try.underlying39 info64 rfl (by decide) (by omega) v292 y291 (⟨wrap64 (a4 + (wrap64 (3 * ((rd_T37 l0 x12_1).f0)))), wrap64 (((rd_T37 l0 x12_1).f1) - ((rd_T37 l1 x12_1).f1))⟩ : S64) [.int .i64 (wrap64 (a4 + (wrap64 (3 * ((rd_T37 l0 x12_1).f0))))), .int .i64 (wrap64 (((rd_T37 l0 x12_1).f1) - ((rd_T37 l1 x12_1).f1)))] (fun _ => True) (fun _ => False) rfl rfl ?aP (fun _ hk => hk.elim) ?aF ?aO ?aB ?aS ?aL ?_; (case aP => exact k64_mkM _ _ _ (⟨wrap64 (a4 + (wrap64 (3 * ((rd_T37 l0 x12_1).f0)))), wrap64 (((rd_T37 l0 x12_1).f1) - ((rd_T37 l1 x12_1).f1))⟩ : S64)); (case aB => exact (by repeat (first | (with_reducible first | exact HB.out | apply below_alloc | apply pw_below_drewN | apply below_drew1) | exact HB.out))); (case aF => exact (fun _ _ => trivial)); (case aO => exact (by (with_reducible repeat (first | apply Kd.R_alloc | apply Kd.R_drewN | apply Kd.R_drew)); exact HO293.out)); (case aS => exact (below_size (by repeat (first | (with_reducible first | exact HB.out | apply below_alloc | apply pw_below_drewN | apply below_drew1) | exact HB.out)))); (case aL => have := LMc23.out; omega); intro v295 w26 ho hb hg hat; rw [← Ny294.out] at ho; have n0_ := Aside0.mk (hb); have n1_ := Aside0.mk (ho); clear HB; clear HO293; have HB := n0_; have HO296 := n1_; clear n0_ n1_; clear ho hb hg hat))
                        repeat (go_quiet (first | ((with_reducible refine gate_builtin (b := .append) (xs := #[.tmp 40, .tmp 48]) rfl ?_); at_builtin; refine Kd.R_append k64 (w0 := w) w.heap.size rfl (.tmp 40) (.tmp 48) 39 64 (.agg #[(.int .i64 0), (.int .i64 0)]) 16 rfl Try.underlying39 info64 rfl (by decide) (by omega) u11 x11_1 (⟨wrap64 (a2 + (wrap64 (3 * ((rd_T37 l0 x12_1).f0)))), wrap64 (-((rd_T37 l0 x12_1).f1))⟩ : S64) [.int .i64 (wrap64 (a2 + (wrap64 (3 * ((rd_T37 l0 x12_1).f0))))), .int .i64 (wrap64 (-((rd_T37 l0 x12_1).f1)))] (fun _ => True) (fun _ => False) rfl rfl ?aP (fun _ hk => hk.elim) ?aF ?aO ?aB ?aS ?aL ?_; (case aP => exact k64_mkM _ _ _ (⟨wrap64 (a2 + (wrap64 (3 * ((rd_T37 l0 x12_1).f0)))), wrap64 (-((rd_T37 l0 x12_1).f1))⟩ : S64)); (case aB => exact (by repeat (first | (with_reducible first | exact HB.out | apply below_alloc | apply pw_below_drewN | apply below_drew1) | exact HB.out))); (case aF => exact (fun _ _ => trivial)); (case aO => exact (by (with_reducible repeat (first | apply Kd.R_alloc | apply Kd.R_drewN | apply Kd.R_drew)); exact HO_11.out)); (case aS => exact (below_size (by repeat (first | (with_reducible first | exact HB.out | apply below_alloc | apply pw_below_drewN | apply below_drew1) | exact HB.out)))); (case aL => have := LMc12.out; omega); intro v286 w24 ho hb hg hat; rw [← Ny285.out] at ho; have n0_ := Aside0.mk (hb); have n1_ := Aside0.mk (ho); clear HB; clear HO_11; have HB := n0_; have HO287 := n1_; clear n0_ n1_; clear ho hb hg hat) | ((with_reducible refine gate_builtin (b := .append) (xs := #[.tmp 52, .tmp 59]) rfl ?_); at_builtin; refine Kd.R_append k64 (w0 := w) w.heap.size rfl (.tmp 52) (.tmp 59) 39 64 (.agg #[(.int .i64 0), (.int .i64 0)]) 16 rfl Try.underlying39 info64 rfl (by decide) (by omega) v286 y285 (⟨wrap64 (a3 + (wrap64 (3 * ((rd_T37 l0 x12_1).f0)))), (rd_T37 l1 x12_1).f1⟩ : S64) [.int .i64 (wrap64 (a3 + (wrap64 (3 * ((rd_T37 l0 x12_1).f0))))), .int .i64 ((rd_T37 l1 x12_1).f1)] (fun _ => True) (fun _ => False) rfl rfl ?aP (fun _ hk => hk.elim) ?aF ?aO ?aB ?aS ?aL ?_; (case aP => exact k64_mkM _ _ _ (⟨wrap64 (a3 + (wrap64 (3 * ((rd_T37 l0 x12_1).f0)))), (rd_T37 l1 x12_1).f1⟩ : S64)); (case aB => exact (by repeat (first | (with_reducible first | exact HB.out | apply below_alloc | apply pw_below_drewN | apply below_drew1) | exact HB.out))); (case aF => exact (fun _ _ => trivial)); (case aO => exact (by (with_reducible repeat (first | apply Kd.R_alloc | apply Kd.R_drewN | apply Kd.R_drew)); exact HO287.out)); (case aS => exact (below_size (by repeat (first | (with_reducible first | exact HB.out | apply below_alloc | apply pw_below_drewN | apply below_drew1) | exact HB.out)))); (case aL => have := LMc19.out; omega); intro v292 w25 ho hb hg hat; rw [← Ny291.out] at ho; have n0_ := Aside0.mk (hb); have n1_ := Aside0.mk (ho); clear HB; clear HO287; have HB := n0_; have HO293 := n1_; clear n0_ n1_; clear ho hb hg hat) | ((with_reducible refine gate_builtin (b := .append) (xs := #[.tmp 65, .tmp 74]) rfl ?_); at_builtin; refine Kd.R_append k64 (w0 := w) w.heap.size rfl (.tmp 65) (.tmp 74) 39 64 (.agg #[(.int .i64 0), (.int .i64 0)]) 16 rfl Try.underlying39 info64 rfl (by decide) (by omega) v292 y291 (⟨wrap64 (a4 + (wrap64 (3 * ((rd_T37 l0 x12_1).f0)))), wrap64 (((rd_T37 l0 x12_1).f1) - ((rd_T37 l1 x12_1).f1))⟩ : S64) [.int .i64 (wrap64 (a4 + (wrap64 (3 * ((rd_T37 l0 x12_1).f0))))), .int .i64 (wrap64 (((rd_T37 l0 x12_1).f1) - ((rd_T37 l1 x12_1).f1)))] (fun _ => True) (fun _ => False) rfl rfl ?aP (fun _ hk => hk.elim) ?aF ?aO ?aB ?aS ?aL ?_; (case aP => exact k64_mkM _ _ _ (⟨wrap64 (a4 + (wrap64 (3 * ((rd_T37 l0 x12_1).f0)))), wrap64 (((rd_T37 l0 x12_1).f1) - ((rd_T37 l1 x12_1).f1))⟩ : S64)); (case aB => exact (by repeat (first | (with_reducible first | exact HB.out | apply below_alloc | apply pw_below_drewN | apply below_drew1) | exact HB.out))); (case aF => exact (fun _ _ => trivial)); (case aO => exact (by (with_reducible repeat (first | apply Kd.R_alloc | apply Kd.R_drewN | apply Kd.R_drew)); exact HO293.out)); (case aS => exact (below_size (by repeat (first | (with_reducible first | exact HB.out | apply below_alloc | apply pw_below_drewN | apply below_drew1) | exact HB.out)))); (case aL => have := LMc23.out; omega); intro v295 w26 ho hb hg hat; rw [← Ny294.out] at ho; have n0_ := Aside0.mk (hb); have n1_ := Aside0.mk (ho); clear HB; clear HO293; have HB := n0_; have HO296 := n1_; clear n0_ n1_; clear ho hb hg hat)); try go_wp2_with (first | ((with_reducible refine gate_builtin (b := .append) (xs := #[.tmp 40, .tmp 48]) rfl ?_); at_builtin; refine Kd.R_append k64 (w0 := w) w.heap.size rfl (.tmp 40) (.tmp 48) 39 64 (.agg #[(.int .i64 0), (.int .i64 0)]) 16 rfl Try.underlying39 info64 rfl (by decide) (by omega) u11 x11_1 (⟨wrap64 (a2 + (wrap64 (3 * ((rd_T37 l0 x12_1).f0)))), wrap64 (-((rd_T37 l0 x12_1).f1))⟩ : S64) [.int .i64 (wrap64 (a2 + (wrap64 (3 * ((rd_T37 l0 x12_1).f0))))), .int .i64 (wrap64 (-((rd_T37 l0 x12_1).f1)))] (fun _ => True) (fun _ => False) rfl rfl ?aP (fun _ hk => hk.elim) ?aF ?aO ?aB ?aS ?aL ?_; (case aP => exact k64_mkM _ _ _ (⟨wrap64 (a2 + (wrap64 (3 * ((rd_T37 l0 x12_1).f0)))), wrap64 (-((rd_T37 l0 x12_1).f1))⟩ : S64)); (case aB => exact (by repeat (first | (with_reducible first | exact HB.out | apply below_alloc | apply pw_below_drewN | apply below_drew1) | exact HB.out))); (case aF => exact (fun _ _ => trivial)); (case aO => exact (by (with_reducible repeat (first | apply Kd.R_alloc | apply Kd.R_drewN | apply Kd.R_drew)); exact HO_11.out)); (case aS => exact (below_size (by repeat (first | (with_reducible first | exact HB.out | apply below_alloc | apply pw_below_drewN | apply below_drew1) | exact HB.out)))); (case aL => have := LMc12.out; omega); intro v286 w24 ho hb hg hat; rw [← Ny285.out] at ho; have n0_ := Aside0.mk (hb); have n1_ := Aside0.mk (ho); clear HB; clear HO_11; have HB := n0_; have HO287 := n1_; clear n0_ n1_; clear ho hb hg hat) | ((with_reducible refine gate_builtin (b := .append) (xs := #[.tmp 52, .tmp 59]) rfl ?_); at_builtin; refine Kd.R_append k64 (w0 := w) w.heap.size rfl (.tmp 52) (.tmp 59) 39 64 (.agg #[(.int .i64 0), (.int .i64 0)]) 16 rfl Try.underlying39 info64 rfl (by decide) (by omega) v286 y285 (⟨wrap64 (a3 + (wrap64 (3 * ((rd_T37 l0 x12_1).f0)))), (rd_T37 l1 x12_1).f1⟩ : S64) [.int .i64 (wrap64 (a3 + (wrap64 (3 * ((rd_T37 l0 x12_1).f0))))), .int .i64 ((rd_T37 l1 x12_1).f1)] (fun _ => True) (fun _ => False) rfl rfl ?aP (fun _ hk => hk.elim) ?aF ?aO ?aB ?aS ?aL ?_; (case aP => exact k64_mkM _ _ _ (⟨wrap64 (a3 + (wrap64 (3 * ((rd_T37 l0 x12_1).f0)))), (rd_T37 l1 x12_1).f1⟩ : S64)); (case aB => exact (by repeat (first | (with_reducible first | exact HB.out | apply below_alloc | apply pw_below_drewN | apply below_drew1) | exact HB.out))); (case aF => exact (fun _ _ => trivial)); (case aO => exact (by (with_reducible repeat (first | apply Kd.R_alloc | apply Kd.R_drewN | apply Kd.R_drew)); exact HO287.out)); (case aS => exact (below_size (by repeat (first | (with_reducible first | exact HB.out | apply below_alloc | apply pw_below_drewN | apply below_drew1) | exact HB.out)))); (case aL => have := LMc19.out; omega); intro v292 w25 ho hb hg hat; rw [← Ny291.out] at ho; have n0_ := Aside0.mk (hb); have n1_ := Aside0.mk (ho); clear HB; clear HO287; have HB := n0_; have HO293 := n1_; clear n0_ n1_; clear ho hb hg hat) | ((with_reducible refine gate_builtin (b := .append) (xs := #[.tmp 65, .tmp 74]) rfl ?_); at_builtin; refine Kd.R_append k64 (w0 := w) w.heap.size rfl (.tmp 65) (.tmp 74) 39 64 (.agg #[(.int .i64 0), (.int .i64 0)]) 16 rfl Try.underlying39 info64 rfl (by decide) (by omega) v292 y291 (⟨wrap64 (a4 + (wrap64 (3 * ((rd_T37 l0 x12_1).f0)))), wrap64 (((rd_T37 l0 x12_1).f1) - ((rd_T37 l1 x12_1).f1))⟩ : S64) [.int .i64 (wrap64 (a4 + (wrap64 (3 * ((rd_T37 l0 x12_1).f0))))), .int .i64 (wrap64 (((rd_T37 l0 x12_1).f1) - ((rd_T37 l1 x12_1).f1)))] (fun _ => True) (fun _ => False) rfl rfl ?aP (fun _ hk => hk.elim) ?aF ?aO ?aB ?aS ?aL ?_; (case aP => exact k64_mkM _ _ _ (⟨wrap64 (a4 + (wrap64 (3 * ((rd_T37 l0 x12_1).f0)))), wrap64 (((rd_T37 l0 x12_1).f1) - ((rd_T37 l1 x12_1).f1))⟩ : S64)); (case aB => exact (by repeat (first | (with_reducible first | exact HB.out | apply below_alloc | apply pw_below_drewN | apply below_drew1) | exact HB.out))); (case aF => exact (fun _ _ => trivial)); (case aO => exact (by (with_reducible repeat (first | apply Kd.R_alloc | apply Kd.R_drewN | apply Kd.R_drew)); exact HO293.out)); (case aS => exact (below_size (by repeat (first | (with_reducible first | exact HB.out | apply below_alloc | apply pw_below_drewN | apply below_drew1) | exact HB.out)))); (case aL => have := LMc23.out; omega); intro v295 w26 ho hb hg hat; rw [← Ny294.out] at ho; have n0_ := Aside0.mk (hb); have n1_ := Aside0.mk (ho); clear HB; clear HO293; have HB := n0_; have HO296 := n1_; clear n0_ n1_; clear ho hb hg hat)))
                        go_roundg k1
                        case measure => have := HK1.out; omega
                        case rel => exact ⟨(y294), (wrap64 (x12_1 + 1)), (by first | rfl | (simp; done) | (simp [*]; done)), H', ⟨by have := HK1.out; omega⟩, ⟨by (with_reducible repeat (first | apply Kd.R_alloc | apply Kd.R_drewN | apply Kd.R_drew)); exact HO296.out⟩, ⟨by repeat (first | (with_reducible first | exact HB.out | apply below_alloc | apply pw_below_drewN | apply below_drew1) | exact HB.out)⟩⟩
                      · rw [if_neg c23] at H
                        exact absurd H (by simp)
                  · rw [if_neg c19] at H
                    exact absurd H (by simp)
              · rw [if_neg c12] at H
                exact absurd H (by simp)
            · rw [if_neg c11] at H
              exact absurd H (by simp)
        · rw [if_neg c9] at H
          exact absurd H (by simp)
      · rw [if_neg c8] at H
        have c8b0 : decide (x12_1 < (l0.length : Int)) = false := decide_eq_false c8
        clear c8
        obtain rfl := Option.some.inj H
        go_wp2
        repeat (go_quiet (fail); try go_wp2)
        go_ret
        exact ⟨_, by first | rfl | (simp [errW_none, errW_some] <;> rfl) | (simp [*, errW_none, errW_some] <;> rfl), by (with_reducible repeat (first | apply Kd.R_alloc | apply Kd.R_drewN | apply Kd.R_drew)); exact HO_11.out, by repeat (first | (with_reducible first | exact HB.out | apply below_alloc | apply pw_below_drewN | apply below_drew1) | exact HB.out)⟩

end Go.Proofs.Ytlccomoiajnkmaa.PAll
end
section
namespace Go.Proofs.Ytlccomoiajnkmaa.PAll
open Go.RowKit Go.Proofs.YtlccomoiajnkmaaW.PrintWords Go.Proofs.YtlccomoiajnkmaaW.PrintLast Go.Proofs.YtlccomoiajnkmaaW.PrintMore
attribute [local go_sem] max2_int min2_int max_two min_two max_three min_three max_four min_four   -- for this text's walks alone
set_option linter.unusedVariables false
set_option linter.unusedSimpArgs false

/-! ### prebendlaw11_DrawLegs: function 4 -/
mutual
def prebendlaw11_DrawLegs.j1 : Nat → List (S37) → List (S37) → Option (Bool)
  | 0, _, _ => none
  | k + 1, x5, x6 => (draw_Lien.f k x5).bind fun t305 => ((prebendref11_Legs.f k x5 x5 1 2 0).bind fun t308 => ((prebendref11_Same.f k t305 t308).bind fun t311 => (if t311 = true then ((draw_Free.f k x5).bind fun t312 => ((prebendref11_Legs.f k x5 x5 2 1 0).bind fun t315 => ((prebendref11_Same.f k t312 t315).bind fun t318 => (if t318 = true then ((draw_Back.f k x5).bind fun t319 => ((prebendref11_Legs.f k x5 x5 3 1 0).bind fun t322 => ((prebendref11_Same.f k t319 t322).bind fun t325 => (prebendlaw11_DrawLegs.j2 k x5 x6 (!t325))))) else (prebendlaw11_DrawLegs.j2 k x5 x6 true))))) else (prebendlaw11_DrawLegs.j2 k x5 x6 true))))
def prebendlaw11_DrawLegs.j2 : Nat → List (S37) → List (S37) → Bool → Option (Bool)
  | 0, _, _, _ => none
  | k + 1, x5, x6, x57 => if x57 = true then (some false) else (if (x6.length : Int) = (x5.length : Int) then ((prebendlaw11_awake.f k).bind fun t330 => (if t330 = true then ((draw_Spend.f k x5 x6).bind fun t331 => ((prebendref11_Legs.f k x5 x6 2 3 1).bind fun t334 => ((prebendref11_Same.f k t331 t334).bind fun t337 => (some t337)))) else (some false))) else ((prebendlaw11_awake.f k).bind fun t326 => (if t326 = true then ((draw_Spend.f k x5 x6).bind fun t327 => (some ((t327.length : Int) == 0))) else (some false))))
def prebendlaw11_DrawLegs.l0 : Nat → List (S37) → List (S37) → Int → Option (Bool)
  | 0, _, _, _ => none
  | k + 1, x5, x6, x7 => if x7 < (x6.length : Int) then (if x7 < (x5.length : Int) then (if 0 ≤ x7 then (prebendlaw11_DrawLegs.l0 k x5 (x6.set (x7 : Int).toNat (⟨(rd_T37 x5 x7).f0, (rd_T37 x6 x7).f1⟩ : S37)) (wrap64 (x7 + 1))) else (none)) else (prebendlaw11_DrawLegs.j1 k x5 x6)) else (prebendlaw11_DrawLegs.j1 k x5 x6)
end
def prebendlaw11_DrawLegs.f (k : Nat) (l0 : List (S37)) (l1 : List (S37)) : Option (Bool) := (prebendlaw11_sane.f k l0).bind fun t297 => ((prebendlaw11_sane.f k l1).bind fun t300 => (prebendlaw11_DrawLegs.l0 k t297 t300 0))
theorem prebendlaw11_DrawLegs.mono_l : ∀ k, (∀ y0 y1, LeO (prebendlaw11_DrawLegs.j1 k y0 y1) (prebendlaw11_DrawLegs.j1 (k + 1) y0 y1)) ∧ (∀ y0 y1 y2, LeO (prebendlaw11_DrawLegs.j2 k y0 y1 y2) (prebendlaw11_DrawLegs.j2 (k + 1) y0 y1 y2)) ∧ (∀ y0 y1 y2, LeO (prebendlaw11_DrawLegs.l0 k y0 y1 y2) (prebendlaw11_DrawLegs.l0 (k + 1) y0 y1 y2))
  | 0 => ⟨fun _ _ r h => by simp [prebendlaw11_DrawLegs.j1] at h, fun _ _ _ r h => by simp [prebendlaw11_DrawLegs.j2] at h, fun _ _ _ r h => by simp [prebendlaw11_DrawLegs.l0] at h⟩
  | k + 1 => by
    obtain ⟨ih0, ih1, ih2⟩ := prebendlaw11_DrawLegs.mono_l k
    refine ⟨?_, ?_, ?_⟩
    · intro y0 y1
      unfold prebendlaw11_DrawLegs.j1
      repeat' first
      | (with_reducible exact ih0 _ _)
      | (with_reducible exact ih1 _ _ _)
      | (with_reducible exact ih2 _ _ _)
      | (with_reducible exact draw_Back.mono _ _)
      | (with_reducible exact draw_Free.mono _ _)
      | (with_reducible exact draw_Lien.mono _ _)
      | (with_reducible exact draw_Spend.mono _ _ _)
      | (with_reducible exact prebendlaw11_awake.mono _)
      | (with_reducible exact prebendlaw11_sane.mono _ _)
      | (with_reducible exact prebendref11_Legs.mono _ _ _ _ _ _)
      | (with_reducible exact prebendref11_Same.mono _ _ _)
      | (with_reducible exact LeO.refl _)
      | (with_reducible exact LeO.none _)
      | (with_reducible refine LeO.ite ?_ ?_)
      | (with_reducible refine LeO.bind ?_ (fun _ => ?_))
      | exact ih0 _ _
      | exact ih1 _ _ _
      | exact ih2 _ _ _
      | exact draw_Back.mono _ _
      | exact draw_Free.mono _ _
      | exact draw_Lien.mono _ _
      | exact draw_Spend.mono _ _ _
      | exact prebendlaw11_awake.mono _
      | exact prebendlaw11_sane.mono _ _
      | exact prebendref11_Legs.mono _ _ _ _ _ _
      | exact prebendref11_Same.mono _ _ _
      | exact LeO.none _
      | refine LeO.ite ?_ ?_
      | refine LeO.bind ?_ (fun _ => ?_)
    · intro y0 y1 y2
      unfold prebendlaw11_DrawLegs.j2
      repeat' first
      | (with_reducible exact ih0 _ _)
      | (with_reducible exact ih1 _ _ _)
      | (with_reducible exact ih2 _ _ _)
      | (with_reducible exact draw_Back.mono _ _)
      | (with_reducible exact draw_Free.mono _ _)
      | (with_reducible exact draw_Lien.mono _ _)
      | (with_reducible exact draw_Spend.mono _ _ _)
      | (with_reducible exact prebendlaw11_awake.mono _)
      | (with_reducible exact prebendlaw11_sane.mono _ _)
      | (with_reducible exact prebendref11_Legs.mono _ _ _ _ _ _)
      | (with_reducible exact prebendref11_Same.mono _ _ _)
      | (with_reducible exact LeO.refl _)
      | (with_reducible exact LeO.none _)
      | (with_reducible refine LeO.ite ?_ ?_)
      | (with_reducible refine LeO.bind ?_ (fun _ => ?_))
      | exact ih0 _ _
      | exact ih1 _ _ _
      | exact ih2 _ _ _
      | exact draw_Back.mono _ _
      | exact draw_Free.mono _ _
      | exact draw_Lien.mono _ _
      | exact draw_Spend.mono _ _ _
      | exact prebendlaw11_awake.mono _
      | exact prebendlaw11_sane.mono _ _
      | exact prebendref11_Legs.mono _ _ _ _ _ _
      | exact prebendref11_Same.mono _ _ _
      | exact LeO.none _
      | refine LeO.ite ?_ ?_
      | refine LeO.bind ?_ (fun _ => ?_)
    · intro y0 y1 y2
      unfold prebendlaw11_DrawLegs.l0
      repeat' first
      | (with_reducible exact ih0 _ _)
      | (with_reducible exact ih1 _ _ _)
      | (with_reducible exact ih2 _ _ _)
      | (with_reducible exact draw_Back.mono _ _)
      | (with_reducible exact draw_Free.mono _ _)
      | (with_reducible exact draw_Lien.mono _ _)
      | (with_reducible exact draw_Spend.mono _ _ _)
      | (with_reducible exact prebendlaw11_awake.mono _)
      | (with_reducible exact prebendlaw11_sane.mono _ _)
      | (with_reducible exact prebendref11_Legs.mono _ _ _ _ _ _)
      | (with_reducible exact prebendref11_Same.mono _ _ _)
      | (with_reducible exact LeO.refl _)
      | (with_reducible exact LeO.none _)
      | (with_reducible refine LeO.ite ?_ ?_)
      | (with_reducible refine LeO.bind ?_ (fun _ => ?_))
      | exact ih0 _ _
      | exact ih1 _ _ _
      | exact ih2 _ _ _
      | exact draw_Back.mono _ _
      | exact draw_Free.mono _ _
      | exact draw_Lien.mono _ _
      | exact draw_Spend.mono _ _ _
      | exact prebendlaw11_awake.mono _
      | exact prebendlaw11_sane.mono _ _
      | exact prebendref11_Legs.mono _ _ _ _ _ _
      | exact prebendref11_Same.mono _ _ _
      | exact LeO.none _
      | refine LeO.ite ?_ ?_
      | refine LeO.bind ?_ (fun _ => ?_)
theorem prebendlaw11_DrawLegs.mono : ∀ a0 a1 k, LeO (prebendlaw11_DrawLegs.f k a0 a1) (prebendlaw11_DrawLegs.f (k + 1) a0 a1) := by
  intro a0 a1 k
  obtain ⟨ih0, ih1, ih2⟩ := prebendlaw11_DrawLegs.mono_l k
  unfold prebendlaw11_DrawLegs.f
  repeat' first
      | (with_reducible exact ih0 _ _)
      | (with_reducible exact ih1 _ _ _)
      | (with_reducible exact ih2 _ _ _)
      | (with_reducible exact draw_Back.mono _ _)
      | (with_reducible exact draw_Free.mono _ _)
      | (with_reducible exact draw_Lien.mono _ _)
      | (with_reducible exact draw_Spend.mono _ _ _)
      | (with_reducible exact prebendlaw11_awake.mono _)
      | (with_reducible exact prebendlaw11_sane.mono _ _)
      | (with_reducible exact prebendref11_Legs.mono _ _ _ _ _ _)
      | (with_reducible exact prebendref11_Same.mono _ _ _)
      | (with_reducible exact LeO.refl _)
      | (with_reducible exact LeO.none _)
      | (with_reducible refine LeO.ite ?_ ?_)
      | (with_reducible refine LeO.bind ?_ (fun _ => ?_))
      | exact ih0 _ _
      | exact ih1 _ _ _
      | exact ih2 _ _ _
      | exact draw_Back.mono _ _
      | exact draw_Free.mono _ _
      | exact draw_Lien.mono _ _
      | exact draw_Spend.mono _ _ _
      | exact prebendlaw11_awake.mono _
      | exact prebendlaw11_sane.mono _ _
      | exact prebendref11_Legs.mono _ _ _ _ _ _
      | exact prebendref11_Same.mono _ _ _
      | exact LeO.none _
      | refine LeO.ite ?_ ?_
      | refine LeO.bind ?_ (fun _ => ?_)
set_option maxHeartbeats 8000000 in
set_option maxRecDepth 100000 in
theorem prebendlaw11_DrawLegs.calls (k : Nat) (A0 : Option Addr) (c0 : Nat) (l0 : List (S37)) (A1 : Option Addr) (c1 : Nat) (l1 : List (S37)) (r : Bool) (w : World) (hr0 : Kd.C k37 w A0 l0.length l0) (hc0 : l0.length ≤ c0) (hr1 : Kd.C k37 w A1 l1.length l1) (hc1 : l1.length ≤ c1) (h : prebendlaw11_DrawLegs.f k l0 l1 = some r) :
    Calls Try.prog 4 #[.slice A0 l0.length c0, .slice A1 l1.length c1] w fun e w' => e = .returned (.bool r) ∧ Below w.heap.size w w' := by
  have HR0 := Aside0.mk hr0
  have HC0 := Aside0.mk hc0
  clear hr0 hc0
  have HR1 := Aside0.mk hr1
  have HC1 := Aside0.mk hc1
  clear hr1 hc1
  have HB := Aside0.mk (Below.refl w.heap.size w)
  have H : ((prebendlaw11_sane.f k l0).bind fun t297 => ((prebendlaw11_sane.f k l1).bind fun t300 => (prebendlaw11_DrawLegs.l0 k t297 t300 0))) = some r := h
  clear h
  replace H := Option.bind_eq_some_iff.mp H
  obtain ⟨t297, A30, H⟩ := H
  replace H : ((prebendlaw11_sane.f k l1).bind fun t300 => (prebendlaw11_DrawLegs.l0 k t297 t300 0)) = some r := H
  have A3 := Aside0.mk A30
  clear A30
  replace H := Option.bind_eq_some_iff.mp H
  obtain ⟨t300, A40, H⟩ := H
  replace H : (prebendlaw11_DrawLegs.l0 k t297 t300 0) = some r := H
  have A4 := Aside0.mk A40
  clear A40
  have HC5 := Aside0.mk H
  clear H
  go_enter Try.func4, Try.ntmps4
  go_upto_block 0 with (first | ((with_reducible refine gate_callee (f := 13) rfl ?_); refine goesL_ (some 9) rfl rfl Try.func13 (by kernel_rfl) rfl #[.slice A0 l0.length c0] rfl (by (try simp only [List.map_toArray, List.map_cons, List.map_nil]); first | done | rfl | (simp only [List.length_drop, List.length_take]; rfl)) ?_; (with_reducible refine (prebendlaw11_sane.calls k _ _ l0 t297 _ ?side1 ?side2 A3.out).mono ?_); (case side1 => repeat (first | exact HR0.out | (with_reducible refine Kd.C_alloc ?_ _) | (with_reducible refine Kd.C_drewN ?_ _) | (with_reducible refine Kd.C_drew ?_))); (case side2 => exact HC0.out); rintro e w6 ⟨v298, rfl, ho0, hb⟩; refine ⟨_, rfl, ?_⟩; have n0_ := Aside0.mk (Kd.R_lower ho0 (below_size (by repeat (first | (with_reducible first | exact HB.out | apply below_alloc | apply pw_below_drewN | apply below_drew1) | exact HB.out)))); have n1_ := Aside0.mk (below_step (by repeat (first | (with_reducible first | exact HB.out | apply below_alloc | apply pw_below_drewN | apply below_drew1) | exact HB.out)) hb); clear HB; have HO299 := n0_; have HB := n1_; clear n0_ n1_; (try clear hb); (try clear hb2); (try clear hk); (try clear hi); (try clear ho0)) | ((with_reducible refine gate_callee (f := 13) rfl ?_); refine goesL_ (some 11) rfl rfl Try.func13 (by kernel_rfl) rfl #[.slice A1 l1.length c1] rfl (by (try simp only [List.map_toArray, List.map_cons, List.map_nil]); first | done | rfl | (simp only [List.length_drop, List.length_take]; rfl)) ?_; (with_reducible refine (prebendlaw11_sane.calls k _ _ l1 t300 _ ?side1 ?side2 A4.out).mono ?_); (case side1 => repeat (first | exact (Kd.C_below HR1.out HB.out) | (with_reducible refine Kd.C_alloc ?_ _) | (with_reducible refine Kd.C_drewN ?_ _) | (with_reducible refine Kd.C_drew ?_))); (case side2 => exact HC1.out); rintro e w7 ⟨v301, rfl, ho0, hb⟩; refine ⟨_, rfl, ?_⟩; have n0_ := Aside0.mk (Kd.R_elder' (by (with_reducible repeat (first | apply Kd.R_alloc | apply Kd.R_drewN | apply Kd.R_drew)); exact HO299.out) (Kd.R_base ho0) hb); have n1_ := Aside0.mk (Kd.R_lower (Kd.R_new' ho0 (Kd.R_lt (by (with_reducible repeat (first | apply Kd.R_alloc | apply Kd.R_drewN | apply Kd.R_drew)); exact HO299.out))) (below_size (by repeat (first | (with_reducible first | exact HB.out | apply below_alloc | apply pw_below_drewN | apply below_drew1) | exact HB.out)))); have n2_ := Aside0.mk (below_step (by repeat (first | (with_reducible first | exact HB.out | apply below_alloc | apply pw_below_drewN | apply below_drew1) | exact HB.out)) hb); clear HO299; clear HB; have HO299 := n0_; have HO302 := n1_; have HB := n2_; clear n0_ n1_ n2_; (try clear hb); (try clear hb2); (try clear hk); (try clear hi); (try clear ho0)))
  (try simp only [Act.put, List.setIfInBounds_toArray, List.set_cons_zero, List.set_cons_succ])
  go_cut [] (fun wc => ∃ (kq : Nat) (x6_4 : List (S37)), Aside0 (prebendlaw11_DrawLegs.j1 kq t297 x6_4 = some r) ∧ Aside0 (kq ≤ k) ∧ Aside0 (Kd.R k37 37 wc w.heap.size (fun k_ => some k_ ≠ (v301 : Value).ownBlock) v298 t297) ∧ Aside0 (Kd.R k37 37 wc w.heap.size (fun k_ => some k_ ≠ (v298 : Value).ownBlock) v301 x6_4) ∧ Aside0 (Below w.heap.size w wc))
  case first =>
    have H := HC5.out
    clear HC5
    have H' := Aside0.mk H
    clear H
    go_wp2
    go_loopg [7] k (fun kq v7 w' => ∃ (x6_1 : List (S37)) (x7_1 : Int), v7 = .int .i64 x7_1 ∧ Aside0 (prebendlaw11_DrawLegs.l0 kq t297 x6_1 x7_1 = some r) ∧ Aside0 (kq ≤ k) ∧ Aside0 (Kd.R k37 37 w' w.heap.size (fun k_ => some k_ ≠ (v301 : Value).ownBlock) v298 t297) ∧ Aside0 (Kd.R k37 37 w' w.heap.size (fun k_ => some k_ ≠ (v298 : Value).ownBlock) v301 x6_1) ∧ Aside0 (Below w.heap.size w w'))
    case atStart => exact ⟨(t300), (0), (by first | rfl | (simp; done) | (simp [*]; done)), H', ⟨Nat.le_refl _⟩, ⟨by (with_reducible repeat (first | apply Kd.R_alloc | apply Kd.R_drewN | apply Kd.R_drew)); exact Kd.R_mono HO299.out (fun _ hk => hk.2)⟩, ⟨by (with_reducible repeat (first | apply Kd.R_alloc | apply Kd.R_drewN | apply Kd.R_drew)); exact Kd.R_mono HO302.out (fun _ hk => hk.2)⟩, ⟨by repeat (first | (with_reducible first | exact HB.out | apply below_alloc | apply pw_below_drewN | apply below_drew1) | exact HB.out)⟩⟩
    case round =>
      clear H'
      try clear c1
      try clear p2
      try clear c4
      obtain ⟨x6_1, x7_1, rfl, HA, HK1, HO_5, HO_6, HB⟩ := hrel
      cases gk with
      | zero => exact absurd HA.out (by simp [prebendlaw11_DrawLegs.l0])
      | succ k1 =>
        have H := HA.out
        clear HA
        simp only [prebendlaw11_DrawLegs.l0] at H
        by_cases c8 : x7_1 < (x6_1.length : Int)
        · rw [if_pos c8] at H
          have c8b0 : decide (x7_1 < (x6_1.length : Int)) = true := decide_eq_true c8
          clear c8
          (first | rw [c8b0] | (simp only [i64_w, i32_w]; rw [c8b0]) | skip)
          by_cases c9 : x7_1 < (t297.length : Int)
          · rw [if_pos c9] at H
            have c9b0 : decide (x7_1 < (t297.length : Int)) = true := decide_eq_true c9
            clear c9
            by_cases c10 : 0 ≤ x7_1
            · rw [if_pos c10] at H
              have c10b0 : decide (0 ≤ x7_1) = true := decide_eq_true c10
              clear c10
              obtain ⟨y304, hy304⟩ : ∃ y_ : List (S37), y_ = (x6_1.set (x7_1 : Int).toNat (⟨(rd_T37 t297 x7_1).f0, (rd_T37 x6_1 x7_1).f1⟩ : S37)) := ⟨_, rfl⟩
              replace H : (prebendlaw11_DrawLegs.l0 k1 t297 y304 (wrap64 (x7_1 + 1))) = some r := by first | (rw [hy304]; with_reducible exact H) | (have H2_ := (Option.bind_some _ _).symm.trans H; rw [hy304]; with_reducible exact H2_) | (have H2_ := (Option.bind_some _ _).symm.trans H; with_reducible exact H2_) | with_reducible exact H | (rw [hy304]; exact H) | exact H
              have Ny304 := Aside0.mk hy304
              clear hy304
              have H' := Aside0.mk H
              clear H
              obtain ⟨Ao12, co12, eo12⟩ := Kd.R_slice HO_6.out
              subst eo12
              obtain ⟨Ao13, co13, eo13⟩ := Kd.R_slice HO_5.out
              subst eo13
              have p303 : 0 ≤ (x7_1 : Int) := of_decide_eq_true (by first | (with_reducible assumption) | assumption)
              have q303 : x7_1 < (t297.length : Int) := of_decide_eq_true (by first | (with_reducible assumption) | assumption)
              obtain ⟨ad303, e303, hx303_0, hx303_1⟩ := at_T37 (Kd.R_reads' HO_5.out).2.2 x7_1 p303 q303
              cases e303
              replace p303 := eq_true p303
              replace q303 := eq_true q303
              have p11 : 0 ≤ (x7_1 : Int) := of_decide_eq_true (by first | (with_reducible assumption) | assumption)
              have q11 : (x7_1 : Int) < ((x6_1.length : Int) : Int) := of_decide_eq_true (by first | (with_reducible assumption) | assumption)
              obtain ⟨go11, co11, eo11, gb11, gl11, cl11, HG11⟩ := Kd.R_form HO_6.out (by omega)
              (first | cases eo11 | (injection eo11 with ea_ en_ ec_; (first | subst ea_ | (injection ea_ with ea_; subst ea_)); subst ec_; clear en_))
              have GB11 := Aside0.mk gb11
              have GG11 := Aside0.mk HG11
              clear gb11 gl11 HG11
              obtain ⟨ce11, hcl11, hM11, hcc11, hfr11⟩ := Kd.R_elem HO_6.out z37 (x7_1 : Int) p11 q11
              obtain rfl := k37_openM hM11
              have hx11_0 : wr.cell? ⟨go11, (x7_1 : Int).toNat * 2, none⟩ = some (.int .i64 ((rd_T37 x6_1 x7_1).f0)) := hcc11 0 _ rfl
              have hx11_1 : wr.cell? ⟨go11, (x7_1 : Int).toNat * 2 + 1, none⟩ = some (.int .i64 ((rd_T37 x6_1 x7_1).f1)) := hcc11 1 _ rfl
              have hf11_0 : wr.frozen? ⟨go11, (x7_1 : Int).toNat * 2, none⟩ = false := hfr11 0
              have hf11_1 : wr.frozen? ⟨go11, (x7_1 : Int).toNat * 2 + 1, none⟩ = false := hfr11 1
              clear hcl11 hcc11 hfr11 hM11
              replace p11 := eq_true p11
              replace q11 := eq_true q11
              have HX14 := Aside0.mk (show Kd.R k37 37 wr w.heap.size (fun k_ => some k_ ≠ (.slice (some ad303) t297.length co13 : Value).ownBlock) (.slice (some ⟨go11, 0, none⟩) x6_1.length co12) x6_1 from (by (with_reducible repeat (first | apply Kd.R_alloc | apply Kd.R_drewN | apply Kd.R_drew)); exact HO_6.out))
              obtain ⟨ce14, hcl14, hM14, hcc14, hfr14⟩ := Kd.R_elem HX14.out z37 (x7_1 : Int) (of_decide_eq_true (by first | (with_reducible assumption) | assumption)) (by have h_ : (x7_1 : Int) < ((x6_1.length : Int) : Int) := of_decide_eq_true (by first | (with_reducible assumption) | assumption); first | exact h_ | (have e_ := (Kd.R_reads' HO_6.out).1; omega) | simpa using h_)
              obtain rfl := k37_openM hM14
              have HP14 := Kd.R_seg HX14.out (x7_1 : Int) (of_decide_eq_true (by first | (with_reducible assumption) | assumption)) (by have h_ : (x7_1 : Int) < ((x6_1.length : Int) : Int) := of_decide_eq_true (by first | (with_reducible assumption) | assumption); first | exact h_ | (have e_ := (Kd.R_reads' HO_6.out).1; omega) | simpa using h_) (seg := [.int .i64 ((rd_T37 t297 x7_1).f0)]) (j := 0) hcl14 hcc14 (show 1 ≤ 2 from by decide) (x' := (⟨(rd_T37 t297 x7_1).f0, (rd_T37 x6_1 x7_1).f1⟩ : S37)) (k37_mkM _ _ _ (⟨(rd_T37 t297 x7_1).f0, (rd_T37 x6_1 x7_1).f1⟩ : S37) ) (fun _ hk => hk)
              have hx14_0 := hcc14 0 _ rfl
              (try simp only [show (k37).sz = 2 from rfl, Nat.mul_one, Nat.add_zero] at hx14_0)
              have hf14_0 := hfr14 0
              (try simp only [show (k37).sz = 2 from rfl, Nat.mul_one, Nat.add_zero] at hf14_0)
              clear hcl14 hcc14 hfr14 hM14
              go_wp2_with (first | ((with_reducible refine gate_store (t := 3) (p := 32) rfl ?_); refine store_event (t := 3) (p := 32) (v := ?vo_w15) (w1 := (wr.setCell ⟨go11, (x7_1 : Int).toNat * 2, none⟩ (.int .i64 ((rd_T37 t297 x7_1).f0)))) ?hg ?ho ?hn ?hr ?_; (case ho => rfl); (case hg => rfl); (case hn => rfl); (case hr => first | (go_simp; done) | (go_simp; rfl)); intro w15 hw; have hg : wr.grownBy w15 (some go11) := (by rw [hw]; exact HP14.2); have hp_ : Kd.R k37 37 w15 w.heap.size (fun k_ => some k_ ≠ (.slice (some ad303) t297.length co13 : Value).ownBlock) (.slice (some ⟨go11, 0, none⟩) x6_1.length co12) y304 := (by rw [hw, Ny304.out]; exact HP14.1); clear HP14; have n0_ := Aside0.mk (Kd.R_after (v := (.slice (some ⟨go11, 0, none⟩) x6_1.length co12)) (v1 := (.slice (some ⟨go11, 0, none⟩) x6_1.length co12)) (ok := (fun _ => True)) (by (with_reducible repeat (first | apply Kd.R_alloc | apply Kd.R_drewN | apply Kd.R_drew)); exact Kd.R_mono HO_5.out (fun _ hk => ⟨trivial, hk⟩)) hg (.inl rfl)); have n1_ := Aside0.mk (hp_); have n2_ := Aside0.mk ((by rw [hw]; exact below_set (HB.out) GB11.out : Below w.heap.size w w15)); clear HO_5; clear HO_6; clear HB; have HO_5 := n0_; have HO_6 := n1_; have HB := n2_; clear n0_ n1_ n2_; clear hg hw hp_))
              go_roundg k1
              case measure => have := HK1.out; omega
              case rel => exact ⟨(y304), (wrap64 (x7_1 + 1)), (by first | rfl | (simp; done) | (simp [*]; done)), H', ⟨by have := HK1.out; omega⟩, ⟨by (with_reducible repeat (first | apply Kd.R_alloc | apply Kd.R_drewN | apply Kd.R_drew)); exact Kd.R_mono HO_5.out (fun _ hk => hk.2)⟩, ⟨by (with_reducible repeat (first | apply Kd.R_alloc | apply Kd.R_drewN | apply Kd.R_drew)); exact HO_6.out⟩, ⟨by repeat (first | (with_reducible first | exact HB.out | apply below_alloc | apply pw_below_drewN | apply below_drew1) | exact HB.out)⟩⟩
            · rw [if_neg c10] at H
              exact absurd H (by simp)
          · rw [if_neg c9] at H
            have c9b0 : decide (x7_1 < (t297.length : Int)) = false := decide_eq_false c9
            clear c9
            have H' := Aside0.mk H
            clear H
            obtain ⟨Ao16, co16, eo16⟩ := Kd.R_slice HO_6.out
            subst eo16
            obtain ⟨Ao17, co17, eo17⟩ := Kd.R_slice HO_5.out
            subst eo17
            go_wp2
            go_meet
            case rel => exact ⟨_, (x6_1), H', ⟨by have := HK1.out; first | omega | exact Nat.le_refl _⟩, ⟨by (with_reducible repeat (first | apply Kd.R_alloc | apply Kd.R_drewN | apply Kd.R_drew)); exact HO_5.out⟩, ⟨by (with_reducible repeat (first | apply Kd.R_alloc | apply Kd.R_drewN | apply Kd.R_drew)); exact HO_6.out⟩, ⟨by repeat (first | (with_reducible first | exact HB.out | apply below_alloc | apply pw_below_drewN | apply below_drew1) | exact HB.out)⟩⟩
        · rw [if_neg c8] at H
          have c8b0 : decide (x7_1 < (x6_1.length : Int)) = false := decide_eq_false c8
          clear c8
          (first | rw [c8b0] | (simp only [i64_w, i32_w]; rw [c8b0]) | skip)
          have H' := Aside0.mk H
          clear H
          obtain ⟨Ao18, co18, eo18⟩ := Kd.R_slice HO_6.out
          subst eo18
          go_wp2
          go_meet
          case rel => exact ⟨_, (x6_1), H', ⟨by have := HK1.out; first | omega | exact Nat.le_refl _⟩, ⟨by (with_reducible repeat (first | apply Kd.R_alloc | apply Kd.R_drewN | apply Kd.R_drew)); exact HO_5.out⟩, ⟨by (with_reducible repeat (first | apply Kd.R_alloc | apply Kd.R_drewN | apply Kd.R_drew)); exact HO_6.out⟩, ⟨by repeat (first | (with_reducible first | exact HB.out | apply below_alloc | apply pw_below_drewN | apply below_drew1) | exact HB.out)⟩⟩
  case rest =>
    clear HC5
    try clear c1
    try clear p1
    try clear q1
    try clear hx1
    try clear p2
    try clear p3
    try clear q3
    try clear hx3
    try clear c4
    try clear p6
    try clear c8
    try clear c8b0
    try clear c9
    try clear c9b0
    try clear c10
    try clear c10b0
    try clear c11
    try clear p11
    try clear q11
    try clear hx11
    try clear hf11
    try clear c13
    try clear c14
    try clear hx14
    try clear hf14
    try clear hx11_0
    try clear hx11_1
    try clear hx14_0
    try clear hx303_0
    try clear hx303_1
    try clear p11
    try clear p2
    try clear p303
    try clear q11
    try clear q303
    obtain ⟨kq, x6_4, HA, HJ4, HO_5, HO_6, HB⟩ := hcut
    cases kq with
    | zero => exact absurd HA.out (by simp [prebendlaw11_DrawLegs.j1])
    | succ kj4 =>
      have H := HA.out
      clear HA
      simp only [prebendlaw11_DrawLegs.j1] at H
      have HC19 := Aside0.mk H
      clear H
      go_upto_region 6 with (fail)
      go_cut [57] (fun v57 wc => ∃ (kq : Nat) (x57_18 : Bool), v57 = .bool x57_18 ∧ Aside0 (prebendlaw11_DrawLegs.j2 kq t297 x6_4 x57_18 = some r) ∧ Aside0 (kq ≤ kj4) ∧ Aside0 (Kd.R k37 37 wc w.heap.size (fun k_ => some k_ ≠ (v301 : Value).ownBlock) v298 t297) ∧ Aside0 (Kd.R k37 37 wc w.heap.size (fun k_ => some k_ ≠ (v298 : Value).ownBlock) v301 x6_4) ∧ Aside0 (Below w.heap.size w wc))
      case first =>
        have H := HC19.out
        clear HC19
        replace H := Option.bind_eq_some_iff.mp H
        obtain ⟨t305, A200, H⟩ := H
        replace H : ((prebendref11_Legs.f kj4 t297 t297 1 2 0).bind fun t308 => ((prebendref11_Same.f kj4 t305 t308).bind fun t311 => (if t311 = true then ((draw_Free.f kj4 t297).bind fun t312 => ((prebendref11_Legs.f kj4 t297 t297 2 1 0).bind fun t315 => ((prebendref11_Same.f kj4 t312 t315).bind fun t318 => (if t318 = true then ((draw_Back.f kj4 t297).bind fun t319 => ((prebendref11_Legs.f kj4 t297 t297 3 1 0).bind fun t322 => ((prebendref11_Same.f kj4 t319 t322).bind fun t325 => (prebendlaw11_DrawLegs.j2 kj4 t297 x6_4 (!t325))))) else (prebendlaw11_DrawLegs.j2 kj4 t297 x6_4 true))))) else (prebendlaw11_DrawLegs.j2 kj4 t297 x6_4 true)))) = some r := H
        have A20 := Aside0.mk A200
        clear A200
        replace H := Option.bind_eq_some_iff.mp H
        obtain ⟨t308, A210, H⟩ := H
        replace H : ((prebendref11_Same.f kj4 t305 t308).bind fun t311 => (if t311 = true then ((draw_Free.f kj4 t297).bind fun t312 => ((prebendref11_Legs.f kj4 t297 t297 2 1 0).bind fun t315 => ((prebendref11_Same.f kj4 t312 t315).bind fun t318 => (if t318 = true then ((draw_Back.f kj4 t297).bind fun t319 => ((prebendref11_Legs.f kj4 t297 t297 3 1 0).bind fun t322 => ((prebendref11_Same.f kj4 t319 t322).bind fun t325 => (prebendlaw11_DrawLegs.j2 kj4 t297 x6_4 (!t325))))) else (prebendlaw11_DrawLegs.j2 kj4 t297 x6_4 true))))) else (prebendlaw11_DrawLegs.j2 kj4 t297 x6_4 true))) = some r := H
        have A21 := Aside0.mk A210
        clear A210
        replace H := Option.bind_eq_some_iff.mp H
        obtain ⟨t311, A220, H⟩ := H
        replace H : (if t311 = true then ((draw_Free.f kj4 t297).bind fun t312 => ((prebendref11_Legs.f kj4 t297 t297 2 1 0).bind fun t315 => ((prebendref11_Same.f kj4 t312 t315).bind fun t318 => (if t318 = true then ((draw_Back.f kj4 t297).bind fun t319 => ((prebendref11_Legs.f kj4 t297 t297 3 1 0).bind fun t322 => ((prebendref11_Same.f kj4 t319 t322).bind fun t325 => (prebendlaw11_DrawLegs.j2 kj4 t297 x6_4 (!t325))))) else (prebendlaw11_DrawLegs.j2 kj4 t297 x6_4 true))))) else (prebendlaw11_DrawLegs.j2 kj4 t297 x6_4 true)) = some r := H
        have A22 := Aside0.mk A220
        clear A220
        by_cases c23 : t311 = true
        · subst c23
          have H1 : ((draw_Free.f kj4 t297).bind fun t312 => ((prebendref11_Legs.f kj4 t297 t297 2 1 0).bind fun t315 => ((prebendref11_Same.f kj4 t312 t315).bind fun t318 => (if t318 = true then ((draw_Back.f kj4 t297).bind fun t319 => ((prebendref11_Legs.f kj4 t297 t297 3 1 0).bind fun t322 => ((prebendref11_Same.f kj4 t319 t322).bind fun t325 => (prebendlaw11_DrawLegs.j2 kj4 t297 x6_4 (!t325))))) else (prebendlaw11_DrawLegs.j2 kj4 t297 x6_4 true))))) = some r := by rw [if_pos rfl] at H; exact H
          clear H
          have H := H1
          clear H1
          replace H := Option.bind_eq_some_iff.mp H
          obtain ⟨t312, A240, H⟩ := H
          replace H : ((prebendref11_Legs.f kj4 t297 t297 2 1 0).bind fun t315 => ((prebendref11_Same.f kj4 t312 t315).bind fun t318 => (if t318 = true then ((draw_Back.f kj4 t297).bind fun t319 => ((prebendref11_Legs.f kj4 t297 t297 3 1 0).bind fun t322 => ((prebendref11_Same.f kj4 t319 t322).bind fun t325 => (prebendlaw11_DrawLegs.j2 kj4 t297 x6_4 (!t325))))) else (prebendlaw11_DrawLegs.j2 kj4 t297 x6_4 true)))) = some r := H
          have A24 := Aside0.mk A240
          clear A240
          replace H := Option.bind_eq_some_iff.mp H
          obtain ⟨t315, A250, H⟩ := H
          replace H : ((prebendref11_Same.f kj4 t312 t315).bind fun t318 => (if t318 = true then ((draw_Back.f kj4 t297).bind fun t319 => ((prebendref11_Legs.f kj4 t297 t297 3 1 0).bind fun t322 => ((prebendref11_Same.f kj4 t319 t322).bind fun t325 => (prebendlaw11_DrawLegs.j2 kj4 t297 x6_4 (!t325))))) else (prebendlaw11_DrawLegs.j2 kj4 t297 x6_4 true))) = some r := H
          have A25 := Aside0.mk A250
          clear A250
          replace H := Option.bind_eq_some_iff.mp H
          obtain ⟨t318, A260, H⟩ := H
          replace H : (if t318 = true then ((draw_Back.f kj4 t297).bind fun t319 => ((prebendref11_Legs.f kj4 t297 t297 3 1 0).bind fun t322 => ((prebendref11_Same.f kj4 t319 t322).bind fun t325 => (prebendlaw11_DrawLegs.j2 kj4 t297 x6_4 (!t325))))) else (prebendlaw11_DrawLegs.j2 kj4 t297 x6_4 true)) = some r := H
          have A26 := Aside0.mk A260
          clear A260
          by_cases c27 : t318 = true
          · subst c27
            have H1 : ((draw_Back.f kj4 t297).bind fun t319 => ((prebendref11_Legs.f kj4 t297 t297 3 1 0).bind fun t322 => ((prebendref11_Same.f kj4 t319 t322).bind fun t325 => (prebendlaw11_DrawLegs.j2 kj4 t297 x6_4 (!t325))))) = some r := by rw [if_pos rfl] at H; exact H
            clear H
            have H := H1
            clear H1
            replace H := Option.bind_eq_some_iff.mp H
            obtain ⟨t319, A280, H⟩ := H
            replace H : ((prebendref11_Legs.f kj4 t297 t297 3 1 0).bind fun t322 => ((prebendref11_Same.f kj4 t319 t322).bind fun t325 => (prebendlaw11_DrawLegs.j2 kj4 t297 x6_4 (!t325)))) = some r := H
            have A28 := Aside0.mk A280
            clear A280
            replace H := Option.bind_eq_some_iff.mp H
            obtain ⟨t322, A290, H⟩ := H
            replace H : ((prebendref11_Same.f kj4 t319 t322).bind fun t325 => (prebendlaw11_DrawLegs.j2 kj4 t297 x6_4 (!t325))) = some r := H
            have A29 := Aside0.mk A290
            clear A290
            replace H := Option.bind_eq_some_iff.mp H
            obtain ⟨t325, A300, H⟩ := H
            replace H : (prebendlaw11_DrawLegs.j2 kj4 t297 x6_4 (!t325)) = some r := H
            have A30 := Aside0.mk A300
            clear A300
            have H' := Aside0.mk H
            clear H
            obtain ⟨Ao31, co31, eo31⟩ := Kd.R_slice HO_5.out
            subst eo31
            go_wp2_with (first | ((with_reducible refine gate_callee (f := 15) rfl ?_); refine goesL_ (some 34) rfl rfl Try.func15 (by kernel_rfl) rfl #[.slice Ao31 t297.length co31] rfl (by (try simp only [List.map_toArray, List.map_cons, List.map_nil]); first | done | rfl | (simp only [List.length_drop, List.length_take]; rfl)) ?_; (with_reducible refine (draw_Lien.calls kj4 _ _ t297 t305 _ ?side1 ?side2 A20.out).mono ?_); (case side1 => repeat (first | exact (Kd.R_reads' HO_5.out).2.2 | (with_reducible refine Kd.C_alloc ?_ _) | (with_reducible refine Kd.C_drewN ?_ _) | (with_reducible refine Kd.C_drew ?_))); (case side2 => exact (Kd.R_reads' HO_5.out).2.1); rintro e w32 ⟨v306, rfl, ho0, hb⟩; refine ⟨_, rfl, ?_⟩; have n0_ := Aside0.mk (Kd.R_below (by (with_reducible repeat (first | apply Kd.R_alloc | apply Kd.R_drewN | apply Kd.R_drew)); exact HO_5.out) hb); have n1_ := Aside0.mk (Kd.R_below (by (with_reducible repeat (first | apply Kd.R_alloc | apply Kd.R_drewN | apply Kd.R_drew)); exact HO_6.out) hb); have n2_ := Aside0.mk (Kd.V_lower (Kd.V_mono (ok' := fun k_ => some k_ ≠ (.slice Ao31 t297.length co31 : Value).ownBlock ∧ some k_ ≠ (v301 : Value).ownBlock) ho0 (fun k_ hk_ => ⟨(Kd.fresh' (Kd.R_lt (by (with_reducible repeat (first | apply Kd.R_alloc | apply Kd.R_drewN | apply Kd.R_drew)); exact HO_5.out)) k_ hk_), (Kd.fresh' (Kd.R_lt (by (with_reducible repeat (first | apply Kd.R_alloc | apply Kd.R_drewN | apply Kd.R_drew)); exact HO_6.out)) k_ hk_)⟩)) (below_size (by repeat (first | (with_reducible first | exact HB.out | apply below_alloc | apply pw_below_drewN | apply below_drew1) | exact HB.out)))); have n3_ := Aside0.mk (below_step (by repeat (first | (with_reducible first | exact HB.out | apply below_alloc | apply pw_below_drewN | apply below_drew1) | exact HB.out)) hb); clear HO_5; clear HO_6; clear HB; have HO_5 := n0_; have HO_6 := n1_; have HO307 := n2_; have HB := n3_; clear n0_ n1_ n2_ n3_; (try clear hb); (try clear hb2); (try clear hk); (try clear hi); (try clear ho0)) | ((with_reducible refine gate_callee (f := 16) rfl ?_); refine goesL_ (some 37) rfl rfl Try.func16 (by kernel_rfl) rfl #[.slice Ao31 t297.length co31, .slice Ao31 t297.length co31, .int .i64 1, .int .i64 2, .int .i64 0] rfl (by (try simp only [List.map_toArray, List.map_cons, List.map_nil]); first | done | rfl | (simp only [List.length_drop, List.length_take]; rfl)) ?_; (with_reducible refine (prebendref11_Legs.calls kj4 _ _ t297 _ _ t297 1 2 0 t308 _ ?side1 ?side2 ?side3 ?side4 A21.out).mono ?_); (case side1 => repeat (first | exact (Kd.R_reads' HO_5.out).2.2 | (with_reducible refine Kd.C_alloc ?_ _) | (with_reducible refine Kd.C_drewN ?_ _) | (with_reducible refine Kd.C_drew ?_))); (case side2 => exact (Kd.R_reads' HO_5.out).2.1); (case side3 => repeat (first | exact (Kd.R_reads' HO_5.out).2.2 | (with_reducible refine Kd.C_alloc ?_ _) | (with_reducible refine Kd.C_drewN ?_ _) | (with_reducible refine Kd.C_drew ?_))); (case side4 => exact (Kd.R_reads' HO_5.out).2.1); rintro e w33 ⟨v309, rfl, ho0, hb⟩; refine ⟨_, rfl, ?_⟩; have n0_ := Aside0.mk (Kd.R_below (by (with_reducible repeat (first | apply Kd.R_alloc | apply Kd.R_drewN | apply Kd.R_drew)); exact HO_5.out) hb); have n1_ := Aside0.mk (Kd.R_below (by (with_reducible repeat (first | apply Kd.R_alloc | apply Kd.R_drewN | apply Kd.R_drew)); exact HO_6.out) hb); have n2_ := Aside0.mk (Kd.V_elder' (by (with_reducible repeat (first | apply Kd.V_alloc | apply Kd.V_drewN | apply Kd.V_drew)); exact HO307.out) (Kd.R_base ho0) hb); have n3_ := Aside0.mk (Kd.R_lower ho0 (below_size (by repeat (first | (with_reducible first | exact HB.out | apply below_alloc | apply pw_below_drewN | apply below_drew1) | exact HB.out)))); have n4_ := Aside0.mk (below_step (by repeat (first | (with_reducible first | exact HB.out | apply below_alloc | apply pw_below_drewN | apply below_drew1) | exact HB.out)) hb); clear HO_5; clear HO_6; clear HO307; clear HB; have HO_5 := n0_; have HO_6 := n1_; have HO307 := n2_; have HO310 := n3_; have HB := n4_; clear n0_ n1_ n2_ n3_ n4_; (try clear hb); (try clear hb2); (try clear hk); (try clear hi); (try clear ho0); obtain ⟨Ao34, co34, eo34⟩ := Kd.V_slice HO307.out; subst eo34; obtain ⟨Ao35, co35, eo35⟩ := Kd.R_slice HO310.out; subst eo35) | ((with_reducible refine gate_callee (f := 14) rfl ?_); refine goesL_ (some 38) rfl rfl Try.func14 (by kernel_rfl) rfl #[.slice Ao34 t305.length co34, .slice Ao35 t308.length co35] rfl (by (try simp only [List.map_toArray, List.map_cons, List.map_nil]); first | done | rfl | (simp only [List.length_drop, List.length_take]; rfl)) ?_; (with_reducible refine (prebendref11_Same.calls kj4 _ _ t305 _ _ t308 true _ ?side1 ?side2 ?side3 ?side4 A22.out).mono ?_); (case side1 => repeat (first | exact (Kd.V_reads' HO307.out).2.2 | (with_reducible refine Kd.C_alloc ?_ _) | (with_reducible refine Kd.C_drewN ?_ _) | (with_reducible refine Kd.C_drew ?_))); (case side2 => exact (Kd.V_reads' HO307.out).2.1); (case side3 => repeat (first | exact (Kd.R_reads' HO310.out).2.2 | (with_reducible refine Kd.C_alloc ?_ _) | (with_reducible refine Kd.C_drewN ?_ _) | (with_reducible refine Kd.C_drew ?_))); (case side4 => exact (Kd.R_reads' HO310.out).2.1); rintro e w' ⟨rfl, ⟨nd, rfl⟩⟩; refine ⟨_, rfl, ?_⟩) | (go_at_call 17; (with_reducible refine (draw_Free.calls kj4 _ _ t297 t312 _ ?side1 ?side2 A24.out).mono ?_); (case side1 => repeat (first | exact (Kd.R_reads' HO_5.out).2.2 | (with_reducible refine Kd.C_alloc ?_ _) | (with_reducible refine Kd.C_drewN ?_ _) | (with_reducible refine Kd.C_drew ?_))); (case side2 => exact (Kd.R_reads' HO_5.out).2.1); rintro e w36 ⟨v313, rfl, ho0, hb⟩; have n0_ := Aside0.mk (Kd.R_below (by (with_reducible repeat (first | apply Kd.R_alloc | apply Kd.R_drewN | apply Kd.R_drew)); exact HO_5.out) hb); have n1_ := Aside0.mk (Kd.R_below (by (with_reducible repeat (first | apply Kd.R_alloc | apply Kd.R_drewN | apply Kd.R_drew)); exact HO_6.out) hb); have n2_ := Aside0.mk (Kd.V_below (by (with_reducible repeat (first | apply Kd.V_alloc | apply Kd.V_drewN | apply Kd.V_drew)); exact HO307.out) hb); have n3_ := Aside0.mk (Kd.R_below (by (with_reducible repeat (first | apply Kd.R_alloc | apply Kd.R_drewN | apply Kd.R_drew)); exact HO310.out) hb); have n4_ := Aside0.mk (Kd.V_lower (Kd.V_mono (ok' := fun k_ => some k_ ≠ (.slice Ao31 t297.length co31 : Value).ownBlock ∧ some k_ ≠ (v301 : Value).ownBlock ∧ some k_ ≠ (.slice Ao35 t308.length co35 : Value).ownBlock) ho0 (fun k_ hk_ => ⟨(Kd.fresh' (Kd.R_lt (by (with_reducible repeat (first | apply Kd.R_alloc | apply Kd.R_drewN | apply Kd.R_drew)); exact HO_5.out)) k_ hk_), (Kd.fresh' (Kd.R_lt (by (with_reducible repeat (first | apply Kd.R_alloc | apply Kd.R_drewN | apply Kd.R_drew)); exact HO_6.out)) k_ hk_), (Kd.fresh' (Kd.R_lt (by (with_reducible repeat (first | apply Kd.R_alloc | apply Kd.R_drewN | apply Kd.R_drew)); exact HO310.out)) k_ hk_)⟩)) (below_size (by repeat (first | (with_reducible first | exact HB.out | apply below_alloc | apply pw_below_drewN | apply below_drew1) | exact HB.out)))); have n5_ := Aside0.mk (below_step (by repeat (first | (with_reducible first | exact HB.out | apply below_alloc | apply pw_below_drewN | apply below_drew1) | exact HB.out)) hb); clear HO_5; clear HO_6; clear HO307; clear HO310; clear HB; have HO_5 := n0_; have HO_6 := n1_; have HO307 := n2_; have HO310 := n3_; have HO314 := n4_; have HB := n5_; clear n0_ n1_ n2_ n3_ n4_ n5_; (try clear hb); (try clear hb2); (try clear hk); (try clear hi); (try clear ho0)) | (go_at_call 16; (with_reducible refine (prebendref11_Legs.calls kj4 _ _ t297 _ _ t297 2 1 0 t315 _ ?side1 ?side2 ?side3 ?side4 A25.out).mono ?_); (case side1 => repeat (first | exact (Kd.R_reads' HO_5.out).2.2 | (with_reducible refine Kd.C_alloc ?_ _) | (with_reducible refine Kd.C_drewN ?_ _) | (with_reducible refine Kd.C_drew ?_))); (case side2 => exact (Kd.R_reads' HO_5.out).2.1); (case side3 => repeat (first | exact (Kd.R_reads' HO_5.out).2.2 | (with_reducible refine Kd.C_alloc ?_ _) | (with_reducible refine Kd.C_drewN ?_ _) | (with_reducible refine Kd.C_drew ?_))); (case side4 => exact (Kd.R_reads' HO_5.out).2.1); rintro e w37 ⟨v316, rfl, ho0, hb⟩; have n0_ := Aside0.mk (Kd.R_below (by (with_reducible repeat (first | apply Kd.R_alloc | apply Kd.R_drewN | apply Kd.R_drew)); exact HO_5.out) hb); have n1_ := Aside0.mk (Kd.R_below (by (with_reducible repeat (first | apply Kd.R_alloc | apply Kd.R_drewN | apply Kd.R_drew)); exact HO_6.out) hb); have n2_ := Aside0.mk (Kd.V_elder' (by (with_reducible repeat (first | apply Kd.V_alloc | apply Kd.V_drewN | apply Kd.V_drew)); exact HO307.out) (Kd.R_base ho0) hb); have n3_ := Aside0.mk (Kd.R_elder' (by (with_reducible repeat (first | apply Kd.R_alloc | apply Kd.R_drewN | apply Kd.R_drew)); exact HO310.out) (Kd.R_base ho0) hb); have n4_ := Aside0.mk (Kd.V_elder' (by (with_reducible repeat (first | apply Kd.V_alloc | apply Kd.V_drewN | apply Kd.V_drew)); exact HO314.out) (Kd.R_base ho0) hb); have n5_ := Aside0.mk (Kd.R_lower (Kd.R_new' ho0 (Kd.R_lt (by (with_reducible repeat (first | apply Kd.R_alloc | apply Kd.R_drewN | apply Kd.R_drew)); exact HO310.out))) (below_size (by repeat (first | (with_reducible first | exact HB.out | apply below_alloc | apply pw_below_drewN | apply below_drew1) | exact HB.out)))); have n6_ := Aside0.mk (below_step (by repeat (first | (with_reducible first | exact HB.out | apply below_alloc | apply pw_below_drewN | apply below_drew1) | exact HB.out)) hb); clear HO_5; clear HO_6; clear HO307; clear HO310; clear HO314; clear HB; have HO_5 := n0_; have HO_6 := n1_; have HO307 := n2_; have HO310 := n3_; have HO314 := n4_; have HO317 := n5_; have HB := n6_; clear n0_ n1_ n2_ n3_ n4_ n5_ n6_; (try clear hb); (try clear hb2); (try clear hk); (try clear hi); (try clear ho0); obtain ⟨Ao38, co38, eo38⟩ := Kd.V_slice HO314.out; subst eo38; obtain ⟨Ao39, co39, eo39⟩ := Kd.R_slice HO317.out; subst eo39) | (go_at_call 14; (with_reducible refine (prebendref11_Same.calls kj4 _ _ t312 _ _ t315 true _ ?side1 ?side2 ?side3 ?side4 A26.out).mono ?_); (case side1 => repeat (first | exact (Kd.V_reads' HO314.out).2.2 | (with_reducible refine Kd.C_alloc ?_ _) | (with_reducible refine Kd.C_drewN ?_ _) | (with_reducible refine Kd.C_drew ?_))); (case side2 => exact (Kd.V_reads' HO314.out).2.1); (case side3 => repeat (first | exact (Kd.R_reads' HO317.out).2.2 | (with_reducible refine Kd.C_alloc ?_ _) | (with_reducible refine Kd.C_drewN ?_ _) | (with_reducible refine Kd.C_drew ?_))); (case side4 => exact (Kd.R_reads' HO317.out).2.1); rintro e w' ⟨rfl, ⟨nd, rfl⟩⟩) | (go_at_call 18; (with_reducible refine (draw_Back.calls kj4 _ _ t297 t319 _ ?side1 ?side2 A28.out).mono ?_); (case side1 => repeat (first | exact (Kd.R_reads' HO_5.out).2.2 | (with_reducible refine Kd.C_alloc ?_ _) | (with_reducible refine Kd.C_drewN ?_ _) | (with_reducible refine Kd.C_drew ?_))); (case side2 => exact (Kd.R_reads' HO_5.out).2.1); rintro e w40 ⟨v320, rfl, ho0, hb⟩; have n0_ := Aside0.mk (Kd.R_below (by (with_reducible repeat (first | apply Kd.R_alloc | apply Kd.R_drewN | apply Kd.R_drew)); exact HO_5.out) hb); have n1_ := Aside0.mk (Kd.R_below (by (with_reducible repeat (first | apply Kd.R_alloc | apply Kd.R_drewN | apply Kd.R_drew)); exact HO_6.out) hb); have n2_ := Aside0.mk (Kd.V_below (by (with_reducible repeat (first | apply Kd.V_alloc | apply Kd.V_drewN | apply Kd.V_drew)); exact HO307.out) hb); have n3_ := Aside0.mk (Kd.R_below (by (with_reducible repeat (first | apply Kd.R_alloc | apply Kd.R_drewN | apply Kd.R_drew)); exact HO310.out) hb); have n4_ := Aside0.mk (Kd.V_below (by (with_reducible repeat (first | apply Kd.V_alloc | apply Kd.V_drewN | apply Kd.V_drew)); exact HO314.out) hb); have n5_ := Aside0.mk (Kd.R_below (by (with_reducible repeat (first | apply Kd.R_alloc | apply Kd.R_drewN | apply Kd.R_drew)); exact HO317.out) hb); have n6_ := Aside0.mk (Kd.V_lower (Kd.V_mono (ok' := fun k_ => some k_ ≠ (.slice Ao31 t297.length co31 : Value).ownBlock ∧ some k_ ≠ (v301 : Value).ownBlock ∧ some k_ ≠ (.slice Ao35 t308.length co35 : Value).ownBlock ∧ some k_ ≠ (.slice Ao39 t315.length co39 : Value).ownBlock) ho0 (fun k_ hk_ => ⟨(Kd.fresh' (Kd.R_lt (by (with_reducible repeat (first | apply Kd.R_alloc | apply Kd.R_drewN | apply Kd.R_drew)); exact HO_5.out)) k_ hk_), (Kd.fresh' (Kd.R_lt (by (with_reducible repeat (first | apply Kd.R_alloc | apply Kd.R_drewN | apply Kd.R_drew)); exact HO_6.out)) k_ hk_), (Kd.fresh' (Kd.R_lt (by (with_reducible repeat (first | apply Kd.R_alloc | apply Kd.R_drewN | apply Kd.R_drew)); exact HO310.out)) k_ hk_), (Kd.fresh' (Kd.R_lt (by (with_reducible repeat (first | apply Kd.R_alloc | apply Kd.R_drewN | apply Kd.R_drew)); exact HO317.out)) k_ hk_)⟩)) (below_size (by repeat (first | (with_reducible first | exact HB.out | apply below_alloc | apply pw_below_drewN | apply below_drew1) | exact HB.out)))); have n7_ := Aside0.mk (below_step (by repeat (first | (with_reducible first | exact HB.out | apply below_alloc | apply pw_below_drewN | apply below_drew1) | exact HB.out)) hb); clear HO_5; clear HO_6; clear HO307; clear HO310; clear HO314; clear HO317; clear HB; have HO_5 := n0_; have HO_6 := n1_; have HO307 := n2_; have HO310 := n3_; have HO314 := n4_; have HO317 := n5_; have HO321 := n6_; have HB := n7_; clear n0_ n1_ n2_ n3_ n4_ n5_ n6_ n7_; (try clear hb); (try clear hb2); (try clear hk); (try clear hi); (try clear ho0)) | (go_at_call 16; (with_reducible refine (prebendref11_Legs.calls kj4 _ _ t297 _ _ t297 3 1 0 t322 _ ?side1 ?side2 ?side3 ?side4 A29.out).mono ?_); (case side1 => repeat (first | exact (Kd.R_reads' HO_5.out).2.2 | (with_reducible refine Kd.C_alloc ?_ _) | (with_reducible refine Kd.C_drewN ?_ _) | (with_reducible refine Kd.C_drew ?_))); (case side2 => exact (Kd.R_reads' HO_5.out).2.1); (case side3 => repeat (first | exact (Kd.R_reads' HO_5.out).2.2 | (with_reducible refine Kd.C_alloc ?_ _) | (with_reducible refine Kd.C_drewN ?_ _) | (with_reducible refine Kd.C_drew ?_))); (case side4 => exact (Kd.R_reads' HO_5.out).2.1); rintro e w41 ⟨v323, rfl, ho0, hb⟩; have n0_ := Aside0.mk (Kd.R_below (by (with_reducible repeat (first | apply Kd.R_alloc | apply Kd.R_drewN | apply Kd.R_drew)); exact HO_5.out) hb); have n1_ := Aside0.mk (Kd.R_below (by (with_reducible repeat (first | apply Kd.R_alloc | apply Kd.R_drewN | apply Kd.R_drew)); exact HO_6.out) hb); have n2_ := Aside0.mk (Kd.V_elder' (by (with_reducible repeat (first | apply Kd.V_alloc | apply Kd.V_drewN | apply Kd.V_drew)); exact HO307.out) (Kd.R_base ho0) hb); have n3_ := Aside0.mk (Kd.R_elder' (by (with_reducible repeat (first | apply Kd.R_alloc | apply Kd.R_drewN | apply Kd.R_drew)); exact HO310.out) (Kd.R_base ho0) hb); have n4_ := Aside0.mk (Kd.V_elder' (by (with_reducible repeat (first | apply Kd.V_alloc | apply Kd.V_drewN | apply Kd.V_drew)); exact HO314.out) (Kd.R_base ho0) hb); have n5_ := Aside0.mk (Kd.R_elder' (by (with_reducible repeat (first | apply Kd.R_alloc | apply Kd.R_drewN | apply Kd.R_drew)); exact HO317.out) (Kd.R_base ho0) hb); have n6_ := Aside0.mk (Kd.V_elder' (by (with_reducible repeat (first | apply Kd.V_alloc | apply Kd.V_drewN | apply Kd.V_drew)); exact HO321.out) (Kd.R_base ho0) hb); have n7_ := Aside0.mk (Kd.R_lower (Kd.R_new' (Kd.R_new' ho0 (Kd.R_lt (by (with_reducible repeat (first | apply Kd.R_alloc | apply Kd.R_drewN | apply Kd.R_drew)); exact HO310.out))) (Kd.R_lt (by (with_reducible repeat (first | apply Kd.R_alloc | apply Kd.R_drewN | apply Kd.R_drew)); exact HO317.out))) (below_size (by repeat (first | (with_reducible first | exact HB.out | apply below_alloc | apply pw_below_drewN | apply below_drew1) | exact HB.out)))); have n8_ := Aside0.mk (below_step (by repeat (first | (with_reducible first | exact HB.out | apply below_alloc | apply pw_below_drewN | apply below_drew1) | exact HB.out)) hb); clear HO_5; clear HO_6; clear HO307; clear HO310; clear HO314; clear HO317; clear HO321; clear HB; have HO_5 := n0_; have HO_6 := n1_; have HO307 := n2_; have HO310 := n3_; have HO314 := n4_; have HO317 := n5_; have HO321 := n6_; have HO324 := n7_; have HB := n8_; clear n0_ n1_ n2_ n3_ n4_ n5_ n6_ n7_ n8_; (try clear hb); (try clear hb2); (try clear hk); (try clear hi); (try clear ho0); obtain ⟨Ao42, co42, eo42⟩ := Kd.V_slice HO321.out; subst eo42; obtain ⟨Ao43, co43, eo43⟩ := Kd.R_slice HO324.out; subst eo43) | (go_at_call 14; (with_reducible refine (prebendref11_Same.calls kj4 _ _ t319 _ _ t322 t325 _ ?side1 ?side2 ?side3 ?side4 A30.out).mono ?_); (case side1 => repeat (first | exact (Kd.V_reads' HO321.out).2.2 | (with_reducible refine Kd.C_alloc ?_ _) | (with_reducible refine Kd.C_drewN ?_ _) | (with_reducible refine Kd.C_drew ?_))); (case side2 => exact (Kd.V_reads' HO321.out).2.1); (case side3 => repeat (first | exact (Kd.R_reads' HO324.out).2.2 | (with_reducible refine Kd.C_alloc ?_ _) | (with_reducible refine Kd.C_drewN ?_ _) | (with_reducible refine Kd.C_drew ?_))); (case side4 => exact (Kd.R_reads' HO324.out).2.1); rintro e w' ⟨rfl, ⟨nd, rfl⟩⟩))
            go_meet
            case rel => exact ⟨_, (!t325), (by first | rfl | (simp; done) | (simp [*]; done)), H', ⟨by have := HJ4.out; first | omega | exact Nat.le_refl _⟩, ⟨by (with_reducible repeat (first | apply Kd.R_alloc | apply Kd.R_drewN | apply Kd.R_drew)); exact HO_5.out⟩, ⟨by (with_reducible repeat (first | apply Kd.R_alloc | apply Kd.R_drewN | apply Kd.R_drew)); exact HO_6.out⟩, ⟨by repeat (first | (with_reducible first | exact HB.out | apply below_alloc | apply pw_below_drewN | apply below_drew1) | exact HB.out)⟩⟩
          · replace c27 := Bool.eq_false_iff.mpr c27
            subst c27
            have H1 : (prebendlaw11_DrawLegs.j2 kj4 t297 x6_4 true) = some r := by rw [if_neg (show ¬ (false = true) by decide)] at H; exact H
            clear H
            have H := H1
            clear H1
            have H' := Aside0.mk H
            clear H
            obtain ⟨Ao44, co44, eo44⟩ := Kd.R_slice HO_5.out
            subst eo44
            go_wp2_with (first | ((with_reducible refine gate_callee (f := 15) rfl ?_); refine goesL_ (some 34) rfl rfl Try.func15 (by kernel_rfl) rfl #[.slice Ao44 t297.length co44] rfl (by (try simp only [List.map_toArray, List.map_cons, List.map_nil]); first | done | rfl | (simp only [List.length_drop, List.length_take]; rfl)) ?_; (with_reducible refine (draw_Lien.calls kj4 _ _ t297 t305 _ ?side1 ?side2 A20.out).mono ?_); (case side1 => repeat (first | exact (Kd.R_reads' HO_5.out).2.2 | (with_reducible refine Kd.C_alloc ?_ _) | (with_reducible refine Kd.C_drewN ?_ _) | (with_reducible refine Kd.C_drew ?_))); (case side2 => exact (Kd.R_reads' HO_5.out).2.1); rintro e w45 ⟨v306, rfl, ho0, hb⟩; refine ⟨_, rfl, ?_⟩; have n0_ := Aside0.mk (Kd.R_below (by (with_reducible repeat (first | apply Kd.R_alloc | apply Kd.R_drewN | apply Kd.R_drew)); exact HO_5.out) hb); have n1_ := Aside0.mk (Kd.R_below (by (with_reducible repeat (first | apply Kd.R_alloc | apply Kd.R_drewN | apply Kd.R_drew)); exact HO_6.out) hb); have n2_ := Aside0.mk (Kd.V_lower (Kd.V_mono (ok' := fun k_ => some k_ ≠ (.slice Ao44 t297.length co44 : Value).ownBlock ∧ some k_ ≠ (v301 : Value).ownBlock) ho0 (fun k_ hk_ => ⟨(Kd.fresh' (Kd.R_lt (by (with_reducible repeat (first | apply Kd.R_alloc | apply Kd.R_drewN | apply Kd.R_drew)); exact HO_5.out)) k_ hk_), (Kd.fresh' (Kd.R_lt (by (with_reducible repeat (first | apply Kd.R_alloc | apply Kd.R_drewN | apply Kd.R_drew)); exact HO_6.out)) k_ hk_)⟩)) (below_size (by repeat (first | (with_reducible first | exact HB.out | apply below_alloc | apply pw_below_drewN | apply below_drew1) | exact HB.out)))); have n3_ := Aside0.mk (below_step (by repeat (first | (with_reducible first | exact HB.out | apply below_alloc | apply pw_below_drewN | apply below_drew1) | exact HB.out)) hb); clear HO_5; clear HO_6; clear HB; have HO_5 := n0_; have HO_6 := n1_; have HO307 := n2_; have HB := n3_; clear n0_ n1_ n2_ n3_; (try clear hb); (try clear hb2); (try clear hk); (try clear hi); (try clear ho0)) | ((with_reducible refine gate_callee (f := 16) rfl ?_); refine goesL_ (some 37) rfl rfl Try.func16 (by kernel_rfl) rfl #[.slice Ao44 t297.length co44, .slice Ao44 t297.length co44, .int .i64 1, .int .i64 2, .int .i64 0] rfl (by (try simp only [List.map_toArray, List.map_cons, List.map_nil]); first | done | rfl | (simp only [List.length_drop, List.length_take]; rfl)) ?_; (with_reducible refine (prebendref11_Legs.calls kj4 _ _ t297 _ _ t297 1 2 0 t308 _ ?side1 ?side2 ?side3 ?side4 A21.out).mono ?_); (case side1 => repeat (first | exact (Kd.R_reads' HO_5.out).2.2 | (with_reducible refine Kd.C_alloc ?_ _) | (with_reducible refine Kd.C_drewN ?_ _) | (with_reducible refine Kd.C_drew ?_))); (case side2 => exact (Kd.R_reads' HO_5.out).2.1); (case side3 => repeat (first | exact (Kd.R_reads' HO_5.out).2.2 | (with_reducible refine Kd.C_alloc ?_ _) | (with_reducible refine Kd.C_drewN ?_ _) | (with_reducible refine Kd.C_drew ?_))); (case side4 => exact (Kd.R_reads' HO_5.out).2.1); rintro e w46 ⟨v309, rfl, ho0, hb⟩; refine ⟨_, rfl, ?_⟩; have n0_ := Aside0.mk (Kd.R_below (by (with_reducible repeat (first | apply Kd.R_alloc | apply Kd.R_drewN | apply Kd.R_drew)); exact HO_5.out) hb); have n1_ := Aside0.mk (Kd.R_below (by (with_reducible repeat (first | apply Kd.R_alloc | apply Kd.R_drewN | apply Kd.R_drew)); exact HO_6.out) hb); have n2_ := Aside0.mk (Kd.V_elder' (by (with_reducible repeat (first | apply Kd.V_alloc | apply Kd.V_drewN | apply Kd.V_drew)); exact HO307.out) (Kd.R_base ho0) hb); have n3_ := Aside0.mk (Kd.R_lower ho0 (below_size (by repeat (first | (with_reducible first | exact HB.out | apply below_alloc | apply pw_below_drewN | apply below_drew1) | exact HB.out)))); have n4_ := Aside0.mk (below_step (by repeat (first | (with_reducible first | exact HB.out | apply below_alloc | apply pw_below_drewN | apply below_drew1) | exact HB.out)) hb); clear HO_5; clear HO_6; clear HO307; clear HB; have HO_5 := n0_; have HO_6 := n1_; have HO307 := n2_; have HO310 := n3_; have HB := n4_; clear n0_ n1_ n2_ n3_ n4_; (try clear hb); (try clear hb2); (try clear hk); (try clear hi); (try clear ho0); obtain ⟨Ao47, co47, eo47⟩ := Kd.V_slice HO307.out; subst eo47; obtain ⟨Ao48, co48, eo48⟩ := Kd.R_slice HO310.out; subst eo48) | ((with_reducible refine gate_callee (f := 14) rfl ?_); refine goesL_ (some 38) rfl rfl Try.func14 (by kernel_rfl) rfl #[.slice Ao47 t305.length co47, .slice Ao48 t308.length co48] rfl (by (try simp only [List.map_toArray, List.map_cons, List.map_nil]); first | done | rfl | (simp only [List.length_drop, List.length_take]; rfl)) ?_; (with_reducible refine (prebendref11_Same.calls kj4 _ _ t305 _ _ t308 true _ ?side1 ?side2 ?side3 ?side4 A22.out).mono ?_); (case side1 => repeat (first | exact (Kd.V_reads' HO307.out).2.2 | (with_reducible refine Kd.C_alloc ?_ _) | (with_reducible refine Kd.C_drewN ?_ _) | (with_reducible refine Kd.C_drew ?_))); (case side2 => exact (Kd.V_reads' HO307.out).2.1); (case side3 => repeat (first | exact (Kd.R_reads' HO310.out).2.2 | (with_reducible refine Kd.C_alloc ?_ _) | (with_reducible refine Kd.C_drewN ?_ _) | (with_reducible refine Kd.C_drew ?_))); (case side4 => exact (Kd.R_reads' HO310.out).2.1); rintro e w' ⟨rfl, ⟨nd, rfl⟩⟩; refine ⟨_, rfl, ?_⟩) | (go_at_call 17; (with_reducible refine (draw_Free.calls kj4 _ _ t297 t312 _ ?side1 ?side2 A24.out).mono ?_); (case side1 => repeat (first | exact (Kd.R_reads' HO_5.out).2.2 | (with_reducible refine Kd.C_alloc ?_ _) | (with_reducible refine Kd.C_drewN ?_ _) | (with_reducible refine Kd.C_drew ?_))); (case side2 => exact (Kd.R_reads' HO_5.out).2.1); rintro e w49 ⟨v313, rfl, ho0, hb⟩; have n0_ := Aside0.mk (Kd.R_below (by (with_reducible repeat (first | apply Kd.R_alloc | apply Kd.R_drewN | apply Kd.R_drew)); exact HO_5.out) hb); have n1_ := Aside0.mk (Kd.R_below (by (with_reducible repeat (first | apply Kd.R_alloc | apply Kd.R_drewN | apply Kd.R_drew)); exact HO_6.out) hb); have n2_ := Aside0.mk (Kd.V_below (by (with_reducible repeat (first | apply Kd.V_alloc | apply Kd.V_drewN | apply Kd.V_drew)); exact HO307.out) hb); have n3_ := Aside0.mk (Kd.R_below (by (with_reducible repeat (first | apply Kd.R_alloc | apply Kd.R_drewN | apply Kd.R_drew)); exact HO310.out) hb); have n4_ := Aside0.mk (Kd.V_lower (Kd.V_mono (ok' := fun k_ => some k_ ≠ (.slice Ao44 t297.length co44 : Value).ownBlock ∧ some k_ ≠ (v301 : Value).ownBlock ∧ some k_ ≠ (.slice Ao48 t308.length co48 : Value).ownBlock) ho0 (fun k_ hk_ => ⟨(Kd.fresh' (Kd.R_lt (by (with_reducible repeat (first | apply Kd.R_alloc | apply Kd.R_drewN | apply Kd.R_drew)); exact HO_5.out)) k_ hk_), (Kd.fresh' (Kd.R_lt (by (with_reducible repeat (first | apply Kd.R_alloc | apply Kd.R_drewN | apply Kd.R_drew)); exact HO_6.out)) k_ hk_), (Kd.fresh' (Kd.R_lt (by (with_reducible repeat (first | apply Kd.R_alloc | apply Kd.R_drewN | apply Kd.R_drew)); exact HO310.out)) k_ hk_)⟩)) (below_size (by repeat (first | (with_reducible first | exact HB.out | apply below_alloc | apply pw_below_drewN | apply below_drew1) | exact HB.out)))); have n5_ := Aside0.mk (below_step (by repeat (first | (with_reducible first | exact HB.out | apply below_alloc | apply pw_below_drewN | apply below_drew1) | exact HB.out)) hb); clear HO_5; clear HO_6; clear HO307; clear HO310; clear HB; have HO_5 := n0_; have HO_6 := n1_; have HO307 := n2_; have HO310 := n3_; have HO314 := n4_; have HB := n5_; clear n0_ n1_ n2_ n3_ n4_ n5_; (try clear hb); (try clear hb2); (try clear hk); (try clear hi); (try clear ho0)) | (go_at_call 16; (with_reducible refine (prebendref11_Legs.calls kj4 _ _ t297 _ _ t297 2 1 0 t315 _ ?side1 ?side2 ?side3 ?side4 A25.out).mono ?_); (case side1 => repeat (first | exact (Kd.R_reads' HO_5.out).2.2 | (with_reducible refine Kd.C_alloc ?_ _) | (with_reducible refine Kd.C_drewN ?_ _) | (with_reducible refine Kd.C_drew ?_))); (case side2 => exact (Kd.R_reads' HO_5.out).2.1); (case side3 => repeat (first | exact (Kd.R_reads' HO_5.out).2.2 | (with_reducible refine Kd.C_alloc ?_ _) | (with_reducible refine Kd.C_drewN ?_ _) | (with_reducible refine Kd.C_drew ?_))); (case side4 => exact (Kd.R_reads' HO_5.out).2.1); rintro e w50 ⟨v316, rfl, ho0, hb⟩; have n0_ := Aside0.mk (Kd.R_below (by (with_reducible repeat (first | apply Kd.R_alloc | apply Kd.R_drewN | apply Kd.R_drew)); exact HO_5.out) hb); have n1_ := Aside0.mk (Kd.R_below (by (with_reducible repeat (first | apply Kd.R_alloc | apply Kd.R_drewN | apply Kd.R_drew)); exact HO_6.out) hb); have n2_ := Aside0.mk (Kd.V_elder' (by (with_reducible repeat (first | apply Kd.V_alloc | apply Kd.V_drewN | apply Kd.V_drew)); exact HO307.out) (Kd.R_base ho0) hb); have n3_ := Aside0.mk (Kd.R_elder' (by (with_reducible repeat (first | apply Kd.R_alloc | apply Kd.R_drewN | apply Kd.R_drew)); exact HO310.out) (Kd.R_base ho0) hb); have n4_ := Aside0.mk (Kd.V_elder' (by (with_reducible repeat (first | apply Kd.V_alloc | apply Kd.V_drewN | apply Kd.V_drew)); exact HO314.out) (Kd.R_base ho0) hb); have n5_ := Aside0.mk (Kd.R_lower (Kd.R_new' ho0 (Kd.R_lt (by (with_reducible repeat (first | apply Kd.R_alloc | apply Kd.R_drewN | apply Kd.R_drew)); exact HO310.out))) (below_size (by repeat (first | (with_reducible first | exact HB.out | apply below_alloc | apply pw_below_drewN | apply below_drew1) | exact HB.out)))); have n6_ := Aside0.mk (below_step (by repeat (first | (with_reducible first | exact HB.out | apply below_alloc | apply pw_below_drewN | apply below_drew1) | exact HB.out)) hb); clear HO_5; clear HO_6; clear HO307; clear HO310; clear HO314; clear HB; have HO_5 := n0_; have HO_6 := n1_; have HO307 := n2_; have HO310 := n3_; have HO314 := n4_; have HO317 := n5_; have HB := n6_; clear n0_ n1_ n2_ n3_ n4_ n5_ n6_; (try clear hb); (try clear hb2); (try clear hk); (try clear hi); (try clear ho0); obtain ⟨Ao51, co51, eo51⟩ := Kd.V_slice HO314.out; subst eo51; obtain ⟨Ao52, co52, eo52⟩ := Kd.R_slice HO317.out; subst eo52) | (go_at_call 14; (with_reducible refine (prebendref11_Same.calls kj4 _ _ t312 _ _ t315 false _ ?side1 ?side2 ?side3 ?side4 A26.out).mono ?_); (case side1 => repeat (first | exact (Kd.V_reads' HO314.out).2.2 | (with_reducible refine Kd.C_alloc ?_ _) | (with_reducible refine Kd.C_drewN ?_ _) | (with_reducible refine Kd.C_drew ?_))); (case side2 => exact (Kd.V_reads' HO314.out).2.1); (case side3 => repeat (first | exact (Kd.R_reads' HO317.out).2.2 | (with_reducible refine Kd.C_alloc ?_ _) | (with_reducible refine Kd.C_drewN ?_ _) | (with_reducible refine Kd.C_drew ?_))); (case side4 => exact (Kd.R_reads' HO317.out).2.1); rintro e w' ⟨rfl, ⟨nd, rfl⟩⟩))
            go_meet
            case rel => exact ⟨_, (true), (by first | rfl | (simp; done) | (simp [*]; done)), H', ⟨by have := HJ4.out; first | omega | exact Nat.le_refl _⟩, ⟨by (with_reducible repeat (first | apply Kd.R_alloc | apply Kd.R_drewN | apply Kd.R_drew)); exact HO_5.out⟩, ⟨by (with_reducible repeat (first | apply Kd.R_alloc | apply Kd.R_drewN | apply Kd.R_drew)); exact HO_6.out⟩, ⟨by repeat (first | (with_reducible first | exact HB.out | apply below_alloc | apply pw_below_drewN | apply below_drew1) | exact HB.out)⟩⟩
        · replace c23 := Bool.eq_false_iff.mpr c23
          subst c23
          have H1 : (prebendlaw11_DrawLegs.j2 kj4 t297 x6_4 true) = some r := by rw [if_neg (show ¬ (false = true) by decide)] at H; exact H
          clear H
          have H := H1
          clear H1
          have H' := Aside0.mk H
          clear H
          obtain ⟨Ao53, co53, eo53⟩ := Kd.R_slice HO_5.out
          subst eo53
          go_wp2_with (first | ((with_reducible refine gate_callee (f := 15) rfl ?_); refine goesL_ (some 34) rfl rfl Try.func15 (by kernel_rfl) rfl #[.slice Ao53 t297.length co53] rfl (by (try simp only [List.map_toArray, List.map_cons, List.map_nil]); first | done | rfl | (simp only [List.length_drop, List.length_take]; rfl)) ?_; (with_reducible refine (draw_Lien.calls kj4 _ _ t297 t305 _ ?side1 ?side2 A20.out).mono ?_); (case side1 => repeat (first | exact (Kd.R_reads' HO_5.out).2.2 | (with_reducible refine Kd.C_alloc ?_ _) | (with_reducible refine Kd.C_drewN ?_ _) | (with_reducible refine Kd.C_drew ?_))); (case side2 => exact (Kd.R_reads' HO_5.out).2.1); rintro e w54 ⟨v306, rfl, ho0, hb⟩; refine ⟨_, rfl, ?_⟩; have n0_ := Aside0.mk (Kd.R_below (by (with_reducible repeat (first | apply Kd.R_alloc | apply Kd.R_drewN | apply Kd.R_drew)); exact HO_5.out) hb); have n1_ := Aside0.mk (Kd.R_below (by (with_reducible repeat (first | apply Kd.R_alloc | apply Kd.R_drewN | apply Kd.R_drew)); exact HO_6.out) hb); have n2_ := Aside0.mk (Kd.V_lower (Kd.V_mono (ok' := fun k_ => some k_ ≠ (.slice Ao53 t297.length co53 : Value).ownBlock ∧ some k_ ≠ (v301 : Value).ownBlock) ho0 (fun k_ hk_ => ⟨(Kd.fresh' (Kd.R_lt (by (with_reducible repeat (first | apply Kd.R_alloc | apply Kd.R_drewN | apply Kd.R_drew)); exact HO_5.out)) k_ hk_), (Kd.fresh' (Kd.R_lt (by (with_reducible repeat (first | apply Kd.R_alloc | apply Kd.R_drewN | apply Kd.R_drew)); exact HO_6.out)) k_ hk_)⟩)) (below_size (by repeat (first | (with_reducible first | exact HB.out | apply below_alloc | apply pw_below_drewN | apply below_drew1) | exact HB.out)))); have n3_ := Aside0.mk (below_step (by repeat (first | (with_reducible first | exact HB.out | apply below_alloc | apply pw_below_drewN | apply below_drew1) | exact HB.out)) hb); clear HO_5; clear HO_6; clear HB; have HO_5 := n0_; have HO_6 := n1_; have HO307 := n2_; have HB := n3_; clear n0_ n1_ n2_ n3_; (try clear hb); (try clear hb2); (try clear hk); (try clear hi); (try clear ho0)) | ((with_reducible refine gate_callee (f := 16) rfl ?_); refine goesL_ (some 37) rfl rfl Try.func16 (by kernel_rfl) rfl #[.slice Ao53 t297.length co53, .slice Ao53 t297.length co53, .int .i64 1, .int .i64 2, .int .i64 0] rfl (by (try simp only [List.map_toArray, List.map_cons, List.map_nil]); first | done | rfl | (simp only [List.length_drop, List.length_take]; rfl)) ?_; (with_reducible refine (prebendref11_Legs.calls kj4 _ _ t297 _ _ t297 1 2 0 t308 _ ?side1 ?side2 ?side3 ?side4 A21.out).mono ?_); (case side1 => repeat (first | exact (Kd.R_reads' HO_5.out).2.2 | (with_reducible refine Kd.C_alloc ?_ _) | (with_reducible refine Kd.C_drewN ?_ _) | (with_reducible refine Kd.C_drew ?_))); (case side2 => exact (Kd.R_reads' HO_5.out).2.1); (case side3 => repeat (first | exact (Kd.R_reads' HO_5.out).2.2 | (with_reducible refine Kd.C_alloc ?_ _) | (with_reducible refine Kd.C_drewN ?_ _) | (with_reducible refine Kd.C_drew ?_))); (case side4 => exact (Kd.R_reads' HO_5.out).2.1); rintro e w55 ⟨v309, rfl, ho0, hb⟩; refine ⟨_, rfl, ?_⟩; have n0_ := Aside0.mk (Kd.R_below (by (with_reducible repeat (first | apply Kd.R_alloc | apply Kd.R_drewN | apply Kd.R_drew)); exact HO_5.out) hb); have n1_ := Aside0.mk (Kd.R_below (by (with_reducible repeat (first | apply Kd.R_alloc | apply Kd.R_drewN | apply Kd.R_drew)); exact HO_6.out) hb); have n2_ := Aside0.mk (Kd.V_elder' (by (with_reducible repeat (first | apply Kd.V_alloc | apply Kd.V_drewN | apply Kd.V_drew)); exact HO307.out) (Kd.R_base ho0) hb); have n3_ := Aside0.mk (Kd.R_lower ho0 (below_size (by repeat (first | (with_reducible first | exact HB.out | apply below_alloc | apply pw_below_drewN | apply below_drew1) | exact HB.out)))); have n4_ := Aside0.mk (below_step (by repeat (first | (with_reducible first | exact HB.out | apply below_alloc | apply pw_below_drewN | apply below_drew1) | exact HB.out)) hb); clear HO_5; clear HO_6; clear HO307; clear HB; have HO_5 := n0_; have HO_6 := n1_; have HO307 := n2_; have HO310 := n3_; have HB := n4_; clear n0_ n1_ n2_ n3_ n4_; (try clear hb); (try clear hb2); (try clear hk); (try clear hi); (try clear ho0); obtain ⟨Ao56, co56, eo56⟩ := Kd.V_slice HO307.out; subst eo56; obtain ⟨Ao57, co57, eo57⟩ := Kd.R_slice HO310.out; subst eo57) | ((with_reducible refine gate_callee (f := 14) rfl ?_); refine goesL_ (some 38) rfl rfl Try.func14 (by kernel_rfl) rfl #[.slice Ao56 t305.length co56, .slice Ao57 t308.length co57] rfl (by (try simp only [List.map_toArray, List.map_cons, List.map_nil]); first | done | rfl | (simp only [List.length_drop, List.length_take]; rfl)) ?_; (with_reducible refine (prebendref11_Same.calls kj4 _ _ t305 _ _ t308 false _ ?side1 ?side2 ?side3 ?side4 A22.out).mono ?_); (case side1 => repeat (first | exact (Kd.V_reads' HO307.out).2.2 | (with_reducible refine Kd.C_alloc ?_ _) | (with_reducible refine Kd.C_drewN ?_ _) | (with_reducible refine Kd.C_drew ?_))); (case side2 => exact (Kd.V_reads' HO307.out).2.1); (case side3 => repeat (first | exact (Kd.R_reads' HO310.out).2.2 | (with_reducible refine Kd.C_alloc ?_ _) | (with_reducible refine Kd.C_drewN ?_ _) | (with_reducible refine Kd.C_drew ?_))); (case side4 => exact (Kd.R_reads' HO310.out).2.1); rintro e w' ⟨rfl, ⟨nd, rfl⟩⟩; refine ⟨_, rfl, ?_⟩))
          go_meet
          case rel => exact ⟨_, (true), (by first | rfl | (simp; done) | (simp [*]; done)), H', ⟨by have := HJ4.out; first | omega | exact Nat.le_refl _⟩, ⟨by (with_reducible repeat (first | apply Kd.R_alloc | apply Kd.R_drewN | apply Kd.R_drew)); exact HO_5.out⟩, ⟨by (with_reducible repeat (first | apply Kd.R_alloc | apply Kd.R_drewN | apply Kd.R_drew)); exact HO_6.out⟩, ⟨by repeat (first | (with_reducible first | exact HB.out | apply below_alloc | apply pw_below_drewN | apply below_drew1) | exact HB.out)⟩⟩
      case rest =>
        clear HC19
        try clear c1
        try clear p1
        try clear q1
        try clear hx1
        try clear c2
        try clear p2
        try clear p3
        try clear q3
        try clear hx3
        try clear c4
        try clear p6
        try clear c8
        try clear c8b0
        try clear c9
        try clear c9b0
        try clear c10
        try clear c10b0
        try clear c11
        try clear p11
        try clear q11
        try clear hx11
        try clear hf11
        try clear c13
        try clear c14
        try clear hx14
        try clear hf14
        try clear c15
        try clear c16
        try clear c23
        try clear c27
        try clear p30
        try clear q30
        try clear hx30
        try clear hx11_0
        try clear hx11_1
        try clear hx14_0
        try clear hx303_0
        try clear hx303_1
        try clear p1
        try clear p11
        try clear p2
        try clear p3
        try clear p303
        try clear p6
        try clear q1
        try clear q11
        try clear q3
        try clear q303
        obtain ⟨kq, x57_18, rfl, HA, HJ18, HO_5, HO_6, HB⟩ := hcut
        cases kq with
        | zero => exact absurd HA.out (by simp [prebendlaw11_DrawLegs.j2])
        | succ kj18 =>
          have H := HA.out
          clear HA
          simp only [prebendlaw11_DrawLegs.j2] at H
          by_cases c58 : x57_18 = true
          · subst c58
            have H1 : (some false) = some r := by rw [if_pos rfl] at H; exact H
            clear H
            have H := H1
            clear H1
            obtain rfl := Option.some.inj H
            go_wp2
            go_ret
            exact ⟨by first | rfl | (simp [errW_none, errW_some] <;> rfl) | (simp [*, errW_none, errW_some] <;> rfl), by repeat (first | (with_reducible first | exact HB.out | apply below_alloc | apply pw_below_drewN | apply below_drew1) | exact HB.out)⟩
          · replace c58 := Bool.eq_false_iff.mpr c58
            subst c58
            have H1 : (if (x6_4.length : Int) = (t297.length : Int) then ((prebendlaw11_awake.f kj18).bind fun t330 => (if t330 = true then ((draw_Spend.f kj18 t297 x6_4).bind fun t331 => ((prebendref11_Legs.f kj18 t297 x6_4 2 3 1).bind fun t334 => ((prebendref11_Same.f kj18 t331 t334).bind fun t337 => (some t337)))) else (some false))) else ((prebendlaw11_awake.f kj18).bind fun t326 => (if t326 = true then ((draw_Spend.f kj18 t297 x6_4).bind fun t327 => (some ((t327.length : Int) == 0))) else (some false)))) = some r := by rw [if_neg (show ¬ (false = true) by decide)] at H; exact H
            clear H
            have H := H1
            clear H1
            by_cases c59 : (x6_4.length : Int) = (t297.length : Int)
            · rw [if_pos c59] at H
              have c59b0 : ((x6_4.length : Int) == (t297.length : Int)) = true := beq_iff_eq.mpr c59
              have c59b1 : ((x6_4.length : Int) != (t297.length : Int)) = false := bne_eq_false_iff_eq.mpr c59
              have c59b2 : (x6_4.length == t297.length) = true := by first | simpa using c59 | (simp at c59 ⊢; omega)
              clear c59
              replace H := Option.bind_eq_some_iff.mp H
              obtain ⟨t330, A600, H⟩ := H
              replace H : (if t330 = true then ((draw_Spend.f kj18 t297 x6_4).bind fun t331 => ((prebendref11_Legs.f kj18 t297 x6_4 2 3 1).bind fun t334 => ((prebendref11_Same.f kj18 t331 t334).bind fun t337 => (some t337)))) else (some false)) = some r := H
              have A60 := Aside0.mk A600
              clear A600
              by_cases c61 : t330 = true
              · subst c61
                have H1 : ((draw_Spend.f kj18 t297 x6_4).bind fun t331 => ((prebendref11_Legs.f kj18 t297 x6_4 2 3 1).bind fun t334 => ((prebendref11_Same.f kj18 t331 t334).bind fun t337 => (some t337)))) = some r := by rw [if_pos rfl] at H; exact H
                clear H
                have H := H1
                clear H1
                replace H := Option.bind_eq_some_iff.mp H
                obtain ⟨t331, A620, H⟩ := H
                replace H : ((prebendref11_Legs.f kj18 t297 x6_4 2 3 1).bind fun t334 => ((prebendref11_Same.f kj18 t331 t334).bind fun t337 => (some t337))) = some r := H
                have A62 := Aside0.mk A620
                clear A620
                replace H := Option.bind_eq_some_iff.mp H
                obtain ⟨t334, A630, H⟩ := H
                replace H : ((prebendref11_Same.f kj18 t331 t334).bind fun t337 => (some t337)) = some r := H
                have A63 := Aside0.mk A630
                clear A630
                replace H := Option.bind_eq_some_iff.mp H
                obtain ⟨t337, A640, H⟩ := H
                replace H : (some t337) = some r := H
                have A64 := Aside0.mk A640
                clear A640
                obtain rfl := Option.some.inj H
                obtain ⟨Ao65, co65, eo65⟩ := Kd.R_slice HO_6.out
                subst eo65
                obtain ⟨Ao66, co66, eo66⟩ := Kd.R_slice HO_5.out
                subst eo66
                go_wp2_with (first | ((with_reducible refine gate_callee (f := 11) rfl ?_); refine goesL_ (some 71) rfl rfl Try.func11 (by kernel_rfl) rfl #[] rfl (by (try simp only [List.map_toArray, List.map_cons, List.map_nil]); first | done | rfl | (simp only [List.length_drop, List.length_take]; rfl)) ?_; (with_reducible refine (prebendlaw11_awake.calls kj18  true _ A60.out).mono ?_); rintro e w67 ⟨rfl, hb⟩; refine ⟨_, rfl, ?_⟩; have n0_ := Aside0.mk (Kd.R_below (by (with_reducible repeat (first | apply Kd.R_alloc | apply Kd.R_drewN | apply Kd.R_drew)); exact HO_5.out) hb); have n1_ := Aside0.mk (Kd.R_below (by (with_reducible repeat (first | apply Kd.R_alloc | apply Kd.R_drewN | apply Kd.R_drew)); exact HO_6.out) hb); have n2_ := Aside0.mk (below_step (by repeat (first | (with_reducible first | exact HB.out | apply below_alloc | apply pw_below_drewN | apply below_drew1) | exact HB.out)) hb); clear HO_5; clear HO_6; clear HB; have HO_5 := n0_; have HO_6 := n1_; have HB := n2_; clear n0_ n1_ n2_; (try clear hb); (try clear hb2); (try clear hk); (try clear hi)) | (go_at_call 19; (with_reducible refine (draw_Spend.calls kj18 _ _ t297 _ _ x6_4 t331 _ ?side1 ?side2 ?side3 ?side4 A62.out).mono ?_); (case side1 => repeat (first | exact (Kd.R_reads' HO_5.out).2.2 | (with_reducible refine Kd.C_alloc ?_ _) | (with_reducible refine Kd.C_drewN ?_ _) | (with_reducible refine Kd.C_drew ?_))); (case side2 => exact (Kd.R_reads' HO_5.out).2.1); (case side3 => repeat (first | exact (Kd.R_reads' HO_6.out).2.2 | (with_reducible refine Kd.C_alloc ?_ _) | (with_reducible refine Kd.C_drewN ?_ _) | (with_reducible refine Kd.C_drew ?_))); (case side4 => exact (Kd.R_reads' HO_6.out).2.1); rintro e w68 ⟨v332, rfl, ho0, hb⟩; have n0_ := Aside0.mk (Kd.R_below (by (with_reducible repeat (first | apply Kd.R_alloc | apply Kd.R_drewN | apply Kd.R_drew)); exact HO_5.out) hb); have n1_ := Aside0.mk (Kd.R_below (by (with_reducible repeat (first | apply Kd.R_alloc | apply Kd.R_drewN | apply Kd.R_drew)); exact HO_6.out) hb); have n2_ := Aside0.mk (Kd.V_lower (Kd.V_mono (ok' := fun k_ => some k_ ≠ (.slice Ao66 t297.length co66 : Value).ownBlock ∧ some k_ ≠ (.slice Ao65 x6_4.length co65 : Value).ownBlock) ho0 (fun k_ hk_ => ⟨(Kd.fresh' (Kd.R_lt (by (with_reducible repeat (first | apply Kd.R_alloc | apply Kd.R_drewN | apply Kd.R_drew)); exact HO_5.out)) k_ hk_), (Kd.fresh' (Kd.R_lt (by (with_reducible repeat (first | apply Kd.R_alloc | apply Kd.R_drewN | apply Kd.R_drew)); exact HO_6.out)) k_ hk_)⟩)) (below_size (by repeat (first | (with_reducible first | exact HB.out | apply below_alloc | apply pw_below_drewN | apply below_drew1) | exact HB.out)))); have n3_ := Aside0.mk (below_step (by repeat (first | (with_reducible first | exact HB.out | apply below_alloc | apply pw_below_drewN | apply below_drew1) | exact HB.out)) hb); clear HO_5; clear HO_6; clear HB; have HO_5 := n0_; have HO_6 := n1_; have HO333 := n2_; have HB := n3_; clear n0_ n1_ n2_ n3_; (try clear hb); (try clear hb2); (try clear hk); (try clear hi); (try clear ho0)) | (go_at_call 16; (with_reducible refine (prebendref11_Legs.calls kj18 _ _ t297 _ _ x6_4 2 3 1 t334 _ ?side1 ?side2 ?side3 ?side4 A63.out).mono ?_); (case side1 => repeat (first | exact (Kd.R_reads' HO_5.out).2.2 | (with_reducible refine Kd.C_alloc ?_ _) | (with_reducible refine Kd.C_drewN ?_ _) | (with_reducible refine Kd.C_drew ?_))); (case side2 => exact (Kd.R_reads' HO_5.out).2.1); (case side3 => repeat (first | exact (Kd.R_reads' HO_6.out).2.2 | (with_reducible refine Kd.C_alloc ?_ _) | (with_reducible refine Kd.C_drewN ?_ _) | (with_reducible refine Kd.C_drew ?_))); (case side4 => exact (Kd.R_reads' HO_6.out).2.1); rintro e w69 ⟨v335, rfl, ho0, hb⟩; have n0_ := Aside0.mk (Kd.R_below (by (with_reducible repeat (first | apply Kd.R_alloc | apply Kd.R_drewN | apply Kd.R_drew)); exact HO_5.out) hb); have n1_ := Aside0.mk (Kd.R_below (by (with_reducible repeat (first | apply Kd.R_alloc | apply Kd.R_drewN | apply Kd.R_drew)); exact HO_6.out) hb); have n2_ := Aside0.mk (Kd.V_elder' (by (with_reducible repeat (first | apply Kd.V_alloc | apply Kd.V_drewN | apply Kd.V_drew)); exact HO333.out) (Kd.R_base ho0) hb); have n3_ := Aside0.mk (Kd.R_lower ho0 (below_size (by repeat (first | (with_reducible first | exact HB.out | apply below_alloc | apply pw_below_drewN | apply below_drew1) | exact HB.out)))); have n4_ := Aside0.mk (below_step (by repeat (first | (with_reducible first | exact HB.out | apply below_alloc | apply pw_below_drewN | apply below_drew1) | exact HB.out)) hb); clear HO_5; clear HO_6; clear HO333; clear HB; have HO_5 := n0_; have HO_6 := n1_; have HO333 := n2_; have HO336 := n3_; have HB := n4_; clear n0_ n1_ n2_ n3_ n4_; (try clear hb); (try clear hb2); (try clear hk); (try clear hi); (try clear ho0); obtain ⟨Ao70, co70, eo70⟩ := Kd.V_slice HO333.out; subst eo70; obtain ⟨Ao71, co71, eo71⟩ := Kd.R_slice HO336.out; subst eo71) | (go_at_call 14; (with_reducible refine (prebendref11_Same.calls kj18 _ _ t331 _ _ t334 t337 _ ?side1 ?side2 ?side3 ?side4 A64.out).mono ?_); (case side1 => repeat (first | exact (Kd.V_reads' HO333.out).2.2 | (with_reducible refine Kd.C_alloc ?_ _) | (with_reducible refine Kd.C_drewN ?_ _) | (with_reducible refine Kd.C_drew ?_))); (case side2 => exact (Kd.V_reads' HO333.out).2.1); (case side3 => repeat (first | exact (Kd.R_reads' HO336.out).2.2 | (with_reducible refine Kd.C_alloc ?_ _) | (with_reducible refine Kd.C_drewN ?_ _) | (with_reducible refine Kd.C_drew ?_))); (case side4 => exact (Kd.R_reads' HO336.out).2.1); rintro e w' ⟨rfl, ⟨nd, rfl⟩⟩))
                go_ret
                exact ⟨by first | rfl | (simp [errW_none, errW_some] <;> rfl) | (simp [*, errW_none, errW_some] <;> rfl), by repeat (first | (with_reducible first | exact HB.out | apply below_alloc | apply pw_below_drewN | apply below_drew1) | exact HB.out)⟩
              · replace c61 := Bool.eq_false_iff.mpr c61
                subst c61
                have H1 : (some false) = some r := by rw [if_neg (show ¬ (false = true) by decide)] at H; exact H
                clear H
                have H := H1
                clear H1
                obtain rfl := Option.some.inj H
                obtain ⟨Ao72, co72, eo72⟩ := Kd.R_slice HO_6.out
                subst eo72
                obtain ⟨Ao73, co73, eo73⟩ := Kd.R_slice HO_5.out
                subst eo73
                go_wp2_with (first | ((with_reducible refine gate_callee (f := 11) rfl ?_); refine goesL_ (some 71) rfl rfl Try.func11 (by kernel_rfl) rfl #[] rfl (by (try simp only [List.map_toArray, List.map_cons, List.map_nil]); first | done | rfl | (simp only [List.length_drop, List.length_take]; rfl)) ?_; (with_reducible refine (prebendlaw11_awake.calls kj18  false _ A60.out).mono ?_); rintro e w74 ⟨rfl, hb⟩; refine ⟨_, rfl, ?_⟩; have n0_ := Aside0.mk (Kd.R_below (by (with_reducible repeat (first | apply Kd.R_alloc | apply Kd.R_drewN | apply Kd.R_drew)); exact HO_5.out) hb); have n1_ := Aside0.mk (Kd.R_below (by (with_reducible repeat (first | apply Kd.R_alloc | apply Kd.R_drewN | apply Kd.R_drew)); exact HO_6.out) hb); have n2_ := Aside0.mk (below_step (by repeat (first | (with_reducible first | exact HB.out | apply below_alloc | apply pw_below_drewN | apply below_drew1) | exact HB.out)) hb); clear HO_5; clear HO_6; clear HB; have HO_5 := n0_; have HO_6 := n1_; have HB := n2_; clear n0_ n1_ n2_; (try clear hb); (try clear hb2); (try clear hk); (try clear hi)))
                go_ret
                exact ⟨by first | rfl | (simp [errW_none, errW_some] <;> rfl) | (simp [*, errW_none, errW_some] <;> rfl), by repeat (first | (with_reducible first | exact HB.out | apply below_alloc | apply pw_below_drewN | apply below_drew1) | exact HB.out)⟩
            · rw [if_neg c59] at H
              have c59b0 : ((x6_4.length : Int) == (t297.length : Int)) = false := beq_eq_false_iff_ne.mpr c59
              have c59b1 : ((x6_4.length : Int) != (t297.length : Int)) = true := bne_iff_ne.mpr c59
              have c59b2 : (x6_4.length == t297.length) = false := by first | simpa using c59 | (simp at c59 ⊢; omega)
              replace H := Option.bind_eq_some_iff.mp H
              obtain ⟨t326, A750, H⟩ := H
              replace H : (if t326 = true then ((draw_Spend.f kj18 t297 x6_4).bind fun t327 => (some ((t327.length : Int) == 0))) else (some false)) = some r := H
              have A75 := Aside0.mk A750
              clear A750
              by_cases c76 : t326 = true
              · subst c76
                have H1 : ((draw_Spend.f kj18 t297 x6_4).bind fun t327 => (some ((t327.length : Int) == 0))) = some r := by rw [if_pos rfl] at H; exact H
                clear H
                have H := H1
                clear H1
                replace H := Option.bind_eq_some_iff.mp H
                obtain ⟨t327, A770, H⟩ := H
                replace H : (some ((t327.length : Int) == 0)) = some r := H
                have A77 := Aside0.mk A770
                clear A770
                obtain rfl := Option.some.inj H
                obtain ⟨Ao78, co78, eo78⟩ := Kd.R_slice HO_6.out
                subst eo78
                obtain ⟨Ao79, co79, eo79⟩ := Kd.R_slice HO_5.out
                subst eo79
                go_wp2_with (first | ((with_reducible refine gate_callee (f := 11) rfl ?_); refine goesL_ (some 63) rfl rfl Try.func11 (by kernel_rfl) rfl #[] rfl (by (try simp only [List.map_toArray, List.map_cons, List.map_nil]); first | done | rfl | (simp only [List.length_drop, List.length_take]; rfl)) ?_; (with_reducible refine (prebendlaw11_awake.calls kj18  true _ A75.out).mono ?_); rintro e w80 ⟨rfl, hb⟩; refine ⟨_, rfl, ?_⟩; have n0_ := Aside0.mk (Kd.R_below (by (with_reducible repeat (first | apply Kd.R_alloc | apply Kd.R_drewN | apply Kd.R_drew)); exact HO_5.out) hb); have n1_ := Aside0.mk (Kd.R_below (by (with_reducible repeat (first | apply Kd.R_alloc | apply Kd.R_drewN | apply Kd.R_drew)); exact HO_6.out) hb); have n2_ := Aside0.mk (below_step (by repeat (first | (with_reducible first | exact HB.out | apply below_alloc | apply pw_below_drewN | apply below_drew1) | exact HB.out)) hb); clear HO_5; clear HO_6; clear HB; have HO_5 := n0_; have HO_6 := n1_; have HB := n2_; clear n0_ n1_ n2_; (try clear hb); (try clear hb2); (try clear hk); (try clear hi)) | (go_at_call 19; (with_reducible refine (draw_Spend.calls kj18 _ _ t297 _ _ x6_4 t327 _ ?side1 ?side2 ?side3 ?side4 A77.out).mono ?_); (case side1 => repeat (first | exact (Kd.R_reads' HO_5.out).2.2 | (with_reducible refine Kd.C_alloc ?_ _) | (with_reducible refine Kd.C_drewN ?_ _) | (with_reducible refine Kd.C_drew ?_))); (case side2 => exact (Kd.R_reads' HO_5.out).2.1); (case side3 => repeat (first | exact (Kd.R_reads' HO_6.out).2.2 | (with_reducible refine Kd.C_alloc ?_ _) | (with_reducible refine Kd.C_drewN ?_ _) | (with_reducible refine Kd.C_drew ?_))); (case side4 => exact (Kd.R_reads' HO_6.out).2.1); rintro e w81 ⟨v328, rfl, ho0, hb⟩; have n0_ := Aside0.mk (Kd.R_below (by (with_reducible repeat (first | apply Kd.R_alloc | apply Kd.R_drewN | apply Kd.R_drew)); exact HO_5.out) hb); have n1_ := Aside0.mk (Kd.R_below (by (with_reducible repeat (first | apply Kd.R_alloc | apply Kd.R_drewN | apply Kd.R_drew)); exact HO_6.out) hb); have n2_ := Aside0.mk (Kd.V_lower (Kd.V_mono (ok' := fun k_ => some k_ ≠ (.slice Ao79 t297.length co79 : Value).ownBlock ∧ some k_ ≠ (.slice Ao78 x6_4.length co78 : Value).ownBlock) ho0 (fun k_ hk_ => ⟨(Kd.fresh' (Kd.R_lt (by (with_reducible repeat (first | apply Kd.R_alloc | apply Kd.R_drewN | apply Kd.R_drew)); exact HO_5.out)) k_ hk_), (Kd.fresh' (Kd.R_lt (by (with_reducible repeat (first | apply Kd.R_alloc | apply Kd.R_drewN | apply Kd.R_drew)); exact HO_6.out)) k_ hk_)⟩)) (below_size (by repeat (first | (with_reducible first | exact HB.out | apply below_alloc | apply pw_below_drewN | apply below_drew1) | exact HB.out)))); have n3_ := Aside0.mk (below_step (by repeat (first | (with_reducible first | exact HB.out | apply below_alloc | apply pw_below_drewN | apply below_drew1) | exact HB.out)) hb); clear HO_5; clear HO_6; clear HB; have HO_5 := n0_; have HO_6 := n1_; have HO329 := n2_; have HB := n3_; clear n0_ n1_ n2_ n3_; (try clear hb); (try clear hb2); (try clear hk); (try clear hi); (try clear ho0); obtain ⟨Ao82, co82, eo82⟩ := Kd.V_slice HO329.out; subst eo82))
                go_ret
                exact ⟨by first | rfl | (simp [errW_none, errW_some] <;> rfl) | (simp [*, errW_none, errW_some] <;> rfl), by repeat (first | (with_reducible first | exact HB.out | apply below_alloc | apply pw_below_drewN | apply below_drew1) | exact HB.out)⟩
              · replace c76 := Bool.eq_false_iff.mpr c76
                subst c76
                have H1 : (some false) = some r := by rw [if_neg (show ¬ (false = true) by decide)] at H; exact H
                clear H
                have H := H1
                clear H1
                obtain rfl := Option.some.inj H
                obtain ⟨Ao83, co83, eo83⟩ := Kd.R_slice HO_6.out
                subst eo83
                obtain ⟨Ao84, co84, eo84⟩ := Kd.R_slice HO_5.out
                subst eo84
                go_wp2_with (first | ((with_reducible refine gate_callee (f := 11) rfl ?_); refine goesL_ (some 63) rfl rfl Try.func11 (by kernel_rfl) rfl #[] rfl (by (try simp only [List.map_toArray, List.map_cons, List.map_nil]); first | done | rfl | (simp only [List.length_drop, List.length_take]; rfl)) ?_; (with_reducible refine (prebendlaw11_awake.calls kj18  false _ A75.out).mono ?_); rintro e w85 ⟨rfl, hb⟩; refine ⟨_, rfl, ?_⟩; have n0_ := Aside0.mk (Kd.R_below (by (with_reducible repeat (first | apply Kd.R_alloc | apply Kd.R_drewN | apply Kd.R_drew)); exact HO_5.out) hb); have n1_ := Aside0.mk (Kd.R_below (by (with_reducible repeat (first | apply Kd.R_alloc | apply Kd.R_drewN | apply Kd.R_drew)); exact HO_6.out) hb); have n2_ := Aside0.mk (below_step (by repeat (first | (with_reducible first | exact HB.out | apply below_alloc | apply pw_below_drewN | apply below_drew1) | exact HB.out)) hb); clear HO_5; clear HO_6; clear HB; have HO_5 := n0_; have HO_6 := n1_; have HB := n2_; clear n0_ n1_ n2_; (try clear hb); (try clear hb2); (try clear hk); (try clear hi)))
                go_ret
                exact ⟨by first | rfl | (simp [errW_none, errW_some] <;> rfl) | (simp [*, errW_none, errW_some] <;> rfl), by repeat (first | (with_reducible first | exact HB.out | apply below_alloc | apply pw_below_drewN | apply below_drew1) | exact HB.out)⟩

/-- THE ONE PURE STATEMENT of prebendlaw11_DrawLegs. -/
def prebendlaw11_DrawLegs.Pure : Prop := ∀ (l0 : List (S37)) (l1 : List (S37)), (l0.length ≤ maxLen ∧ ∀ y ∈ l0, g37 y) → (l1.length ≤ maxLen ∧ ∀ y ∈ l1, g37 y) → ∃ k, prebendlaw11_DrawLegs.f k l0 l1 = some true
theorem prebendlaw11_DrawLegs.walk (P : prebendlaw11_DrawLegs.Pure) (A0 : Option Addr) (c0 : Nat) (l0 : List (S37)) (A1 : Option Addr) (c1 : Nat) (l1 : List (S37)) (w : World) (hr0 : Kd.C k37 w A0 l0.length l0) (hc0 : l0.length ≤ c0) (hr1 : Kd.C k37 w A1 l1.length l1) (hc1 : l1.length ≤ c1) (h0_ : (l0.length ≤ maxLen ∧ ∀ y ∈ l0, g37 y)) (h1_ : (l1.length ≤ maxLen ∧ ∀ y ∈ l1, g37 y)) :
    Calls Try.prog 4 #[.slice A0 l0.length c0, .slice A1 l1.length c1] w fun e w' => e = .returned (.bool true) ∧ Below w.heap.size w w' := by
  obtain ⟨k, h⟩ := P l0 l1 h0_ h1_
  refine (prebendlaw11_DrawLegs.calls k A0 c0 l0 A1 c1 l1 true w hr0 hc0 hr1 hc1 h).mono ?_
  rintro e w' ⟨rfl, hd⟩
  exact ⟨rfl, hd⟩

end Go.Proofs.Ytlccomoiajnkmaa.PAll
end
