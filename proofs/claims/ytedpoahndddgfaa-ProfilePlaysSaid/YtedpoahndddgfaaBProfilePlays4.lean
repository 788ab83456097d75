/- Words, plain functions and contracts of the functions that the law of this claim reaches; no conditions. -/
import Derived.Test.YtedpoahndddgfaaBProfilePlays3
section
namespace Go.Proofs.Ytedpoahndddgfaa.PAll
open Go.RowKit Go.Proofs.YtedpoahndddgfaaW.PrintWords Go.Proofs.YtedpoahndddgfaaW.PrintLast Go.Proofs.YtedpoahndddgfaaW.PrintMore
attribute [local go_sem] max2_int min2_int max_two min_two max_three min_three max_four min_four   -- for this text's walks alone
set_option linter.unusedVariables false
set_option linter.unusedSimpArgs false

/-! ### prebendref16_New: function 16 -/
mutual
def prebendref16_New.l0 : Nat → Int → Int → List (S38) → List Int → Int → Option ((List (S40)))
 | 0, _, _, _, _, _ => none
 | k + 1, x0, x1, x2, x7, x8 => if x8 < (x2.length : Int) then (if 0 ≤ x8 then (if x7.length < 17592186044416 then (prebendref16_New.l0 k x0 x1 x2 (x7 ++ [(rd_T38 x2 x8).f0]) (wrap64 (x8 + 1))) else (none)) else (none)) else ((prebendref16_ticks.f k x0 x7).bind fun t237 => (prebendref16_New.l1 k x1 x2 t237 (([] : List Int)) 0))
def prebendref16_New.l1 : Nat → Int → List (S38) → List Int → List Int → Int → Option ((List (S40)))
 | 0, _, _, _, _, _ => none
 | k + 1, x1, x2, x9, x10, x11 => if x11 < (x9.length : Int) then (prebendref16_New.l2 k x1 x2 x9 x10 x11 x1 0) else ((prebendref16_made.f k x9 x10).bind fun t243 => (some t243))
def prebendref16_New.l2 : Nat → Int → List (S38) → List Int → List Int → Int → Int → Int → Option ((List (S40)))
 | 0, _, _, _, _, _, _, _ => none
 | k + 1, x1, x2, x9, x10, x11, x12, x13 => if x13 < (x2.length : Int) then (if 0 ≤ x13 then (if 0 ≤ x11 then (if x11 < (x9.length : Int) then (if ((rd_T38 x2 x13).f0) > (rd x9 x11) then (prebendref16_New.l2 k x1 x2 x9 x10 x11 (wrap64 (x12 - ((rd_T38 x2 x13).f1))) (wrap64 (x13 + 1))) else (prebendref16_New.l2 k x1 x2 x9 x10 x11 x12 (wrap64 (x13 + 1)))) else (none)) else (none)) else (none)) else (if x10.length < 17592186044416 then (prebendref16_New.l1 k x1 x2 x9 (x10 ++ [x12]) (wrap64 (x11 + 1))) else (none))
end
def prebendref16_New.f (k : Nat) (a0 : Int) (a1 : Int) (l2 : List (S38)) : Option ((List (S40))) := prebendref16_New.l0 k a0 a1 l2 (([] : List Int)) 0
theorem prebendref16_New.mono_l : ∀ k, (∀ y0 y1 y2 y3 y4, LeO (prebendref16_New.l0 k y0 y1 y2 y3 y4) (prebendref16_New.l0 (k + 1) y0 y1 y2 y3 y4)) ∧ (∀ y0 y1 y2 y3 y4, LeO (prebendref16_New.l1 k y0 y1 y2 y3 y4) (prebendref16_New.l1 (k + 1) y0 y1 y2 y3 y4)) ∧ (∀ y0 y1 y2 y3 y4 y5 y6, LeO (prebendref16_New.l2 k y0 y1 y2 y3 y4 y5 y6) (prebendref16_New.l2 (k + 1) y0 y1 y2 y3 y4 y5 y6))
 | 0 => ⟨fun _ _ _ _ _ r h => by simp [prebendref16_New.l0] at h, fun _ _ _ _ _ r h => by simp [prebendref16_New.l1] at h, fun _ _ _ _ _ _ _ r h => by simp [prebendref16_New.l2] at h⟩
 | k + 1 => by
  obtain ⟨ih0, ih1, ih2⟩ := prebendref16_New.mono_l k
  refine ⟨?_, ?_, ?_⟩
  ·intro y0 y1 y2 y3 y4
   unfold prebendref16_New.l0
   repeat' first
   | (with_reducible exact ih0 _ _ _ _ _)
   | (with_reducible exact ih1 _ _ _ _ _)
   | (with_reducible exact ih2 _ _ _ _ _ _ _)
   | (with_reducible exact prebendref16_made.mono _ _ _)
   | (with_reducible exact prebendref16_ticks.mono _ _ _)
   | (with_reducible exact LeO.refl _)
   | (with_reducible exact LeO.none _)
   | (with_reducible refine LeO.ite ?_ ?_)
   | (with_reducible refine LeO.bind ?_ (fun _ => ?_))
   | exact ih0 _ _ _ _ _
   | exact ih1 _ _ _ _ _
   | exact ih2 _ _ _ _ _ _ _
   | exact prebendref16_made.mono _ _ _
   | exact prebendref16_ticks.mono _ _ _
   | exact LeO.none _
   | refine LeO.ite ?_ ?_
   | refine LeO.bind ?_ (fun _ => ?_)
  ·intro y0 y1 y2 y3 y4
   unfold prebendref16_New.l1
   repeat' first
   | (with_reducible exact ih0 _ _ _ _ _)
   | (with_reducible exact ih1 _ _ _ _ _)
   | (with_reducible exact ih2 _ _ _ _ _ _ _)
   | (with_reducible exact prebendref16_made.mono _ _ _)
   | (with_reducible exact prebendref16_ticks.mono _ _ _)
   | (with_reducible exact LeO.refl _)
   | (with_reducible exact LeO.none _)
   | (with_reducible refine LeO.ite ?_ ?_)
   | (with_reducible refine LeO.bind ?_ (fun _ => ?_))
   | exact ih0 _ _ _ _ _
   | exact ih1 _ _ _ _ _
   | exact ih2 _ _ _ _ _ _ _
   | exact prebendref16_made.mono _ _ _
   | exact prebendref16_ticks.mono _ _ _
   | exact LeO.none _
   | refine LeO.ite ?_ ?_
   | refine LeO.bind ?_ (fun _ => ?_)
  ·intro y0 y1 y2 y3 y4 y5 y6
   unfold prebendref16_New.l2
   repeat' first
   | (with_reducible exact ih0 _ _ _ _ _)
   | (with_reducible exact ih1 _ _ _ _ _)
   | (with_reducible exact ih2 _ _ _ _ _ _ _)
   | (with_reducible exact prebendref16_made.mono _ _ _)
   | (with_reducible exact prebendref16_ticks.mono _ _ _)
   | (with_reducible exact LeO.refl _)
   | (with_reducible exact LeO.none _)
   | (with_reducible refine LeO.ite ?_ ?_)
   | (with_reducible refine LeO.bind ?_ (fun _ => ?_))
   | exact ih0 _ _ _ _ _
   | exact ih1 _ _ _ _ _
   | exact ih2 _ _ _ _ _ _ _
   | exact prebendref16_made.mono _ _ _
   | exact prebendref16_ticks.mono _ _ _
   | exact LeO.none _
   | refine LeO.ite ?_ ?_
   | refine LeO.bind ?_ (fun _ => ?_)
theorem prebendref16_New.mono : ∀ a0 a1 a2 k, LeO (prebendref16_New.f k a0 a1 a2) (prebendref16_New.f (k + 1) a0 a1 a2) := by
 intro a0 a1 a2 k
 obtain ⟨ih0, ih1, ih2⟩ := prebendref16_New.mono_l k
 unfold prebendref16_New.f
 repeat' first
   | (with_reducible exact ih0 _ _ _ _ _)
   | (with_reducible exact ih1 _ _ _ _ _)
   | (with_reducible exact ih2 _ _ _ _ _ _ _)
   | (with_reducible exact prebendref16_made.mono _ _ _)
   | (with_reducible exact prebendref16_ticks.mono _ _ _)
   | (with_reducible exact LeO.refl _)
   | (with_reducible exact LeO.none _)
   | (with_reducible refine LeO.ite ?_ ?_)
   | (with_reducible refine LeO.bind ?_ (fun _ => ?_))
   | exact ih0 _ _ _ _ _
   | exact ih1 _ _ _ _ _
   | exact ih2 _ _ _ _ _ _ _
   | exact prebendref16_made.mono _ _ _
   | exact prebendref16_ticks.mono _ _ _
   | exact LeO.none _
   | refine LeO.ite ?_ ?_
   | refine LeO.bind ?_ (fun _ => ?_)
set_option maxHeartbeats 8000000 in
set_option maxRecDepth 100000 in
theorem prebendref16_New.calls (k : Nat) (a0 : Int) (a1 : Int) (A2 : Option Addr) (c2 : Nat) (l2 : List (S38)) (r : List (S40)) (w : World) (hr2 : Kd.C k38 w A2 l2.length l2) (hc2 : l2.length ≤ c2) (h : prebendref16_New.f k a0 a1 l2 = some r) :
  Calls Try.prog 16 #[.int .i64 a0, .int .i64 a1, .slice A2 l2.length c2] w fun e w' => ∃ v0_ : Value, e = .returned (v0_) ∧ Kd.R k40 40 w' w.heap.size (fun _ => True) v0_ r ∧ Below w.heap.size w w' := by
 have HR2 := Aside0.mk hr2
 have HC2 := Aside0.mk hc2
 clear hr2; clear hc2
 have HB := Aside0.mk (Below.refl w.heap.size w)
 have H : (prebendref16_New.l0 k a0 a1 l2 (([] : List Int)) 0) = some r := h
 clear h
 obtain ⟨y230, hy230⟩ : ∃ y_ : List Int, y_ = (([] : List Int)) := ⟨_, rfl⟩
 replace H : (prebendref16_New.l0 k a0 a1 l2 y230 0) = some r := mH hy230 H
 have Ny230 := Aside0.mk hy230
 clear hy230
 have H' := Aside0.mk H
 clear H
 go_enter Try.func16, Try.ntmps16
 go_wp2_with (first | ((with_reducible refine gate_dst (N := 14) rfl ?_); refine Kd.R_lit (Kd.int .i64) _ 3 ?hg (N := 14) ?hd (xs := ([] : List Int)) (inner := []) (ok := fun _ => True) (okp := fun _ => True) ?hr ?hp (fun _ hk => hk) trivial (Below.refl _ _) (Nat.le_refl _) (by simp) ?_; (case hd => rfl); (case hg => rfl); (case hr => first | (go_simp; done) | (go_simp; rfl)); (case hp => exact (Reps.none _ _)); intro v231 w4 ho5 hb hg_ hnew_; clear hg_ hnew_; (first | rw [← Ny230.out] at ho5 | (simp only [Int.reduceToNat] at ho5; rw [← Ny230.out] at ho5)); have n0_ := Aside0.mk (Kd.R_lower ho5 (below_size (mB HB.out))); have n1_ := Aside0.mk (below_step (mB HB.out) hb); clear HB; have HO232 := n0_; have HB := n1_; clear n0_ n1_; clear hb ho5))
 repeat (go_quiet (fail); try go_wp2)
 go_loopg [7, 8] k (fun kq v7 v8 w' => ∃ (x7_1 : List Int) (x8_1 : Int), v8 = .int .i64 x8_1 ∧ Aside0 (prebendref16_New.l0 kq a0 a1 l2 x7_1 x8_1 = some r) ∧ Aside0 (kq ≤ k) ∧ Aside0 (Kd.R (Kd.int .i64) 3 w' w.heap.size (fun _ => True) v7 x7_1) ∧ Aside0 (Below w.heap.size w w'))
 case atStart => exact ⟨(y230), (0), ez, H', ⟨Nat.le_refl _⟩, ⟨mR HO232.out⟩, ⟨mB HB.out⟩⟩
 case round =>
  clear H'
  (try clear c1); (try clear c2); (try clear p2)
  obtain ⟨x7_1, x8_1, rfl, HA, HK1, HO_7, HB⟩ := hrel
  cases gk with
  | zero => exact absurd HA.out (by simp [prebendref16_New.l0])
  | succ k1 =>
   have H := HA.out
   clear HA
   simp only [prebendref16_New.l0] at H
   by_cases c6 : x8_1 < (l2.length : Int)
   ·rw [if_pos c6] at H
    have c6b0 : decide (x8_1 < (l2.length : Int)) = true := decide_eq_true c6
    clear c6
    by_cases c7 : 0 ≤ x8_1
    ·rw [if_pos c7] at H
     have c7b0 : decide (0 ≤ x8_1) = true := decide_eq_true c7
     clear c7
     by_cases c8 : x7_1.length < 17592186044416
     ·rw [if_pos c8] at H
      have LMc8 := Aside0.mk c8
      clear c8
      obtain ⟨y234, hy234⟩ : ∃ y_ : List Int, y_ = (x7_1 ++ [(rd_T38 l2 x8_1).f0]) := ⟨_, rfl⟩
      replace H : (prebendref16_New.l0 k1 a0 a1 l2 y234 (wrap64 (x8_1 + 1))) = some r := mH hy234 H
      have Ny234 := Aside0.mk hy234
      clear hy234
      have H' := Aside0.mk H
      clear H
      have p233 : 0 ≤ (x8_1 : Int) := oda
      have q233 : x8_1 < (l2.length : Int) := oda
      obtain ⟨ad233, e233, hx233_0, hx233_1⟩ := at_T38 HR2.out x8_1 p233 q233
      cases e233
      replace hx233_0 := (HB.out.cell (World.block_lt_of_cell? w _ hx233_0)).trans hx233_0
      replace hx233_1 := (HB.out.cell (World.block_lt_of_cell? w _ hx233_1)).trans hx233_1
      replace p233 := eq_true p233
      replace q233 := eq_true q233
      go_wp2_with (first | ((with_reducible refine gate_builtin (b := .append) (xs := #[.tmp 21, .tmp 27]) rfl ?_); at_builtin; refine Kd.R_append (Kd.int .i64) (w0 := w) w.heap.size rfl (.tmp 21) (.tmp 27) 55 3 (.int .i64 0) 8 rfl Try.underlying55 info3 rfl (by decide) (by omega) u7 x7_1 ((rd_T38 l2 x8_1).f0) [.int .i64 ((rd_T38 l2 x8_1).f0)] (fun _ => True) (fun _ => False) rfl rfl ?aP (fun _ hk => hk.elim) ?aF ?aO ?aB ?aS ?aL ?_; (case aP => exact rfl); (case aB => exact (mB HB.out)); (case aF => exact (fun _ _ => trivial)); (case aO => exact (mR HO_7.out)); (case aS => exact (below_size (mB HB.out))); (case aL => have := LMc8.out; omega); intro v235 w9 ho hb hg hat; rw [← Ny234.out] at ho; have n0_ := Aside0.mk (hb); have n1_ := Aside0.mk (ho); clear HB; clear HO_7; have HB := n0_; have HO236 := n1_; clear n0_ n1_; clear ho hb hg hat))
      repeat (go_quiet (fail); try go_wp2)
      go_roundg k1
      case measure => have := HK1.out; omega
      case rel => exact ⟨(y234), (wrap64 (x8_1 + 1)), ez, H', ⟨by have := HK1.out; omega⟩, ⟨mR HO236.out⟩, ⟨mB HB.out⟩⟩
     ·rw [if_neg c8] at H
      exact absurd H (by simp)
    ·rw [if_neg c7] at H
     exact absurd H (by simp)
   ·rw [if_neg c6] at H
    have c6b0 : decide (x8_1 < (l2.length : Int)) = false := decide_eq_false c6
    clear c6
    replace H := Option.bind_eq_some_iff.mp H
    obtain ⟨t237, A100, H⟩ := H
    replace H : (prebendref16_New.l1 k1 a1 l2 t237 (([] : List Int)) 0) = some r := H
    have A10 := Aside0.mk A100
    clear A100
    obtain ⟨y240, hy240⟩ : ∃ y_ : List Int, y_ = (([] : List Int)) := ⟨_, rfl⟩
    replace H : (prebendref16_New.l1 k1 a1 l2 t237 y240 0) = some r := mH hy240 H
    have Ny240 := Aside0.mk hy240
    clear hy240
    have H' := Aside0.mk H
    clear H
    obtain ⟨Ao11, co11, eo11⟩ := Kd.R_slice HO_7.out
    subst eo11
    go_wp2_with (first | (go_at_call 44; (with_reducible refine (prebendref16_ticks.calls k1 a0 _ _ x7_1 t237 _ ?side1 ?side2 A10.out).mono ?_); (case side1 => exact mC (Kd.R_reads' HO_7.out).2.2); (case side2 => exact (Kd.R_reads' HO_7.out).2.1); rintro e w12 ⟨v238, rfl, ho0, hb⟩; have n0_ := Aside0.mk (Kd.R_elder' (mR HO_7.out) (Kd.R_base ho0) hb); have n1_ := Aside0.mk (Kd.R_lower (Kd.R_new' ho0 (Kd.R_lt (mR HO_7.out))) (below_size (mB HB.out))); have n2_ := Aside0.mk (below_step (mB HB.out) hb); clear HO_7; clear HB; have HO_7 := n0_; have HO239 := n1_; have HB := n2_; clear n0_ n1_ n2_; (try clear hb); (try clear hb2); (try clear hk); (try clear hi); (try clear ho0)) | ((with_reducible refine gate_dst (N := 32) rfl ?_); refine Kd.R_lit (Kd.int .i64) _ 3 ?hg (N := 32) ?hd (xs := ([] : List Int)) (inner := []) (ok := fun _ => True) (okp := fun _ => True) ?hr ?hp (fun _ hk => hk) trivial (Below.refl _ _) (Nat.le_refl _) (by simp) ?_; (case hd => rfl); (case hg => rfl); (case hr => first | (go_simp; done) | (go_simp; rfl)); (case hp => exact (Reps.none _ _)); intro v241 w13 ho14 hb hg_ hnew_; clear hg_ hnew_; (first | rw [← Ny240.out] at ho14 | (simp only [Int.reduceToNat] at ho14; rw [← Ny240.out] at ho14)); have n0_ := Aside0.mk (Kd.R_elder' (mR HO_7.out) (Kd.R_base ho14) hb); have n1_ := Aside0.mk (Kd.R_elder' (mR HO239.out) (Kd.R_base ho14) hb); have n2_ := Aside0.mk (Kd.R_lower (Kd.R_new' (Kd.R_new' ho14 (Kd.R_lt (mR HO_7.out))) (Kd.R_lt (mR HO239.out))) (below_size (mB HB.out))); have n3_ := Aside0.mk (below_step (mB HB.out) hb); clear HO_7; clear HO239; clear HB; have HO_7 := n0_; have HO239 := n1_; have HO242 := n2_; have HB := n3_; clear n0_ n1_ n2_ n3_; clear hb ho14))
    repeat (go_quiet (fail); try go_wp2)
    go_loopg [10, 11] k1 (fun kq v10 v11 w' => ∃ (x10_2 : List Int) (x11_2 : Int), v11 = .int .i64 x11_2 ∧ Aside0 (prebendref16_New.l1 kq a1 l2 t237 x10_2 x11_2 = some r) ∧ Aside0 (kq ≤ k1) ∧ Aside0 (Kd.R (Kd.int .i64) 3 w' w.heap.size (fun k_ => some k_ ≠ (v10 : Value).ownBlock) v238 t237) ∧ Aside0 (Kd.R (Kd.int .i64) 3 w' w.heap.size (fun k_ => some k_ ≠ (v238 : Value).ownBlock) v10 x10_2) ∧ Aside0 (Below w.heap.size w w'))
    case atStart => exact ⟨(y240), (0), ez, H', ⟨Nat.le_refl _⟩, ⟨by (with_reducible repeat (first | apply Kd.R_alloc | apply Kd.R_drewN | apply Kd.R_drew)); exact Kd.R_mono HO239.out (fun _ hk => hk.2)⟩, ⟨by (with_reducible repeat (first | apply Kd.R_alloc | apply Kd.R_drewN | apply Kd.R_drew)); exact Kd.R_mono HO242.out (fun _ hk => hk.2)⟩, ⟨mB HB.out⟩⟩
    case round =>
     clear H'
     (try clear c1); (try clear c2); (try clear p2); (try clear q2); (try clear hx2); (try clear c6); (try clear c6b0); (try clear p6); (try clear c7); (try clear c7b0); (try clear c8); (try clear hx233_0); (try clear hx233_1); (try clear p2); (try clear p233); (try clear q233)
     obtain ⟨x10_2, x11_2, rfl, HA, HK2, HO_9, HO_10, HB⟩ := hrel
     cases gk with
     | zero => exact absurd HA.out (by simp [prebendref16_New.l1])
     | succ k2 =>
      have H := HA.out
      clear HA
      simp only [prebendref16_New.l1] at H
      by_cases c15 : x11_2 < (t237.length : Int)
      ·rw [if_pos c15] at H
       have c15b0 : decide (x11_2 < (t237.length : Int)) = true := decide_eq_true c15
       clear c15
       have H' := Aside0.mk H
       clear H
       obtain ⟨Ao16, co16, eo16⟩ := Kd.R_slice HO_9.out
       subst eo16
       go_wp2
       repeat (go_quiet (fail); try go_wp2)
       go_loopg [12, 13] k2 (fun kq v12 v13 w' => ∃ (x12_3 : Int) (x13_3 : Int), v12 = .int .i64 x12_3 ∧ v13 = .int .i64 x13_3 ∧ Aside0 (prebendref16_New.l2 kq a1 l2 t237 x10_2 x11_2 x12_3 x13_3 = some r) ∧ Aside0 (kq ≤ k2) ∧ Aside0 (Kd.R (Kd.int .i64) 3 w' w.heap.size (fun k_ => some k_ ≠ (u10 : Value).ownBlock) (.slice Ao16 t237.length co16) t237) ∧ Aside0 (Kd.R (Kd.int .i64) 3 w' w.heap.size (fun k_ => some k_ ≠ ((.slice Ao16 t237.length co16) : Value).ownBlock) u10 x10_2) ∧ Aside0 (Below w.heap.size w w'))
       case atStart => exact ⟨(a1), (0), ez, ez, H', ⟨Nat.le_refl _⟩, ⟨mR HO_9.out⟩, ⟨mR HO_10.out⟩, ⟨mB HB.out⟩⟩
       case round =>
        clear H'
        (try clear c1); (try clear c2); (try clear p2); (try clear q2); (try clear hx2); (try clear c6); (try clear c6b0); (try clear p6); (try clear c7); (try clear c7b0); (try clear c8); (try clear c15); (try clear c15b0); (try clear c16); (try clear hx233_0); (try clear hx233_1); (try clear p2); (try clear p233); (try clear p6); (try clear q2); (try clear q233)
        obtain ⟨x12_3, x13_3, rfl, rfl, HA, HK3, HO_9, HO_10, HB⟩ := hrel
        cases gk with
        | zero => exact absurd HA.out (by simp [prebendref16_New.l2])
        | succ k3 =>
         have H := HA.out
         clear HA
         simp only [prebendref16_New.l2] at H
         by_cases c17 : x13_3 < (l2.length : Int)
         ·rw [if_pos c17] at H
          have c17b0 : decide (x13_3 < (l2.length : Int)) = true := decide_eq_true c17
          clear c17
          by_cases c18 : 0 ≤ x13_3
          ·rw [if_pos c18] at H
           have c18b0 : decide (0 ≤ x13_3) = true := decide_eq_true c18
           clear c18
           by_cases c19 : 0 ≤ x11_2
           ·rw [if_pos c19] at H
            have c19b0 : decide (0 ≤ x11_2) = true := decide_eq_true c19
            clear c19
            by_cases c20 : x11_2 < (t237.length : Int)
            ·rw [if_pos c20] at H
             have c20b0 : decide (x11_2 < (t237.length : Int)) = true := decide_eq_true c20
             clear c20
             by_cases c21 : ((rd_T38 l2 x13_3).f0) > (rd t237 x11_2)
             ·rw [if_pos c21] at H
              have c21b0 : decide ((rd t237 x11_2) < ((rd_T38 l2 x13_3).f0)) = true := decide_eq_true c21
              clear c21
              have H' := Aside0.mk H
              clear H
              have p246 : 0 ≤ (x13_3 : Int) := oda
              have q246 : x13_3 < (l2.length : Int) := oda
              obtain ⟨ad246, e246, hx246_0, hx246_1⟩ := at_T38 HR2.out x13_3 p246 q246
              cases e246
              replace hx246_0 := (HB.out.cell (World.block_lt_of_cell? w _ hx246_0)).trans hx246_0
              replace hx246_1 := (HB.out.cell (World.block_lt_of_cell? w _ hx246_1)).trans hx246_1
              replace p246 := eq_true p246
              replace q246 := eq_true q246
              have p247 : 0 ≤ (x11_2 : Int) := oda
              have q247 : x11_2 < (t237.length : Int) := oda
              obtain ⟨ad247, e247, hx247_0⟩ := Kd.at_int (Kd.R_reads' HO_9.out).2.2 x11_2 p247 q247
              cases e247
              replace p247 := eq_true p247
              replace q247 := eq_true q247
              have p248 : 0 ≤ (x13_3 : Int) := oda
              have q248 : x13_3 < (l2.length : Int) := oda
              obtain ⟨ad248, e248, hx248_0, hx248_1⟩ := at_T38 HR2.out x13_3 p248 q248
              obtain rfl : ad246 = ad248 := (by injection e248)
              replace hx248_0 := (HB.out.cell (World.block_lt_of_cell? w _ hx248_0)).trans hx248_0
              replace hx248_1 := (HB.out.cell (World.block_lt_of_cell? w _ hx248_1)).trans hx248_1
              replace p248 := eq_true p248
              replace q248 := eq_true q248
              go_wp2
              repeat (go_quiet (fail); try go_wp2)
              go_roundg k3
              case measure => have := HK1.out; have := HK2.out; have := HK3.out; omega
              case rel => exact ⟨(wrap64 (x12_3 - ((rd_T38 l2 x13_3).f1))), (wrap64 (x13_3 + 1)), ez, ez, H', ⟨by have := HK1.out; have := HK2.out; have := HK3.out; omega⟩, ⟨mR HO_9.out⟩, ⟨mR HO_10.out⟩, ⟨mB HB.out⟩⟩
             ·rw [if_neg c21] at H
              have c21b0 : decide ((rd t237 x11_2) < ((rd_T38 l2 x13_3).f0)) = false := decide_eq_false c21
              clear c21
              have H' := Aside0.mk H
              clear H
              have p246 : 0 ≤ (x13_3 : Int) := oda
              have q246 : x13_3 < (l2.length : Int) := oda
              obtain ⟨ad246, e246, hx246_0, hx246_1⟩ := at_T38 HR2.out x13_3 p246 q246
              cases e246
              replace hx246_0 := (HB.out.cell (World.block_lt_of_cell? w _ hx246_0)).trans hx246_0
              replace hx246_1 := (HB.out.cell (World.block_lt_of_cell? w _ hx246_1)).trans hx246_1
              replace p246 := eq_true p246
              replace q246 := eq_true q246
              have p247 : 0 ≤ (x11_2 : Int) := oda
              have q247 : x11_2 < (t237.length : Int) := oda
              obtain ⟨ad247, e247, hx247_0⟩ := Kd.at_int (Kd.R_reads' HO_9.out).2.2 x11_2 p247 q247
              cases e247
              replace p247 := eq_true p247
              replace q247 := eq_true q247
              go_wp2
              repeat (go_quiet (fail); try go_wp2)
              go_roundg k3
              case measure => have := HK1.out; have := HK2.out; have := HK3.out; omega
              case rel => exact ⟨(x12_3), (wrap64 (x13_3 + 1)), ez, ez, H', ⟨by have := HK1.out; have := HK2.out; have := HK3.out; omega⟩, ⟨mR HO_9.out⟩, ⟨mR HO_10.out⟩, ⟨mB HB.out⟩⟩
            ·rw [if_neg c20] at H
             exact absurd H (by simp)
           ·rw [if_neg c19] at H
            exact absurd H (by simp)
          ·rw [if_neg c18] at H
           exact absurd H (by simp)
         ·rw [if_neg c17] at H
          have c17b0 : decide (x13_3 < (l2.length : Int)) = false := decide_eq_false c17
          clear c17
          by_cases c22 : x10_2.length < 17592186044416
          ·rw [if_pos c22] at H
           have LMc22 := Aside0.mk c22
           clear c22
           obtain ⟨y249, hy249⟩ : ∃ y_ : List Int, y_ = (x10_2 ++ [x12_3]) := ⟨_, rfl⟩
           replace H : (prebendref16_New.l1 k3 a1 l2 t237 y249 (wrap64 (x11_2 + 1))) = some r := mH hy249 H
           have Ny249 := Aside0.mk hy249
           clear hy249
           have H' := Aside0.mk H
           clear H
           go_wp2_with (first | ((with_reducible refine gate_builtin (b := .append) (xs := #[.tmp 63, .tmp 65]) rfl ?_); at_builtin; refine Kd.R_append (Kd.int .i64) (w0 := w) w.heap.size rfl (.tmp 63) (.tmp 65) 55 3 (.int .i64 0) 8 rfl Try.underlying55 info3 rfl (by decide) (by omega) u10 x10_2 x12_3 [.int .i64 x12_3] (fun k_ => some k_ ≠ (.slice Ao16 t237.length co16 : Value).ownBlock) (fun _ => False) rfl rfl ?aP (fun _ hk => hk.elim) ?aF ?aO ?aB ?aS ?aL ?_; (case aP => exact rfl); (case aB => exact (mB HB.out)); (case aF => exact (fun k_ hk => Kd.fresh' (Kd.R_lt (mR HO_9.out)) k_ hk)); (case aO => exact (mR HO_10.out)); (case aS => exact (below_size (mB HB.out))); (case aL => have := LMc22.out; omega); intro v250 w23 ho hb hg hat; rw [← Ny249.out] at ho; have n0_ := Aside0.mk (Kd.R_after (ok := (fun _ => True)) (by (with_reducible repeat (first | apply Kd.R_alloc | apply Kd.R_drewN | apply Kd.R_drew)); exact Kd.R_mono HO_9.out (fun _ hk => ⟨trivial, hk⟩)) hg hat); have n1_ := Aside0.mk (hb); have n2_ := Aside0.mk (ho); clear HO_9; clear HB; clear HO_10; have HO_9 := n0_; have HB := n1_; have HO251 := n2_; clear n0_ n1_ n2_; clear ho hb hg hat))
           repeat (go_quiet (fail); try go_wp2)
           go_roundg k3
           case measure => have := HK1.out; have := HK2.out; have := HK3.out; omega
           case rel => exact ⟨(y249), (wrap64 (x11_2 + 1)), ez, H', ⟨by have := HK1.out; have := HK2.out; have := HK3.out; omega⟩, ⟨by (with_reducible repeat (first | apply Kd.R_alloc | apply Kd.R_drewN | apply Kd.R_drew)); exact Kd.R_mono HO_9.out (fun _ hk => hk.2)⟩, ⟨mR HO251.out⟩, ⟨mB HB.out⟩⟩
          ·rw [if_neg c22] at H
           exact absurd H (by simp)
      ·rw [if_neg c15] at H
       have c15b0 : decide (x11_2 < (t237.length : Int)) = false := decide_eq_false c15
       clear c15
       replace H := Option.bind_eq_some_iff.mp H
       obtain ⟨t243, A240, H⟩ := H
       replace H : (some t243) = some r := H
       have A24 := Aside0.mk A240
       clear A240
       obtain rfl := Option.some.inj H
       obtain ⟨Ao25, co25, eo25⟩ := Kd.R_slice HO_9.out
       subst eo25
       obtain ⟨Ao26, co26, eo26⟩ := Kd.R_slice HO_10.out
       subst eo26
       go_wp2_with (first | (go_at_call 45; (with_reducible refine (prebendref16_made.calls k2 _ _ t237 _ _ x10_2 t243 _ ?side1 ?side2 ?side3 ?side4 A24.out).mono ?_); (case side1 => exact mC (Kd.R_reads' HO_9.out).2.2); (case side2 => exact (Kd.R_reads' HO_9.out).2.1); (case side3 => exact mC (Kd.R_reads' HO_10.out).2.2); (case side4 => exact (Kd.R_reads' HO_10.out).2.1); rintro e w27 ⟨v244, rfl, ho0, hb⟩; have n0_ := Aside0.mk (Kd.R_below (mR HO_9.out) hb); have n1_ := Aside0.mk (Kd.R_below (mR HO_10.out) hb); have n2_ := Aside0.mk (Kd.R_lower ho0 (below_size (mB HB.out))); have n3_ := Aside0.mk (below_step (mB HB.out) hb); clear HO_9; clear HO_10; clear HB; have HO_9 := n0_; have HO_10 := n1_; have HO245 := n2_; have HB := n3_; clear n0_ n1_ n2_ n3_; (try clear hb); (try clear hb2); (try clear hk); (try clear hi); (try clear ho0)))
       repeat (go_quiet (fail); try go_wp2)
       go_ret
       exact ⟨_, by first | rfl | (simp [errW_none, errW_some] <;> rfl) | (simp [*, errW_none, errW_some] <;> rfl), mR HO245.out, by repeat (first | (with_reducible first | exact HB.out | apply below_alloc | apply pw_below_drewN | apply below_drew1) | exact HB.out)⟩

end Go.Proofs.Ytedpoahndddgfaa.PAll
end
section
namespace Go.Proofs.Ytedpoahndddgfaa.PAll
open Go.RowKit Go.Proofs.YtedpoahndddgfaaW.PrintWords Go.Proofs.YtedpoahndddgfaaW.PrintLast Go.Proofs.YtedpoahndddgfaaW.PrintMore
attribute [local go_sem] max2_int min2_int max_two min_two max_three min_three max_four min_four   -- for this text's walks alone
set_option linter.unusedVariables false
set_option linter.unusedSimpArgs false

/-! ### profile_Fit: function 17 -/
def profile_Fit.l0 : Nat → List (S40) → Int → Int → Int → List (S40) → Int → Int → Option (Int × Bool)
 | 0, _, _, _, _, _, _, _ => none
 | k + 1, x0, x1, x2, x8, x11, x12, x13 => if x13 < x12 then (if 0 ≤ x13 then (if x13 < (x11.length : Int) then (if ((rd_T40 x11 x13).f1) < x1 then (if (-1) ≥ 0 then (if (wrap64 (x13 + 1)) = (x0.length : Int) then (if 0 ≤ (-1) then (if (-1) < (x0.length : Int) then (some ((rd_T40 x0 (-1)).f0, true)) else (none)) else (none)) else (if 0 ≤ (wrap64 (x13 + 1)) then (if (wrap64 (x13 + 1)) < (x0.length : Int) then (if 0 ≤ (-1) then (if (-1) < (x0.length : Int) then (if (wrap64 (((rd_T40 x0 (wrap64 (x13 + 1))).f0) - ((rd_T40 x0 (-1)).f0))) ≥ (mx x2 1) then (some ((rd_T40 x0 (-1)).f0, true)) else (profile_Fit.l0 k x0 x1 x2 (-1) x11 x12 (wrap64 (x13 + 1)))) else (none)) else (none)) else (none)) else (none))) else (profile_Fit.l0 k x0 x1 x2 (-1) x11 x12 (wrap64 (x13 + 1)))) else (if x8 < 0 then (if x13 ≥ 0 then (if (wrap64 (x13 + 1)) = (x0.length : Int) then (if x13 < (x0.length : Int) then (some ((rd_T40 x0 x13).f0, true)) else (none)) else (if 0 ≤ (wrap64 (x13 + 1)) then (if (wrap64 (x13 + 1)) < (x0.length : Int) then (if x13 < (x0.length : Int) then (if (wrap64 (((rd_T40 x0 (wrap64 (x13 + 1))).f0) - ((rd_T40 x0 x13).f0))) ≥ (mx x2 1) then (some ((rd_T40 x0 x13).f0, true)) else (profile_Fit.l0 k x0 x1 x2 x13 x11 x12 (wrap64 (x13 + 1)))) else (none)) else (none)) else (none))) else (profile_Fit.l0 k x0 x1 x2 x13 x11 x12 (wrap64 (x13 + 1)))) else (if x8 ≥ 0 then (if (wrap64 (x13 + 1)) = (x0.length : Int) then (if 0 ≤ x8 then (if x8 < (x0.length : Int) then (some ((rd_T40 x0 x8).f0, true)) else (none)) else (none)) else (if 0 ≤ (wrap64 (x13 + 1)) then (if (wrap64 (x13 + 1)) < (x0.length : Int) then (if 0 ≤ x8 then (if x8 < (x0.length : Int) then (if (wrap64 (((rd_T40 x0 (wrap64 (x13 + 1))).f0) - ((rd_T40 x0 x8).f0))) ≥ (mx x2 1) then (some ((rd_T40 x0 x8).f0, true)) else (profile_Fit.l0 k x0 x1 x2 x8 x11 x12 (wrap64 (x13 + 1)))) else (none)) else (none)) else (none)) else (none))) else (profile_Fit.l0 k x0 x1 x2 x8 x11 x12 (wrap64 (x13 + 1)))))) else (none)) else (none)) else (some (0, false))
def profile_Fit.f (k : Nat) (l0 : List (S40)) (a1 : Int) (a2 : Int) : Option (Int × Bool) := profile_Fit.l0 k l0 a1 a2 (-1) l0 (l0.length : Int) 0
theorem profile_Fit.mono_l : ∀ k, (∀ y0 y1 y2 y3 y4 y5 y6, LeO (profile_Fit.l0 k y0 y1 y2 y3 y4 y5 y6) (profile_Fit.l0 (k + 1) y0 y1 y2 y3 y4 y5 y6))
 | 0 => fun _ _ _ _ _ _ _ r h => by simp [profile_Fit.l0] at h
 | k + 1 => by
  have ih0 := profile_Fit.mono_l k
  ·intro y0 y1 y2 y3 y4 y5 y6
   unfold profile_Fit.l0
   repeat' first
   | (with_reducible exact ih0 _ _ _ _ _ _ _)
   | (with_reducible exact LeO.refl _)
   | (with_reducible exact LeO.none _)
   | (with_reducible refine LeO.ite ?_ ?_)
   | (with_reducible refine LeO.bind ?_ (fun _ => ?_))
   | exact ih0 _ _ _ _ _ _ _
   | exact LeO.none _
   | refine LeO.ite ?_ ?_
   | refine LeO.bind ?_ (fun _ => ?_)
theorem profile_Fit.mono : ∀ a0 a1 a2 k, LeO (profile_Fit.f k a0 a1 a2) (profile_Fit.f (k + 1) a0 a1 a2) := by
 intro a0 a1 a2 k
 have ih0 := profile_Fit.mono_l k
 unfold profile_Fit.f
 repeat' first
   | (with_reducible exact ih0 _ _ _ _ _ _ _)
   | (with_reducible exact LeO.refl _)
   | (with_reducible exact LeO.none _)
   | (with_reducible refine LeO.ite ?_ ?_)
   | (with_reducible refine LeO.bind ?_ (fun _ => ?_))
   | exact ih0 _ _ _ _ _ _ _
   | exact LeO.none _
   | refine LeO.ite ?_ ?_
   | refine LeO.bind ?_ (fun _ => ?_)
def profile_Fit.T9 : Bool × List (List Nat × List Nat) := (true, [([], []), ([0], [0]), ([1], [1]), ([2], [2]), ([3, 2], [2, 3]), ([2], [2]), ([5, 2], [2, 5]), ([4, 6, 2], [2, 4, 6]), ([7, 2, 2], [2, 7]), ([8], [8]), ([8], [8]), ([10, 8], [8, 10]), ([9, 11, 8], [8, 9, 11]), ([12, 8], [8, 12]), ([13, 8], [8, 13]), ([8], [8]), ([8], [8]), ([15, 16, 8], [8, 15, 16]), ([17, 8], [8, 17]), ([18, 8], [8, 18]), ([14, 19, 8], [8, 14, 19]), ([8], [8]), ([21, 8], [8, 21]), ([20, 22, 8], [8, 20, 22]), ([8, 23, 2], [2, 8, 23]), ([2, 24], [2, 24])])
def profile_Fit.B9 : List Nat := [0, 1, 3, 7, 15, 7, 39, 127, 255, 511, 511, 1535, 4095, 8191, 16383, 511, 511, 98815, 229887, 492031, 1048575, 511, 2097663, 8388607, 16777215, 33554431]
theorem profile_Fit.tab9 : rtab .any (opsOf Try.f17 9) = profile_Fit.T9 := by kernel_rfl
theorem profile_Fit.bits9 : waitsOk profile_Fit.T9.2 profile_Fit.B9 = true := by kernel_rfl
set_option maxHeartbeats 8000000 in
set_option maxRecDepth 100000 in
theorem profile_Fit.calls (k : Nat) (A0 : Option Addr) (c0 : Nat) (l0 : List (S40)) (a1 : Int) (a2 : Int) (r1 : Int) (r2 : Bool) (w : World) (hr0 : Kd.C k40 w A0 l0.length l0) (hc0 : l0.length ≤ c0) (h : profile_Fit.f k l0 a1 a2 = some (r1, r2)) :
  Calls Try.prog 17 #[.slice A0 l0.length c0, .int .i64 a1, .int .i64 a2] w fun e w' => e = .returned (.tuple #[.int .i64 r1, .bool r2]) ∧ Below w.heap.size w w' := by
 have hu40 := Try.underlying40
 have HR0 := Aside0.mk hr0
 have HC0 := Aside0.mk hc0
 clear hr0; clear hc0
 have HB := Aside0.mk (Below.refl w.heap.size w)
 have H : (profile_Fit.l0 k l0 a1 a2 (-1) l0 (l0.length : Int) 0) = some (r1, r2) := h
 clear h
 have H' := Aside0.mk H
 clear H
 go_enter Try.func17, Try.ntmps17
 go_wp2
 go_loopg [8, 13] k (fun kq v8 v13 w' => ∃ (x8_1 : Int) (x13_1 : Int), v8 = .int .i64 x8_1 ∧ v13 = .int .i64 x13_1 ∧ Aside0 (profile_Fit.l0 kq l0 a1 a2 x8_1 l0 (l0.length : Int) x13_1 = some (r1, r2)) ∧ Aside0 (kq ≤ k) ∧ Aside0 (Below w.heap.size w w'))
 case atStart => exact ⟨((-1)), (0), ez, ez, H', ⟨Nat.le_refl _⟩, ⟨mB HB.out⟩⟩
 case round =>
  clear H'
  (try clear c1); (try clear p2)
  obtain ⟨x8_1, x13_1, rfl, rfl, HA, HK1, HB⟩ := hrel
  cases gk with
  | zero => exact absurd HA.out (by simp [profile_Fit.l0])
  | succ k1 =>
   have H := HA.out
   clear HA
   simp only [profile_Fit.l0] at H
   by_cases c4 : x13_1 < (l0.length : Int)
   ·rw [if_pos c4] at H
    have c4b0 : decide (x13_1 < (l0.length : Int)) = true := decide_eq_true c4
    clear c4
    by_cases c5 : 0 ≤ x13_1
    ·rw [if_pos c5] at H
     have c5b0 : decide (0 ≤ x13_1) = true := decide_eq_true c5
     clear c5
     by_cases c6 : x13_1 < (l0.length : Int)
     ·rw [if_pos c6] at H
      have c6b0 : decide (x13_1 < (l0.length : Int)) = true := decide_eq_true c6
      clear c6
      by_cases c7 : ((rd_T40 l0 x13_1).f1) < a1
      ·rw [if_pos c7] at H
       have c7b0 : decide (((rd_T40 l0 x13_1).f1) < a1) = true := decide_eq_true c7
       clear c7
       by_cases c8 : (-1) ≥ 0
       · exact absurd c8 (by decide)
       ·rw [if_neg c8] at H
        have c8b0 : decide (0 ≤ (-1)) = false := decide_eq_false c8
        clear c8
        have H' := Aside0.mk H
        clear H
        have p252 : 0 ≤ (x13_1 : Int) := oda
        have q252 : x13_1 < (l0.length : Int) := oda
        obtain ⟨ad252, e252, hx252_0, hx252_1⟩ := at_T40 HR0.out x13_1 p252 q252
        cases e252
        replace hx252_0 := (HB.out.cell (World.block_lt_of_cell? w _ hx252_0)).trans hx252_0
        replace hx252_1 := (HB.out.cell (World.block_lt_of_cell? w _ hx252_1)).trans hx252_1
        replace p252 := eq_true p252
        replace q252 := eq_true q252
        try go_wp2_with (first | ((with_reducible refine gate_dst (N := 10) rfl ?_); refine box_event ?hg (N := 10) ?hd (cs := #[.int .i64 0, .int .i64 0]) (t := 40) ?hr ?_; (case hd => rfl); (case hg => rfl); (case hr => first | (go_simp; done) | (go_simp; rfl)); intro gb253 hg w31 hbox hb; have n0_ := Aside0.mk (below_step (mB HB.out) hb); have n1_ := Aside0.mk (hbox); have n2_ := Aside0.mk ((by rw [hg]; exact (below_size (mB HB.out)) : w.heap.size ≤ gb253)); have n3_ := Aside0.mk ((by rw [hg]; exact (below_size (mB HB.out)) : w.heap.size ≤ gb253)); clear HB; have HB := n0_; have BK253 := n1_; have GW253 := n2_; have GE253 := n3_; clear n0_ n1_ n2_ n3_; clear hb hbox hg; have hcz32_0 : w31.cell? ⟨gb253, 0, none⟩ = some (.int .i64 0) := (blk_cell BK253.out 0).trans rfl; have hcz32_1 : w31.cell? ⟨gb253, 1, none⟩ = some (.int .i64 0) := (blk_cell BK253.out 1).trans rfl; have hfz32_0 := blk_frozen BK253.out 0; have hfz32_1 := blk_frozen BK253.out 1))
        have n0_ : Aside0 (((w31.setCell ⟨gb253, 0, none⟩ (.int .i64 ((rd_T40 l0 x13_1).f0))).setCell ⟨gb253, 1, none⟩ (.int .i64 ((rd_T40 l0 x13_1).f1))).heap[gb253]? = some (.cells #[.int .i64 ((rd_T40 l0 x13_1).f0), .int .i64 ((rd_T40 l0 x13_1).f1)] 40 (0, 0))) := ⟨by (with_reducible repeat (first | refine blk_drewN ?_ _ | refine blk_drew ?_ | refine blk_alloc ?_ _)); refine blk_put (cs := #[.int .i64 ((rd_T40 l0 x13_1).f0), .int .i64 0]) ?_ 1 _ rfl; (with_reducible repeat (first | refine blk_drewN ?_ _ | refine blk_drew ?_ | refine blk_alloc ?_ _)); refine blk_put (cs := #[.int .i64 0, .int .i64 0]) ?_ 0 _ rfl; (with_reducible repeat (first | refine blk_drewN ?_ _ | refine blk_drew ?_ | refine blk_alloc ?_ _)); exact BK253.out⟩
        have n1_ : Aside0 (Below w.heap.size w ((w31.setCell ⟨gb253, 0, none⟩ (.int .i64 ((rd_T40 l0 x13_1).f0))).setCell ⟨gb253, 1, none⟩ (.int .i64 ((rd_T40 l0 x13_1).f1)))) := ⟨mBs HB.out⟩
        (try clear BK253); (try clear HB)
        generalize ((w31.setCell ⟨gb253, 0, none⟩ (.int .i64 ((rd_T40 l0 x13_1).f0))).setCell ⟨gb253, 1, none⟩ (.int .i64 ((rd_T40 l0 x13_1).f1))) = w33 at n0_ n1_ ⊢
        have BK253 := n0_
        have HB := n1_
        clear n0_; clear n1_
        have n0_ := Aside0.mk (blk_drew BK253.out)
        have n1_ := Aside0.mk (below_drew1 HB.out)
        clear BK253; clear HB
        have BK253 := n0_
        have HB := n1_
        clear n0_; clear n1_
        refine start_ (n := 26) (S := fun w' => True) (ds := []) #[false, false, false, false, false, false, false, false, false, false, false, false, false, false, false, false, false, false, false, false, false, false, false, false, false, false] (by kernel_rfl) rfl rfl trivial (fun hHeld => ?_); refine with_tabW profile_Fit.tab9 profile_Fit.bits9 (fun HT_ HW_ => ?_)
        generalize w33.drew = w34 at BK253 HB hHeld ⊢
        refine plan_ [(0, 27), (1, 28), (2, 29)] ?_
        iterate 3 (refine planP_ (v := ?_) (a' := ?_) rfl rfl (any_of HT_.out (by kernel_rfl)) (fun _ _ _ h => h) (Or.inl ⟨by rfl, ?_⟩) ?_ ?_; rotate_left; (intro w'; go_simp; with_reducible rfl); rotate_left; (simp only [Act.put, List.setIfInBounds_toArray, List.set_cons_zero, List.set_cons_succ, i64_w, i32_w]; rfl))
        refine planEnd_ ?_
        refine plan_ [(3, 30), (4, 31), (5, 32), (6, 33), (7, 34), (8, 35), (9, 36), (10, 37), (11, 38), (12, 39), (13, 40), (14, 41), (15, 42), (16, 43), (17, 44), (18, 45), (19, 46), (20, 47), (21, 48), (22, 49), (23, 50), (24, 51)] ?_
        iterate 22 (refine planP_ (v := undef) (a' := ?_) rfl rfl (any_of HT_.out (by kernel_rfl)) (fun _ _ _ h => h) (Or.inr ⟨by rfl, rfl⟩) ?_ ?_; rotate_left; (simp only [Act.put, List.setIfInBounds_toArray, List.set_cons_zero, List.set_cons_succ, i64_w, i32_w]; rfl))
        refine planEnd_ ?_
        refine plan_ [(25, 52)] ?_
        refine planP_ (v := ?_) (a' := ?_) rfl rfl (any_of HT_.out (by kernel_rfl)) (fun _ _ _ h => h) (Or.inl ⟨by rfl, ?_⟩) ?_ ?_; rotate_left; (intro w'; go_simp; with_reducible rfl); rotate_left; (simp only [Act.put, List.setIfInBounds_toArray, List.set_cons_zero, List.set_cons_succ, i64_w, i32_w]; rfl)
        refine planEnd_ ?_
        refine done_ (done_of HT_.out (by kernel_rfl)) ?_
        try go_wp2
        go_roundg k1
        case measure => have := HK1.out; omega
        case rel => exact ⟨((-1)), (wrap64 (x13_1 + 1)), ez, ez, H', ⟨by have := HK1.out; omega⟩, ⟨mBs HB.out⟩⟩
      ·rw [if_neg c7] at H
       have c7b0 : decide (((rd_T40 l0 x13_1).f1) < a1) = false := decide_eq_false c7
       clear c7
       by_cases c35 : x8_1 < 0
       ·rw [if_pos c35] at H
        have c35b0 : decide (x8_1 < 0) = true := decide_eq_true c35
        clear c35
        by_cases c36 : x13_1 ≥ 0
        ·rw [if_pos c36] at H
         have c36b0 : decide (0 ≤ x13_1) = true := decide_eq_true c36
         clear c36
         by_cases c37 : (wrap64 (x13_1 + 1)) = (l0.length : Int)
         ·rw [if_pos c37] at H
          have c37b0 : ((wrap64 (x13_1 + 1)) == (l0.length : Int)) = true := beq_iff_eq.mpr c37
          have c37b1 : ((wrap64 (x13_1 + 1)) != (l0.length : Int)) = false := bne_eq_false_iff_eq.mpr c37
          clear c37
          by_cases c38 : x13_1 < (l0.length : Int)
          ·rw [if_pos c38] at H
           have c38b0 : decide (x13_1 < (l0.length : Int)) = true := decide_eq_true c38
           clear c38
           simp only [Option.some.injEq, Prod.mk.injEq] at H
           obtain ⟨rfl, rfl⟩ := H
           have p252 : 0 ≤ (x13_1 : Int) := oda
           have q252 : x13_1 < (l0.length : Int) := oda
           obtain ⟨ad252, e252, hx252_0, hx252_1⟩ := at_T40 HR0.out x13_1 p252 q252
           cases e252
           replace hx252_0 := (HB.out.cell (World.block_lt_of_cell? w _ hx252_0)).trans hx252_0
           replace hx252_1 := (HB.out.cell (World.block_lt_of_cell? w _ hx252_1)).trans hx252_1
           replace p252 := eq_true p252
           replace q252 := eq_true q252
           try go_wp2_with (first | ((with_reducible refine gate_dst (N := 10) rfl ?_); refine box_event ?hg (N := 10) ?hd (cs := #[.int .i64 0, .int .i64 0]) (t := 40) ?hr ?_; (case hd => rfl); (case hg => rfl); (case hr => first | (go_simp; done) | (go_simp; rfl)); intro gb253 hg w39 hbox hb; have n0_ := Aside0.mk (below_step (mB HB.out) hb); have n1_ := Aside0.mk (hbox); have n2_ := Aside0.mk ((by rw [hg]; exact (below_size (mB HB.out)) : w.heap.size ≤ gb253)); have n3_ := Aside0.mk ((by rw [hg]; exact (below_size (mB HB.out)) : w.heap.size ≤ gb253)); clear HB; have HB := n0_; have BK253 := n1_; have GW253 := n2_; have GE253 := n3_; clear n0_ n1_ n2_ n3_; clear hb hbox hg; have hcz40_0 : w39.cell? ⟨gb253, 0, none⟩ = some (.int .i64 0) := (blk_cell BK253.out 0).trans rfl; have hcz40_1 : w39.cell? ⟨gb253, 1, none⟩ = some (.int .i64 0) := (blk_cell BK253.out 1).trans rfl; have hfz40_0 := blk_frozen BK253.out 0; have hfz40_1 := blk_frozen BK253.out 1))
           have n0_ : Aside0 (((w39.setCell ⟨gb253, 0, none⟩ (.int .i64 ((rd_T40 l0 x13_1).f0))).setCell ⟨gb253, 1, none⟩ (.int .i64 ((rd_T40 l0 x13_1).f1))).heap[gb253]? = some (.cells #[.int .i64 ((rd_T40 l0 x13_1).f0), .int .i64 ((rd_T40 l0 x13_1).f1)] 40 (0, 0))) := ⟨by (with_reducible repeat (first | refine blk_drewN ?_ _ | refine blk_drew ?_ | refine blk_alloc ?_ _)); refine blk_put (cs := #[.int .i64 ((rd_T40 l0 x13_1).f0), .int .i64 0]) ?_ 1 _ rfl; (with_reducible repeat (first | refine blk_drewN ?_ _ | refine blk_drew ?_ | refine blk_alloc ?_ _)); refine blk_put (cs := #[.int .i64 0, .int .i64 0]) ?_ 0 _ rfl; (with_reducible repeat (first | refine blk_drewN ?_ _ | refine blk_drew ?_ | refine blk_alloc ?_ _)); exact BK253.out⟩
           have n1_ : Aside0 (Below w.heap.size w ((w39.setCell ⟨gb253, 0, none⟩ (.int .i64 ((rd_T40 l0 x13_1).f0))).setCell ⟨gb253, 1, none⟩ (.int .i64 ((rd_T40 l0 x13_1).f1)))) := ⟨mBs HB.out⟩
           (try clear BK253); (try clear HB)
           generalize ((w39.setCell ⟨gb253, 0, none⟩ (.int .i64 ((rd_T40 l0 x13_1).f0))).setCell ⟨gb253, 1, none⟩ (.int .i64 ((rd_T40 l0 x13_1).f1))) = w41 at n0_ n1_ ⊢
           have BK253 := n0_
           have HB := n1_
           clear n0_; clear n1_
           have n0_ := Aside0.mk (blk_drew BK253.out)
           have n1_ := Aside0.mk (below_drew1 HB.out)
           clear BK253; clear HB
           have BK253 := n0_
           have HB := n1_
           clear n0_; clear n1_
           refine start_ (n := 26) (S := fun w' => True) (ds := []) #[false, false, false, false, false, false, false, false, false, false, false, false, false, false, false, false, false, false, false, false, false, false, false, false, false, false] (by kernel_rfl) rfl rfl trivial (fun hHeld => ?_); refine with_tabW profile_Fit.tab9 profile_Fit.bits9 (fun HT_ HW_ => ?_)
           generalize w41.drew = w42 at BK253 HB hHeld ⊢
           refine plan_ [(0, 27), (1, 28), (2, 29), (3, 30), (4, 31), (5, 32), (6, 33), (7, 34), (8, 35)] ?_
           iterate 9 (refine planP_ (v := ?_) (a' := ?_) rfl rfl (any_of HT_.out (by kernel_rfl)) (fun _ _ _ h => h) (Or.inl ⟨by rfl, ?_⟩) ?_ ?_; rotate_left; (intro w'; go_simp; with_reducible rfl); rotate_left; (simp only [Act.put, List.setIfInBounds_toArray, List.set_cons_zero, List.set_cons_succ, i64_w, i32_w]; rfl))
           refine planEnd_ ?_
           refine plan_ [(9, 36), (10, 37), (11, 38), (12, 39), (13, 40), (14, 41), (15, 42), (16, 43), (17, 44), (18, 45), (19, 46), (20, 47), (21, 48), (22, 49), (23, 50)] ?_
           iterate 15 (refine planP_ (v := undef) (a' := ?_) rfl rfl (any_of HT_.out (by kernel_rfl)) (fun _ _ _ h => h) (Or.inr ⟨by rfl, rfl⟩) ?_ ?_; rotate_left; (simp only [Act.put, List.setIfInBounds_toArray, List.set_cons_zero, List.set_cons_succ, i64_w, i32_w]; rfl))
           refine planEnd_ ?_
           refine plan_ [(24, 51), (25, 52)] ?_
           iterate 2 (refine planP_ (v := ?_) (a' := ?_) rfl rfl (any_of HT_.out (by kernel_rfl)) (fun _ _ _ h => h) (Or.inl ⟨by rfl, ?_⟩) ?_ ?_; rotate_left; (intro w'; go_simp; with_reducible rfl); rotate_left; (simp only [Act.put, List.setIfInBounds_toArray, List.set_cons_zero, List.set_cons_succ, i64_w, i32_w]; rfl))
           refine planEnd_ ?_
           refine done_ (done_of HT_.out (by kernel_rfl)) ?_
           have p258 : 0 ≤ (x13_1 : Int) := oda
           have q258 : x13_1 < (l0.length : Int) := oda
           obtain ⟨ad258, e258, hx258_0, hx258_1⟩ := at_T40 HR0.out x13_1 p258 q258
           obtain rfl : ad252 = ad258 := (by injection e258)
           replace hx258_0 := (HB.out.cell (World.block_lt_of_cell? w _ hx258_0)).trans hx258_0
           replace hx258_1 := (HB.out.cell (World.block_lt_of_cell? w _ hx258_1)).trans hx258_1
           replace p258 := eq_true p258
           replace q258 := eq_true q258
           try go_wp2
           go_ret2
           exact ⟨by first | rfl | (simp [errW_none, errW_some] <;> rfl) | (simp [*, errW_none, errW_some] <;> rfl), by repeat (first | (with_reducible first | exact HB.out | apply below_alloc | apply pw_below_drewN | apply below_drew1 | refine below_set ?_ GE253.out) | exact HB.out)⟩
          · exact absurd (of_decide_eq_true c4b0) c38
         ·rw [if_neg c37] at H
          have c37b0 : ((wrap64 (x13_1 + 1)) == (l0.length : Int)) = false := beq_eq_false_iff_ne.mpr c37
          have c37b1 : ((wrap64 (x13_1 + 1)) != (l0.length : Int)) = true := bne_iff_ne.mpr c37
          obtain ⟨ji43, hji43⟩ : ∃ j_ : Int, (wrap64 (x13_1 + 1)) = j_ := ⟨_, rfl⟩
          replace H : (if 0 ≤ (ji43) then (if (ji43) < (l0.length : Int) then (if x13_1 < (l0.length : Int) then (if (wrap64 (((rd_T40 l0 (ji43)).f0) - ((rd_T40 l0 x13_1).f0))) ≥ (mx a2 1) then (some ((rd_T40 l0 x13_1).f0, true)) else (profile_Fit.l0 k1 l0 a1 a2 x13_1 l0 (l0.length : Int) ji43)) else (none)) else (none)) else (none)) = some (r1, r2) := by first | (rw [hji43] at H; exact H) | (simp only [hji43] at H ⊢; exact H)
          (try rw [hji43] at c37b0)
          (try rw [hji43] at c37b1)
          have hji43w : (IntKind.i64.wrap (x13_1 + 1)) = ji43 := (i64_w _).trans hji43
          by_cases c44 : 0 ≤ (ji43)
          ·rw [if_pos c44] at H
           have c44b0 : decide (0 ≤ (ji43)) = true := decide_eq_true c44
           clear c44
           by_cases c45 : (ji43) < (l0.length : Int)
           ·rw [if_pos c45] at H
            have c45b0 : decide ((ji43) < (l0.length : Int)) = true := decide_eq_true c45
            clear c45
            by_cases c46 : x13_1 < (l0.length : Int)
            ·rw [if_pos c46] at H
             have c46b0 : decide (x13_1 < (l0.length : Int)) = true := decide_eq_true c46
             clear c46
             obtain ⟨ji47, hji47⟩ : ∃ j_ : Int, (mx a2 1) = j_ := ⟨_, rfl⟩
             replace H : (if (wrap64 (((rd_T40 l0 (ji43)).f0) - ((rd_T40 l0 x13_1).f0))) ≥ (ji47) then (some ((rd_T40 l0 x13_1).f0, true)) else (profile_Fit.l0 k1 l0 a1 a2 x13_1 l0 (l0.length : Int) ji43)) = some (r1, r2) := by first | (rw [hji47] at H; exact H) | (simp only [hji47] at H ⊢; exact H)
             have hji47_ : (if a2 < 1 then 1 else a2) = ji47 := hji47
             by_cases c48 : (wrap64 (((rd_T40 l0 (ji43)).f0) - ((rd_T40 l0 x13_1).f0))) ≥ (ji47)
             ·rw [if_pos c48] at H
              have c48b0 : decide ((ji47) ≤ (wrap64 (((rd_T40 l0 (ji43)).f0) - ((rd_T40 l0 x13_1).f0)))) = true := decide_eq_true c48
              clear c48
              simp only [Option.some.injEq, Prod.mk.injEq] at H
              obtain ⟨rfl, rfl⟩ := H
              have p252 : 0 ≤ (x13_1 : Int) := oda
              have q252 : x13_1 < (l0.length : Int) := oda
              obtain ⟨ad252, e252, hx252_0, hx252_1⟩ := at_T40 HR0.out x13_1 p252 q252
              cases e252
              replace hx252_0 := (HB.out.cell (World.block_lt_of_cell? w _ hx252_0)).trans hx252_0
              replace hx252_1 := (HB.out.cell (World.block_lt_of_cell? w _ hx252_1)).trans hx252_1
              replace p252 := eq_true p252
              replace q252 := eq_true q252
              try go_wp2_with (first | ((with_reducible refine gate_dst (N := 10) rfl ?_); refine box_event ?hg (N := 10) ?hd (cs := #[.int .i64 0, .int .i64 0]) (t := 40) ?hr ?_; (case hd => rfl); (case hg => rfl); (case hr => first | (go_simp; done) | (go_simp; rfl)); intro gb253 hg w49 hbox hb; have n0_ := Aside0.mk (below_step (mB HB.out) hb); have n1_ := Aside0.mk (hbox); have n2_ := Aside0.mk ((by rw [hg]; exact (below_size (mB HB.out)) : w.heap.size ≤ gb253)); have n3_ := Aside0.mk ((by rw [hg]; exact (below_size (mB HB.out)) : w.heap.size ≤ gb253)); clear HB; have HB := n0_; have BK253 := n1_; have GW253 := n2_; have GE253 := n3_; clear n0_ n1_ n2_ n3_; clear hb hbox hg; have hcz50_0 : w49.cell? ⟨gb253, 0, none⟩ = some (.int .i64 0) := (blk_cell BK253.out 0).trans rfl; have hcz50_1 : w49.cell? ⟨gb253, 1, none⟩ = some (.int .i64 0) := (blk_cell BK253.out 1).trans rfl; have hfz50_0 := blk_frozen BK253.out 0; have hfz50_1 := blk_frozen BK253.out 1))
              have n0_ : Aside0 (((w49.setCell ⟨gb253, 0, none⟩ (.int .i64 ((rd_T40 l0 x13_1).f0))).setCell ⟨gb253, 1, none⟩ (.int .i64 ((rd_T40 l0 x13_1).f1))).heap[gb253]? = some (.cells #[.int .i64 ((rd_T40 l0 x13_1).f0), .int .i64 ((rd_T40 l0 x13_1).f1)] 40 (0, 0))) := ⟨by (with_reducible repeat (first | refine blk_drewN ?_ _ | refine blk_drew ?_ | refine blk_alloc ?_ _)); refine blk_put (cs := #[.int .i64 ((rd_T40 l0 x13_1).f0), .int .i64 0]) ?_ 1 _ rfl; (with_reducible repeat (first | refine blk_drewN ?_ _ | refine blk_drew ?_ | refine blk_alloc ?_ _)); refine blk_put (cs := #[.int .i64 0, .int .i64 0]) ?_ 0 _ rfl; (with_reducible repeat (first | refine blk_drewN ?_ _ | refine blk_drew ?_ | refine blk_alloc ?_ _)); exact BK253.out⟩
              have n1_ : Aside0 (Below w.heap.size w ((w49.setCell ⟨gb253, 0, none⟩ (.int .i64 ((rd_T40 l0 x13_1).f0))).setCell ⟨gb253, 1, none⟩ (.int .i64 ((rd_T40 l0 x13_1).f1)))) := ⟨mBs HB.out⟩
              (try clear BK253); (try clear HB)
              generalize ((w49.setCell ⟨gb253, 0, none⟩ (.int .i64 ((rd_T40 l0 x13_1).f0))).setCell ⟨gb253, 1, none⟩ (.int .i64 ((rd_T40 l0 x13_1).f1))) = w51 at n0_ n1_ ⊢
              have BK253 := n0_
              have HB := n1_
              clear n0_; clear n1_
              have n0_ := Aside0.mk (blk_drew BK253.out)
              have n1_ := Aside0.mk (below_drew1 HB.out)
              clear BK253; clear HB
              have BK253 := n0_
              have HB := n1_
              clear n0_; clear n1_
              have p259 : 0 ≤ ((ji43) : Int) := oda
              have q259 : (ji43) < (l0.length : Int) := oda
              obtain ⟨ad259, e259, hx259_0, hx259_1⟩ := at_T40 HR0.out (ji43) p259 q259
              have hw259_1 := hx259_1
              have hw259_0 := hx259_0
              obtain rfl : ad252 = ad259 := (by injection e259)
              replace hx259_0 := (HB.out.cell (World.block_lt_of_cell? w _ hx259_0)).trans hx259_0
              replace hx259_1 := (HB.out.cell (World.block_lt_of_cell? w _ hx259_1)).trans hx259_1
              replace p259 := eq_true p259
              replace q259 := eq_true q259
              have p260 : 0 ≤ (x13_1 : Int) := oda
              have q260 : x13_1 < (l0.length : Int) := oda
              obtain ⟨ad260, e260, hx260_0, hx260_1⟩ := at_T40 HR0.out x13_1 p260 q260
              have hw260_1 := hx260_1
              have hw260_0 := hx260_0
              obtain rfl : ad252 = ad260 := (by injection e260)
              replace hx260_0 := (HB.out.cell (World.block_lt_of_cell? w _ hx260_0)).trans hx260_0
              replace hx260_1 := (HB.out.cell (World.block_lt_of_cell? w _ hx260_1)).trans hx260_1
              replace p260 := eq_true p260
              replace q260 := eq_true q260
              refine start_ (n := 26) (S := fun w' => w'.cell? (ad252.add (((ji43)).toNat * 2)) = some (.int .i64 ((rd_T40 l0 (ji43)).f0)) ∧ w'.cell? ⟨(ad252.add (((ji43)).toNat * 2)).block, (ad252.add (((ji43)).toNat * 2)).off + 1, none⟩ = some (.int .i64 ((rd_T40 l0 (ji43)).f1)) ∧ w'.cell? (ad252.add ((x13_1).toNat * 2)) = some (.int .i64 ((rd_T40 l0 x13_1).f0)) ∧ w'.cell? ⟨(ad252.add ((x13_1).toNat * 2)).block, (ad252.add ((x13_1).toNat * 2)).off + 1, none⟩ = some (.int .i64 ((rd_T40 l0 x13_1).f1))) (ds := []) #[false, false, false, false, false, false, false, false, false, false, false, false, false, false, false, false, false, false, false, false, false, false, false, false, false, false] (by kernel_rfl) rfl rfl ⟨((HB.out.cell (World.block_lt_of_cell? w _ hw259_0)).trans hw259_0), ((HB.out.cell (World.block_lt_of_cell? w _ hw259_1)).trans hw259_1), ((HB.out.cell (World.block_lt_of_cell? w _ hw260_0)).trans hw260_0), ((HB.out.cell (World.block_lt_of_cell? w _ hw260_1)).trans hw260_1)⟩ (fun hHeld => ?_); refine with_tabW profile_Fit.tab9 profile_Fit.bits9 (fun HT_ HW_ => ?_)
              generalize w51.drew = w52 at BK253 HB hx259_0 hx259_1 hx260_0 hx260_1 hHeld ⊢
              refine plan_ [(0, 27), (1, 28), (2, 29), (3, 30), (4, 31), (5, 32), (6, 33), (7, 34), (8, 35), (9, 36), (10, 37), (11, 38), (12, 39), (13, 40), (15, 42), (16, 43), (17, 44), (18, 45), (21, 48), (22, 49)] ?_
              iterate 20 (refine planP_ (v := ?_) (a' := ?_) rfl rfl (any_of HT_.out (by kernel_rfl)) (fun _ _ _ h => h) (Or.inl ⟨by rfl, ?_⟩) ?_ ?_; rotate_left; (intro w'; go_simp; with_reducible rfl); rotate_left; (simp only [Act.put, List.setIfInBounds_toArray, List.set_cons_zero, List.set_cons_succ, i64_w, i32_w]; rfl))
              refine planEnd_ ?_
              refine plan_ [(14, 41), (19, 46)] ?_
              iterate 2 (refine planT_ (v := ?_) (a' := ?_) rfl rfl (take_ofW HT_.out HW_.out (by kernel_rfl)) (fun _ _ _ h => h) (Or.inl ⟨by rfl, ?_⟩) hHeld ?_ ?_; rotate_left; (rintro w' ⟨s0, s1, s2, s3⟩; go_simp; with_reducible rfl); rotate_left; (simp only [Act.put, List.setIfInBounds_toArray, List.set_cons_zero, List.set_cons_succ, i64_w, i32_w]; rfl))
              refine planEnd_ ?_
              refine plan_ [(20, 47), (23, 50), (24, 51), (25, 52)] ?_
              iterate 4 (refine planP_ (v := ?_) (a' := ?_) rfl rfl (any_of HT_.out (by kernel_rfl)) (fun _ _ _ h => h) (Or.inl ⟨by rfl, ?_⟩) ?_ ?_; rotate_left; (intro w'; go_simp; with_reducible rfl); rotate_left; (simp only [Act.put, List.setIfInBounds_toArray, List.set_cons_zero, List.set_cons_succ, i64_w, i32_w]; rfl))
              refine planEnd_ ?_
              refine done_ (done_of HT_.out (by kernel_rfl)) ?_
              have p261 : 0 ≤ (x13_1 : Int) := oda
              have q261 : x13_1 < (l0.length : Int) := oda
              obtain ⟨ad261, e261, hx261_0, hx261_1⟩ := at_T40 HR0.out x13_1 p261 q261
              obtain rfl : ad252 = ad261 := (by injection e261)
              replace hx261_0 := (HB.out.cell (World.block_lt_of_cell? w _ hx261_0)).trans hx261_0
              replace hx261_1 := (HB.out.cell (World.block_lt_of_cell? w _ hx261_1)).trans hx261_1
              replace p261 := eq_true p261
              replace q261 := eq_true q261
              try go_wp2
              go_ret2
              exact ⟨by first | rfl | (simp [errW_none, errW_some] <;> rfl) | (simp only [← hji43, ← hji47]; first | rfl | (simp [errW_none, errW_some] <;> rfl)) | (simp [*, errW_none, errW_some] <;> rfl), by repeat (first | (with_reducible first | exact HB.out | apply below_alloc | apply pw_below_drewN | apply below_drew1 | refine below_set ?_ GE253.out) | exact HB.out)⟩
             ·rw [if_neg c48] at H
              have c48b0 : decide ((ji47) ≤ (wrap64 (((rd_T40 l0 (ji43)).f0) - ((rd_T40 l0 x13_1).f0)))) = false := decide_eq_false c48
              clear c48
              have H' := Aside0.mk H
              clear H
              have p252 : 0 ≤ (x13_1 : Int) := oda
              have q252 : x13_1 < (l0.length : Int) := oda
              obtain ⟨ad252, e252, hx252_0, hx252_1⟩ := at_T40 HR0.out x13_1 p252 q252
              cases e252
              replace hx252_0 := (HB.out.cell (World.block_lt_of_cell? w _ hx252_0)).trans hx252_0
              replace hx252_1 := (HB.out.cell (World.block_lt_of_cell? w _ hx252_1)).trans hx252_1
              replace p252 := eq_true p252
              replace q252 := eq_true q252
              try go_wp2_with (first | ((with_reducible refine gate_dst (N := 10) rfl ?_); refine box_event ?hg (N := 10) ?hd (cs := #[.int .i64 0, .int .i64 0]) (t := 40) ?hr ?_; (case hd => rfl); (case hg => rfl); (case hr => first | (go_simp; done) | (go_simp; rfl)); intro gb253 hg w53 hbox hb; have n0_ := Aside0.mk (below_step (mB HB.out) hb); have n1_ := Aside0.mk (hbox); have n2_ := Aside0.mk ((by rw [hg]; exact (below_size (mB HB.out)) : w.heap.size ≤ gb253)); have n3_ := Aside0.mk ((by rw [hg]; exact (below_size (mB HB.out)) : w.heap.size ≤ gb253)); clear HB; have HB := n0_; have BK253 := n1_; have GW253 := n2_; have GE253 := n3_; clear n0_ n1_ n2_ n3_; clear hb hbox hg; have hcz54_0 : w53.cell? ⟨gb253, 0, none⟩ = some (.int .i64 0) := (blk_cell BK253.out 0).trans rfl; have hcz54_1 : w53.cell? ⟨gb253, 1, none⟩ = some (.int .i64 0) := (blk_cell BK253.out 1).trans rfl; have hfz54_0 := blk_frozen BK253.out 0; have hfz54_1 := blk_frozen BK253.out 1))
              have n0_ : Aside0 (((w53.setCell ⟨gb253, 0, none⟩ (.int .i64 ((rd_T40 l0 x13_1).f0))).setCell ⟨gb253, 1, none⟩ (.int .i64 ((rd_T40 l0 x13_1).f1))).heap[gb253]? = some (.cells #[.int .i64 ((rd_T40 l0 x13_1).f0), .int .i64 ((rd_T40 l0 x13_1).f1)] 40 (0, 0))) := ⟨by (with_reducible repeat (first | refine blk_drewN ?_ _ | refine blk_drew ?_ | refine blk_alloc ?_ _)); refine blk_put (cs := #[.int .i64 ((rd_T40 l0 x13_1).f0), .int .i64 0]) ?_ 1 _ rfl; (with_reducible repeat (first | refine blk_drewN ?_ _ | refine blk_drew ?_ | refine blk_alloc ?_ _)); refine blk_put (cs := #[.int .i64 0, .int .i64 0]) ?_ 0 _ rfl; (with_reducible repeat (first | refine blk_drewN ?_ _ | refine blk_drew ?_ | refine blk_alloc ?_ _)); exact BK253.out⟩
              have n1_ : Aside0 (Below w.heap.size w ((w53.setCell ⟨gb253, 0, none⟩ (.int .i64 ((rd_T40 l0 x13_1).f0))).setCell ⟨gb253, 1, none⟩ (.int .i64 ((rd_T40 l0 x13_1).f1)))) := ⟨mBs HB.out⟩
              (try clear BK253); (try clear HB)
              generalize ((w53.setCell ⟨gb253, 0, none⟩ (.int .i64 ((rd_T40 l0 x13_1).f0))).setCell ⟨gb253, 1, none⟩ (.int .i64 ((rd_T40 l0 x13_1).f1))) = w55 at n0_ n1_ ⊢
              have BK253 := n0_
              have HB := n1_
              clear n0_; clear n1_
              have n0_ := Aside0.mk (blk_drew BK253.out)
              have n1_ := Aside0.mk (below_drew1 HB.out)
              clear BK253; clear HB
              have BK253 := n0_
              have HB := n1_
              clear n0_; clear n1_
              have p259 : 0 ≤ ((ji43) : Int) := oda
              have q259 : (ji43) < (l0.length : Int) := oda
              obtain ⟨ad259, e259, hx259_0, hx259_1⟩ := at_T40 HR0.out (ji43) p259 q259
              have hw259_1 := hx259_1
              have hw259_0 := hx259_0
              obtain rfl : ad252 = ad259 := (by injection e259)
              replace hx259_0 := (HB.out.cell (World.block_lt_of_cell? w _ hx259_0)).trans hx259_0
              replace hx259_1 := (HB.out.cell (World.block_lt_of_cell? w _ hx259_1)).trans hx259_1
              replace p259 := eq_true p259
              replace q259 := eq_true q259
              have p260 : 0 ≤ (x13_1 : Int) := oda
              have q260 : x13_1 < (l0.length : Int) := oda
              obtain ⟨ad260, e260, hx260_0, hx260_1⟩ := at_T40 HR0.out x13_1 p260 q260
              have hw260_1 := hx260_1
              have hw260_0 := hx260_0
              obtain rfl : ad252 = ad260 := (by injection e260)
              replace hx260_0 := (HB.out.cell (World.block_lt_of_cell? w _ hx260_0)).trans hx260_0
              replace hx260_1 := (HB.out.cell (World.block_lt_of_cell? w _ hx260_1)).trans hx260_1
              replace p260 := eq_true p260
              replace q260 := eq_true q260
              refine start_ (n := 26) (S := fun w' => w'.cell? (ad252.add (((ji43)).toNat * 2)) = some (.int .i64 ((rd_T40 l0 (ji43)).f0)) ∧ w'.cell? ⟨(ad252.add (((ji43)).toNat * 2)).block, (ad252.add (((ji43)).toNat * 2)).off + 1, none⟩ = some (.int .i64 ((rd_T40 l0 (ji43)).f1)) ∧ w'.cell? (ad252.add ((x13_1).toNat * 2)) = some (.int .i64 ((rd_T40 l0 x13_1).f0)) ∧ w'.cell? ⟨(ad252.add ((x13_1).toNat * 2)).block, (ad252.add ((x13_1).toNat * 2)).off + 1, none⟩ = some (.int .i64 ((rd_T40 l0 x13_1).f1))) (ds := []) #[false, false, false, false, false, false, false, false, false, false, false, false, false, false, false, false, false, false, false, false, false, false, false, false, false, false] (by kernel_rfl) rfl rfl ⟨((HB.out.cell (World.block_lt_of_cell? w _ hw259_0)).trans hw259_0), ((HB.out.cell (World.block_lt_of_cell? w _ hw259_1)).trans hw259_1), ((HB.out.cell (World.block_lt_of_cell? w _ hw260_0)).trans hw260_0), ((HB.out.cell (World.block_lt_of_cell? w _ hw260_1)).trans hw260_1)⟩ (fun hHeld => ?_); refine with_tabW profile_Fit.tab9 profile_Fit.bits9 (fun HT_ HW_ => ?_)
              generalize w55.drew = w56 at BK253 HB hx259_0 hx259_1 hx260_0 hx260_1 hHeld ⊢
              refine plan_ [(0, 27), (1, 28), (2, 29), (3, 30), (4, 31), (5, 32), (6, 33), (7, 34), (8, 35), (9, 36), (10, 37), (11, 38), (12, 39), (13, 40), (15, 42), (16, 43), (17, 44), (18, 45), (21, 48), (22, 49)] ?_
              iterate 20 (refine planP_ (v := ?_) (a' := ?_) rfl rfl (any_of HT_.out (by kernel_rfl)) (fun _ _ _ h => h) (Or.inl ⟨by rfl, ?_⟩) ?_ ?_; rotate_left; (intro w'; go_simp; with_reducible rfl); rotate_left; (simp only [Act.put, List.setIfInBounds_toArray, List.set_cons_zero, List.set_cons_succ, i64_w, i32_w]; rfl))
              refine planEnd_ ?_
              refine plan_ [(14, 41), (19, 46)] ?_
              iterate 2 (refine planT_ (v := ?_) (a' := ?_) rfl rfl (take_ofW HT_.out HW_.out (by kernel_rfl)) (fun _ _ _ h => h) (Or.inl ⟨by rfl, ?_⟩) hHeld ?_ ?_; rotate_left; (rintro w' ⟨s0, s1, s2, s3⟩; go_simp; with_reducible rfl); rotate_left; (simp only [Act.put, List.setIfInBounds_toArray, List.set_cons_zero, List.set_cons_succ, i64_w, i32_w]; rfl))
              refine planEnd_ ?_
              refine plan_ [(20, 47), (23, 50), (24, 51), (25, 52)] ?_
              iterate 4 (refine planP_ (v := ?_) (a' := ?_) rfl rfl (any_of HT_.out (by kernel_rfl)) (fun _ _ _ h => h) (Or.inl ⟨by rfl, ?_⟩) ?_ ?_; rotate_left; (intro w'; go_simp; with_reducible rfl); rotate_left; (simp only [Act.put, List.setIfInBounds_toArray, List.set_cons_zero, List.set_cons_succ, i64_w, i32_w]; rfl))
              refine planEnd_ ?_
              refine done_ (done_of HT_.out (by kernel_rfl)) ?_
              try go_wp2
              go_roundg k1
              case measure => have := HK1.out; omega
              case rel => exact ⟨(x13_1), (ji43), ez, (by first | rfl | (simp; done) | (simp only [← hji43] <;> (first | rfl | simp)) | (simp [*]; done)), H', ⟨by have := HK1.out; omega⟩, ⟨mBs HB.out⟩⟩
            · exact absurd (of_decide_eq_true c4b0) c46
           ·rw [if_neg c45] at H
            exact absurd H (by simp)
          ·rw [if_neg c44] at H
           exact absurd H (by simp)
        · exact absurd (of_decide_eq_true c5b0) c36
       ·rw [if_neg c35] at H
        have c35b0 : decide (x8_1 < 0) = false := decide_eq_false c35
        clear c35
        by_cases c61 : x8_1 ≥ 0
        ·rw [if_pos c61] at H
         have c61b0 : decide (0 ≤ x8_1) = true := decide_eq_true c61
         clear c61
         by_cases c62 : (wrap64 (x13_1 + 1)) = (l0.length : Int)
         ·rw [if_pos c62] at H
          have c62b0 : ((wrap64 (x13_1 + 1)) == (l0.length : Int)) = true := beq_iff_eq.mpr c62
          have c62b1 : ((wrap64 (x13_1 + 1)) != (l0.length : Int)) = false := bne_eq_false_iff_eq.mpr c62
          clear c62
          by_cases c63 : 0 ≤ x8_1
          ·rw [if_pos c63] at H
           have c63b0 : decide (0 ≤ x8_1) = true := decide_eq_true c63
           clear c63
           by_cases c64 : x8_1 < (l0.length : Int)
           ·rw [if_pos c64] at H
            have c64b0 : decide (x8_1 < (l0.length : Int)) = true := decide_eq_true c64
            clear c64
            simp only [Option.some.injEq, Prod.mk.injEq] at H
            obtain ⟨rfl, rfl⟩ := H
            have p252 : 0 ≤ (x13_1 : Int) := oda
            have q252 : x13_1 < (l0.length : Int) := oda
            obtain ⟨ad252, e252, hx252_0, hx252_1⟩ := at_T40 HR0.out x13_1 p252 q252
            cases e252
            replace hx252_0 := (HB.out.cell (World.block_lt_of_cell? w _ hx252_0)).trans hx252_0
            replace hx252_1 := (HB.out.cell (World.block_lt_of_cell? w _ hx252_1)).trans hx252_1
            replace p252 := eq_true p252
            replace q252 := eq_true q252
            try go_wp2_with (first | ((with_reducible refine gate_dst (N := 10) rfl ?_); refine box_event ?hg (N := 10) ?hd (cs := #[.int .i64 0, .int .i64 0]) (t := 40) ?hr ?_; (case hd => rfl); (case hg => rfl); (case hr => first | (go_simp; done) | (go_simp; rfl)); intro gb253 hg w65 hbox hb; have n0_ := Aside0.mk (below_step (mB HB.out) hb); have n1_ := Aside0.mk (hbox); have n2_ := Aside0.mk ((by rw [hg]; exact (below_size (mB HB.out)) : w.heap.size ≤ gb253)); have n3_ := Aside0.mk ((by rw [hg]; exact (below_size (mB HB.out)) : w.heap.size ≤ gb253)); clear HB; have HB := n0_; have BK253 := n1_; have GW253 := n2_; have GE253 := n3_; clear n0_ n1_ n2_ n3_; clear hb hbox hg; have hcz66_0 : w65.cell? ⟨gb253, 0, none⟩ = some (.int .i64 0) := (blk_cell BK253.out 0).trans rfl; have hcz66_1 : w65.cell? ⟨gb253, 1, none⟩ = some (.int .i64 0) := (blk_cell BK253.out 1).trans rfl; have hfz66_0 := blk_frozen BK253.out 0; have hfz66_1 := blk_frozen BK253.out 1))
            have n0_ : Aside0 (((w65.setCell ⟨gb253, 0, none⟩ (.int .i64 ((rd_T40 l0 x13_1).f0))).setCell ⟨gb253, 1, none⟩ (.int .i64 ((rd_T40 l0 x13_1).f1))).heap[gb253]? = some (.cells #[.int .i64 ((rd_T40 l0 x13_1).f0), .int .i64 ((rd_T40 l0 x13_1).f1)] 40 (0, 0))) := ⟨by (with_reducible repeat (first | refine blk_drewN ?_ _ | refine blk_drew ?_ | refine blk_alloc ?_ _)); refine blk_put (cs := #[.int .i64 ((rd_T40 l0 x13_1).f0), .int .i64 0]) ?_ 1 _ rfl; (with_reducible repeat (first | refine blk_drewN ?_ _ | refine blk_drew ?_ | refine blk_alloc ?_ _)); refine blk_put (cs := #[.int .i64 0, .int .i64 0]) ?_ 0 _ rfl; (with_reducible repeat (first | refine blk_drewN ?_ _ | refine blk_drew ?_ | refine blk_alloc ?_ _)); exact BK253.out⟩
            have n1_ : Aside0 (Below w.heap.size w ((w65.setCell ⟨gb253, 0, none⟩ (.int .i64 ((rd_T40 l0 x13_1).f0))).setCell ⟨gb253, 1, none⟩ (.int .i64 ((rd_T40 l0 x13_1).f1)))) := ⟨mBs HB.out⟩
            (try clear BK253); (try clear HB)
            generalize ((w65.setCell ⟨gb253, 0, none⟩ (.int .i64 ((rd_T40 l0 x13_1).f0))).setCell ⟨gb253, 1, none⟩ (.int .i64 ((rd_T40 l0 x13_1).f1))) = w67 at n0_ n1_ ⊢
            have BK253 := n0_
            have HB := n1_
            clear n0_; clear n1_
            have n0_ := Aside0.mk (blk_drew BK253.out)
            have n1_ := Aside0.mk (below_drew1 HB.out)
            clear BK253; clear HB
            have BK253 := n0_
            have HB := n1_
            clear n0_; clear n1_
            refine start_ (n := 26) (S := fun w' => True) (ds := []) #[false, false, false, false, false, false, false, false, false, false, false, false, false, false, false, false, false, false, false, false, false, false, false, false, false, false] (by kernel_rfl) rfl rfl trivial (fun hHeld => ?_); refine with_tabW profile_Fit.tab9 profile_Fit.bits9 (fun HT_ HW_ => ?_)
            generalize w67.drew = w68 at BK253 HB hHeld ⊢
            refine plan_ [(0, 27), (1, 28), (2, 29), (3, 30), (4, 31), (5, 32), (6, 33), (7, 34), (8, 35)] ?_
            iterate 9 (refine planP_ (v := ?_) (a' := ?_) rfl rfl (any_of HT_.out (by kernel_rfl)) (fun _ _ _ h => h) (Or.inl ⟨by rfl, ?_⟩) ?_ ?_; rotate_left; (intro w'; go_simp; with_reducible rfl); rotate_left; (simp only [Act.put, List.setIfInBounds_toArray, List.set_cons_zero, List.set_cons_succ, i64_w, i32_w]; rfl))
            refine planEnd_ ?_
            refine plan_ [(9, 36), (10, 37), (11, 38), (12, 39), (13, 40), (14, 41), (15, 42), (16, 43), (17, 44), (18, 45), (19, 46), (20, 47), (21, 48), (22, 49), (23, 50)] ?_
            iterate 15 (refine planP_ (v := undef) (a' := ?_) rfl rfl (any_of HT_.out (by kernel_rfl)) (fun _ _ _ h => h) (Or.inr ⟨by rfl, rfl⟩) ?_ ?_; rotate_left; (simp only [Act.put, List.setIfInBounds_toArray, List.set_cons_zero, List.set_cons_succ, i64_w, i32_w]; rfl))
            refine planEnd_ ?_
            refine plan_ [(24, 51), (25, 52)] ?_
            iterate 2 (refine planP_ (v := ?_) (a' := ?_) rfl rfl (any_of HT_.out (by kernel_rfl)) (fun _ _ _ h => h) (Or.inl ⟨by rfl, ?_⟩) ?_ ?_; rotate_left; (intro w'; go_simp; with_reducible rfl); rotate_left; (simp only [Act.put, List.setIfInBounds_toArray, List.set_cons_zero, List.set_cons_succ, i64_w, i32_w]; rfl))
            refine planEnd_ ?_
            refine done_ (done_of HT_.out (by kernel_rfl)) ?_
            have p262 : 0 ≤ (x8_1 : Int) := oda
            have q262 : x8_1 < (l0.length : Int) := oda
            obtain ⟨ad262, e262, hx262_0, hx262_1⟩ := at_T40 HR0.out x8_1 p262 q262
            obtain rfl : ad252 = ad262 := (by injection e262)
            replace hx262_0 := (HB.out.cell (World.block_lt_of_cell? w _ hx262_0)).trans hx262_0
            replace hx262_1 := (HB.out.cell (World.block_lt_of_cell? w _ hx262_1)).trans hx262_1
            replace p262 := eq_true p262
            replace q262 := eq_true q262
            try go_wp2
            go_ret2
            exact ⟨by first | rfl | (simp [errW_none, errW_some] <;> rfl) | (simp [*, errW_none, errW_some] <;> rfl), by repeat (first | (with_reducible first | exact HB.out | apply below_alloc | apply pw_below_drewN | apply below_drew1 | refine below_set ?_ GE253.out) | exact HB.out)⟩
           ·rw [if_neg c64] at H
            exact absurd H (by simp)
          · exact absurd (of_decide_eq_true c61b0) c63
         ·rw [if_neg c62] at H
          have c62b0 : ((wrap64 (x13_1 + 1)) == (l0.length : Int)) = false := beq_eq_false_iff_ne.mpr c62
          have c62b1 : ((wrap64 (x13_1 + 1)) != (l0.length : Int)) = true := bne_iff_ne.mpr c62
          obtain ⟨ji69, hji69⟩ : ∃ j_ : Int, (wrap64 (x13_1 + 1)) = j_ := ⟨_, rfl⟩
          replace H : (if 0 ≤ (ji69) then (if (ji69) < (l0.length : Int) then (if 0 ≤ x8_1 then (if x8_1 < (l0.length : Int) then (if (wrap64 (((rd_T40 l0 (ji69)).f0) - ((rd_T40 l0 x8_1).f0))) ≥ (mx a2 1) then (some ((rd_T40 l0 x8_1).f0, true)) else (profile_Fit.l0 k1 l0 a1 a2 x8_1 l0 (l0.length : Int) ji69)) else (none)) else (none)) else (none)) else (none)) = some (r1, r2) := by first | (rw [hji69] at H; exact H) | (simp only [hji69] at H ⊢; exact H)
          (try rw [hji69] at c62b0)
          (try rw [hji69] at c62b1)
          have hji69w : (IntKind.i64.wrap (x13_1 + 1)) = ji69 := (i64_w _).trans hji69
          by_cases c70 : 0 ≤ (ji69)
          ·rw [if_pos c70] at H
           have c70b0 : decide (0 ≤ (ji69)) = true := decide_eq_true c70
           clear c70
           by_cases c71 : (ji69) < (l0.length : Int)
           ·rw [if_pos c71] at H
            have c71b0 : decide ((ji69) < (l0.length : Int)) = true := decide_eq_true c71
            clear c71
            by_cases c72 : 0 ≤ x8_1
            ·rw [if_pos c72] at H
             have c72b0 : decide (0 ≤ x8_1) = true := decide_eq_true c72
             clear c72
             by_cases c73 : x8_1 < (l0.length : Int)
             ·rw [if_pos c73] at H
              have c73b0 : decide (x8_1 < (l0.length : Int)) = true := decide_eq_true c73
              clear c73
              obtain ⟨ji74, hji74⟩ : ∃ j_ : Int, (mx a2 1) = j_ := ⟨_, rfl⟩
              replace H : (if (wrap64 (((rd_T40 l0 (ji69)).f0) - ((rd_T40 l0 x8_1).f0))) ≥ (ji74) then (some ((rd_T40 l0 x8_1).f0, true)) else (profile_Fit.l0 k1 l0 a1 a2 x8_1 l0 (l0.length : Int) ji69)) = some (r1, r2) := by first | (rw [hji74] at H; exact H) | (simp only [hji74] at H ⊢; exact H)
              have hji74_ : (if a2 < 1 then 1 else a2) = ji74 := hji74
              by_cases c75 : (wrap64 (((rd_T40 l0 (ji69)).f0) - ((rd_T40 l0 x8_1).f0))) ≥ (ji74)
              ·rw [if_pos c75] at H
               have c75b0 : decide ((ji74) ≤ (wrap64 (((rd_T40 l0 (ji69)).f0) - ((rd_T40 l0 x8_1).f0)))) = true := decide_eq_true c75
               clear c75
               simp only [Option.some.injEq, Prod.mk.injEq] at H
               obtain ⟨rfl, rfl⟩ := H
               have p252 : 0 ≤ (x13_1 : Int) := oda
               have q252 : x13_1 < (l0.length : Int) := oda
               obtain ⟨ad252, e252, hx252_0, hx252_1⟩ := at_T40 HR0.out x13_1 p252 q252
               cases e252
               replace hx252_0 := (HB.out.cell (World.block_lt_of_cell? w _ hx252_0)).trans hx252_0
               replace hx252_1 := (HB.out.cell (World.block_lt_of_cell? w _ hx252_1)).trans hx252_1
               replace p252 := eq_true p252
               replace q252 := eq_true q252
               try go_wp2_with (first | ((with_reducible refine gate_dst (N := 10) rfl ?_); refine box_event ?hg (N := 10) ?hd (cs := #[.int .i64 0, .int .i64 0]) (t := 40) ?hr ?_; (case hd => rfl); (case hg => rfl); (case hr => first | (go_simp; done) | (go_simp; rfl)); intro gb253 hg w76 hbox hb; have n0_ := Aside0.mk (below_step (mB HB.out) hb); have n1_ := Aside0.mk (hbox); have n2_ := Aside0.mk ((by rw [hg]; exact (below_size (mB HB.out)) : w.heap.size ≤ gb253)); have n3_ := Aside0.mk ((by rw [hg]; exact (below_size (mB HB.out)) : w.heap.size ≤ gb253)); clear HB; have HB := n0_; have BK253 := n1_; have GW253 := n2_; have GE253 := n3_; clear n0_ n1_ n2_ n3_; clear hb hbox hg; have hcz77_0 : w76.cell? ⟨gb253, 0, none⟩ = some (.int .i64 0) := (blk_cell BK253.out 0).trans rfl; have hcz77_1 : w76.cell? ⟨gb253, 1, none⟩ = some (.int .i64 0) := (blk_cell BK253.out 1).trans rfl; have hfz77_0 := blk_frozen BK253.out 0; have hfz77_1 := blk_frozen BK253.out 1))
               have n0_ : Aside0 (((w76.setCell ⟨gb253, 0, none⟩ (.int .i64 ((rd_T40 l0 x13_1).f0))).setCell ⟨gb253, 1, none⟩ (.int .i64 ((rd_T40 l0 x13_1).f1))).heap[gb253]? = some (.cells #[.int .i64 ((rd_T40 l0 x13_1).f0), .int .i64 ((rd_T40 l0 x13_1).f1)] 40 (0, 0))) := ⟨by (with_reducible repeat (first | refine blk_drewN ?_ _ | refine blk_drew ?_ | refine blk_alloc ?_ _)); refine blk_put (cs := #[.int .i64 ((rd_T40 l0 x13_1).f0), .int .i64 0]) ?_ 1 _ rfl; (with_reducible repeat (first | refine blk_drewN ?_ _ | refine blk_drew ?_ | refine blk_alloc ?_ _)); refine blk_put (cs := #[.int .i64 0, .int .i64 0]) ?_ 0 _ rfl; (with_reducible repeat (first | refine blk_drewN ?_ _ | refine blk_drew ?_ | refine blk_alloc ?_ _)); exact BK253.out⟩
               have n1_ : Aside0 (Below w.heap.size w ((w76.setCell ⟨gb253, 0, none⟩ (.int .i64 ((rd_T40 l0 x13_1).f0))).setCell ⟨gb253, 1, none⟩ (.int .i64 ((rd_T40 l0 x13_1).f1)))) := ⟨mBs HB.out⟩
               (try clear BK253); (try clear HB)
               generalize ((w76.setCell ⟨gb253, 0, none⟩ (.int .i64 ((rd_T40 l0 x13_1).f0))).setCell ⟨gb253, 1, none⟩ (.int .i64 ((rd_T40 l0 x13_1).f1))) = w78 at n0_ n1_ ⊢
               have BK253 := n0_
               have HB := n1_
               clear n0_; clear n1_
               have n0_ := Aside0.mk (blk_drew BK253.out)
               have n1_ := Aside0.mk (below_drew1 HB.out)
               clear BK253; clear HB
               have BK253 := n0_
               have HB := n1_
               clear n0_; clear n1_
               have p263 : 0 ≤ ((ji69) : Int) := oda
               have q263 : (ji69) < (l0.length : Int) := oda
               obtain ⟨ad263, e263, hx263_0, hx263_1⟩ := at_T40 HR0.out (ji69) p263 q263
               have hw263_1 := hx263_1
               have hw263_0 := hx263_0
               obtain rfl : ad252 = ad263 := (by injection e263)
               replace hx263_0 := (HB.out.cell (World.block_lt_of_cell? w _ hx263_0)).trans hx263_0
               replace hx263_1 := (HB.out.cell (World.block_lt_of_cell? w _ hx263_1)).trans hx263_1
               replace p263 := eq_true p263
               replace q263 := eq_true q263
               have p264 : 0 ≤ (x8_1 : Int) := oda
               have q264 : x8_1 < (l0.length : Int) := oda
               obtain ⟨ad264, e264, hx264_0, hx264_1⟩ := at_T40 HR0.out x8_1 p264 q264
               have hw264_1 := hx264_1
               have hw264_0 := hx264_0
               obtain rfl : ad252 = ad264 := (by injection e264)
               replace hx264_0 := (HB.out.cell (World.block_lt_of_cell? w _ hx264_0)).trans hx264_0
               replace hx264_1 := (HB.out.cell (World.block_lt_of_cell? w _ hx264_1)).trans hx264_1
               replace p264 := eq_true p264
               replace q264 := eq_true q264
               refine start_ (n := 26) (S := fun w' => w'.cell? (ad252.add (((ji69)).toNat * 2)) = some (.int .i64 ((rd_T40 l0 (ji69)).f0)) ∧ w'.cell? ⟨(ad252.add (((ji69)).toNat * 2)).block, (ad252.add (((ji69)).toNat * 2)).off + 1, none⟩ = some (.int .i64 ((rd_T40 l0 (ji69)).f1)) ∧ w'.cell? (ad252.add ((x8_1).toNat * 2)) = some (.int .i64 ((rd_T40 l0 x8_1).f0)) ∧ w'.cell? ⟨(ad252.add ((x8_1).toNat * 2)).block, (ad252.add ((x8_1).toNat * 2)).off + 1, none⟩ = some (.int .i64 ((rd_T40 l0 x8_1).f1))) (ds := []) #[false, false, false, false, false, false, false, false, false, false, false, false, false, false, false, false, false, false, false, false, false, false, false, false, false, false] (by kernel_rfl) rfl rfl ⟨((HB.out.cell (World.block_lt_of_cell? w _ hw263_0)).trans hw263_0), ((HB.out.cell (World.block_lt_of_cell? w _ hw263_1)).trans hw263_1), ((HB.out.cell (World.block_lt_of_cell? w _ hw264_0)).trans hw264_0), ((HB.out.cell (World.block_lt_of_cell? w _ hw264_1)).trans hw264_1)⟩ (fun hHeld => ?_); refine with_tabW profile_Fit.tab9 profile_Fit.bits9 (fun HT_ HW_ => ?_)
               generalize w78.drew = w79 at BK253 HB hx263_0 hx263_1 hx264_0 hx264_1 hHeld ⊢
               refine plan_ [(0, 27), (1, 28), (2, 29), (3, 30), (4, 31), (5, 32), (6, 33), (7, 34), (8, 35), (9, 36), (10, 37), (11, 38), (12, 39), (13, 40), (15, 42), (16, 43), (17, 44), (18, 45), (21, 48), (22, 49)] ?_
               iterate 20 (refine planP_ (v := ?_) (a' := ?_) rfl rfl (any_of HT_.out (by kernel_rfl)) (fun _ _ _ h => h) (Or.inl ⟨by rfl, ?_⟩) ?_ ?_; rotate_left; (intro w'; go_simp; with_reducible rfl); rotate_left; (simp only [Act.put, List.setIfInBounds_toArray, List.set_cons_zero, List.set_cons_succ, i64_w, i32_w]; rfl))
               refine planEnd_ ?_
               refine plan_ [(14, 41), (19, 46)] ?_
               iterate 2 (refine planT_ (v := ?_) (a' := ?_) rfl rfl (take_ofW HT_.out HW_.out (by kernel_rfl)) (fun _ _ _ h => h) (Or.inl ⟨by rfl, ?_⟩) hHeld ?_ ?_; rotate_left; (rintro w' ⟨s0, s1, s2, s3⟩; go_simp; with_reducible rfl); rotate_left; (simp only [Act.put, List.setIfInBounds_toArray, List.set_cons_zero, List.set_cons_succ, i64_w, i32_w]; rfl))
               refine planEnd_ ?_
               refine plan_ [(20, 47), (23, 50), (24, 51), (25, 52)] ?_
               iterate 4 (refine planP_ (v := ?_) (a' := ?_) rfl rfl (any_of HT_.out (by kernel_rfl)) (fun _ _ _ h => h) (Or.inl ⟨by rfl, ?_⟩) ?_ ?_; rotate_left; (intro w'; go_simp; with_reducible rfl); rotate_left; (simp only [Act.put, List.setIfInBounds_toArray, List.set_cons_zero, List.set_cons_succ, i64_w, i32_w]; rfl))
               refine planEnd_ ?_
               refine done_ (done_of HT_.out (by kernel_rfl)) ?_
               have p265 : 0 ≤ (x8_1 : Int) := oda
               have q265 : x8_1 < (l0.length : Int) := oda
               obtain ⟨ad265, e265, hx265_0, hx265_1⟩ := at_T40 HR0.out x8_1 p265 q265
               obtain rfl : ad252 = ad265 := (by injection e265)
               replace hx265_0 := (HB.out.cell (World.block_lt_of_cell? w _ hx265_0)).trans hx265_0
               replace hx265_1 := (HB.out.cell (World.block_lt_of_cell? w _ hx265_1)).trans hx265_1
               replace p265 := eq_true p265
               replace q265 := eq_true q265
               try go_wp2
               go_ret2
               exact ⟨by first | rfl | (simp [errW_none, errW_some] <;> rfl) | (simp only [← hji69, ← hji74]; first | rfl | (simp [errW_none, errW_some] <;> rfl)) | (simp [*, errW_none, errW_some] <;> rfl), by repeat (first | (with_reducible first | exact HB.out | apply below_alloc | apply pw_below_drewN | apply below_drew1 | refine below_set ?_ GE253.out) | exact HB.out)⟩
              ·rw [if_neg c75] at H
               have c75b0 : decide ((ji74) ≤ (wrap64 (((rd_T40 l0 (ji69)).f0) - ((rd_T40 l0 x8_1).f0)))) = false := decide_eq_false c75
               clear c75
               have H' := Aside0.mk H
               clear H
               have p252 : 0 ≤ (x13_1 : Int) := oda
               have q252 : x13_1 < (l0.length : Int) := oda
               obtain ⟨ad252, e252, hx252_0, hx252_1⟩ := at_T40 HR0.out x13_1 p252 q252
               cases e252
               replace hx252_0 := (HB.out.cell (World.block_lt_of_cell? w _ hx252_0)).trans hx252_0
               replace hx252_1 := (HB.out.cell (World.block_lt_of_cell? w _ hx252_1)).trans hx252_1
               replace p252 := eq_true p252
               replace q252 := eq_true q252
               try go_wp2_with (first | ((with_reducible refine gate_dst (N := 10) rfl ?_); refine box_event ?hg (N := 10) ?hd (cs := #[.int .i64 0, .int .i64 0]) (t := 40) ?hr ?_; (case hd => rfl); (case hg => rfl); (case hr => first | (go_simp; done) | (go_simp; rfl)); intro gb253 hg w80 hbox hb; have n0_ := Aside0.mk (below_step (mB HB.out) hb); have n1_ := Aside0.mk (hbox); have n2_ := Aside0.mk ((by rw [hg]; exact (below_size (mB HB.out)) : w.heap.size ≤ gb253)); have n3_ := Aside0.mk ((by rw [hg]; exact (below_size (mB HB.out)) : w.heap.size ≤ gb253)); clear HB; have HB := n0_; have BK253 := n1_; have GW253 := n2_; have GE253 := n3_; clear n0_ n1_ n2_ n3_; clear hb hbox hg; have hcz81_0 : w80.cell? ⟨gb253, 0, none⟩ = some (.int .i64 0) := (blk_cell BK253.out 0).trans rfl; have hcz81_1 : w80.cell? ⟨gb253, 1, none⟩ = some (.int .i64 0) := (blk_cell BK253.out 1).trans rfl; have hfz81_0 := blk_frozen BK253.out 0; have hfz81_1 := blk_frozen BK253.out 1))
               have n0_ : Aside0 (((w80.setCell ⟨gb253, 0, none⟩ (.int .i64 ((rd_T40 l0 x13_1).f0))).setCell ⟨gb253, 1, none⟩ (.int .i64 ((rd_T40 l0 x13_1).f1))).heap[gb253]? = some (.cells #[.int .i64 ((rd_T40 l0 x13_1).f0), .int .i64 ((rd_T40 l0 x13_1).f1)] 40 (0, 0))) := ⟨by (with_reducible repeat (first | refine blk_drewN ?_ _ | refine blk_drew ?_ | refine blk_alloc ?_ _)); refine blk_put (cs := #[.int .i64 ((rd_T40 l0 x13_1).f0), .int .i64 0]) ?_ 1 _ rfl; (with_reducible repeat (first | refine blk_drewN ?_ _ | refine blk_drew ?_ | refine blk_alloc ?_ _)); refine blk_put (cs := #[.int .i64 0, .int .i64 0]) ?_ 0 _ rfl; (with_reducible repeat (first | refine blk_drewN ?_ _ | refine blk_drew ?_ | refine blk_alloc ?_ _)); exact BK253.out⟩
               have n1_ : Aside0 (Below w.heap.size w ((w80.setCell ⟨gb253, 0, none⟩ (.int .i64 ((rd_T40 l0 x13_1).f0))).setCell ⟨gb253, 1, none⟩ (.int .i64 ((rd_T40 l0 x13_1).f1)))) := ⟨mBs HB.out⟩
               (try clear BK253); (try clear HB)
               generalize ((w80.setCell ⟨gb253, 0, none⟩ (.int .i64 ((rd_T40 l0 x13_1).f0))).setCell ⟨gb253, 1, none⟩ (.int .i64 ((rd_T40 l0 x13_1).f1))) = w82 at n0_ n1_ ⊢
               have BK253 := n0_
               have HB := n1_
               clear n0_; clear n1_
               have n0_ := Aside0.mk (blk_drew BK253.out)
               have n1_ := Aside0.mk (below_drew1 HB.out)
               clear BK253; clear HB
               have BK253 := n0_
               have HB := n1_
               clear n0_; clear n1_
               have p263 : 0 ≤ ((ji69) : Int) := oda
               have q263 : (ji69) < (l0.length : Int) := oda
               obtain ⟨ad263, e263, hx263_0, hx263_1⟩ := at_T40 HR0.out (ji69) p263 q263
               have hw263_1 := hx263_1
               have hw263_0 := hx263_0
               obtain rfl : ad252 = ad263 := (by injection e263)
               replace hx263_0 := (HB.out.cell (World.block_lt_of_cell? w _ hx263_0)).trans hx263_0
               replace hx263_1 := (HB.out.cell (World.block_lt_of_cell? w _ hx263_1)).trans hx263_1
               replace p263 := eq_true p263
               replace q263 := eq_true q263
               have p264 : 0 ≤ (x8_1 : Int) := oda
               have q264 : x8_1 < (l0.length : Int) := oda
               obtain ⟨ad264, e264, hx264_0, hx264_1⟩ := at_T40 HR0.out x8_1 p264 q264
               have hw264_1 := hx264_1
               have hw264_0 := hx264_0
               obtain rfl : ad252 = ad264 := (by injection e264)
               replace hx264_0 := (HB.out.cell (World.block_lt_of_cell? w _ hx264_0)).trans hx264_0
               replace hx264_1 := (HB.out.cell (World.block_lt_of_cell? w _ hx264_1)).trans hx264_1
               replace p264 := eq_true p264
               replace q264 := eq_true q264
               refine start_ (n := 26) (S := fun w' => w'.cell? (ad252.add (((ji69)).toNat * 2)) = some (.int .i64 ((rd_T40 l0 (ji69)).f0)) ∧ w'.cell? ⟨(ad252.add (((ji69)).toNat * 2)).block, (ad252.add (((ji69)).toNat * 2)).off + 1, none⟩ = some (.int .i64 ((rd_T40 l0 (ji69)).f1)) ∧ w'.cell? (ad252.add ((x8_1).toNat * 2)) = some (.int .i64 ((rd_T40 l0 x8_1).f0)) ∧ w'.cell? ⟨(ad252.add ((x8_1).toNat * 2)).block, (ad252.add ((x8_1).toNat * 2)).off + 1, none⟩ = some (.int .i64 ((rd_T40 l0 x8_1).f1))) (ds := []) #[false, false, false, false, false, false, false, false, false, false, false, false, false, false, false, false, false, false, false, false, false, false, false, false, false, false] (by kernel_rfl) rfl rfl ⟨((HB.out.cell (World.block_lt_of_cell? w _ hw263_0)).trans hw263_0), ((HB.out.cell (World.block_lt_of_cell? w _ hw263_1)).trans hw263_1), ((HB.out.cell (World.block_lt_of_cell? w _ hw264_0)).trans hw264_0), ((HB.out.cell (World.block_lt_of_cell? w _ hw264_1)).trans hw264_1)⟩ (fun hHeld => ?_); refine with_tabW profile_Fit.tab9 profile_Fit.bits9 (fun HT_ HW_ => ?_)
               generalize w82.drew = w83 at BK253 HB hx263_0 hx263_1 hx264_0 hx264_1 hHeld ⊢
               refine plan_ [(0, 27), (1, 28), (2, 29), (3, 30), (4, 31), (5, 32), (6, 33), (7, 34), (8, 35), (9, 36), (10, 37), (11, 38), (12, 39), (13, 40), (15, 42), (16, 43), (17, 44), (18, 45), (21, 48), (22, 49)] ?_
               iterate 20 (refine planP_ (v := ?_) (a' := ?_) rfl rfl (any_of HT_.out (by kernel_rfl)) (fun _ _ _ h => h) (Or.inl ⟨by rfl, ?_⟩) ?_ ?_; rotate_left; (intro w'; go_simp; with_reducible rfl); rotate_left; (simp only [Act.put, List.setIfInBounds_toArray, List.set_cons_zero, List.set_cons_succ, i64_w, i32_w]; rfl))
               refine planEnd_ ?_
               refine plan_ [(14, 41), (19, 46)] ?_
               iterate 2 (refine planT_ (v := ?_) (a' := ?_) rfl rfl (take_ofW HT_.out HW_.out (by kernel_rfl)) (fun _ _ _ h => h) (Or.inl ⟨by rfl, ?_⟩) hHeld ?_ ?_; rotate_left; (rintro w' ⟨s0, s1, s2, s3⟩; go_simp; with_reducible rfl); rotate_left; (simp only [Act.put, List.setIfInBounds_toArray, List.set_cons_zero, List.set_cons_succ, i64_w, i32_w]; rfl))
               refine planEnd_ ?_
               refine plan_ [(20, 47), (23, 50), (24, 51), (25, 52)] ?_
               iterate 4 (refine planP_ (v := ?_) (a' := ?_) rfl rfl (any_of HT_.out (by kernel_rfl)) (fun _ _ _ h => h) (Or.inl ⟨by rfl, ?_⟩) ?_ ?_; rotate_left; (intro w'; go_simp; with_reducible rfl); rotate_left; (simp only [Act.put, List.setIfInBounds_toArray, List.set_cons_zero, List.set_cons_succ, i64_w, i32_w]; rfl))
               refine planEnd_ ?_
               refine done_ (done_of HT_.out (by kernel_rfl)) ?_
               try go_wp2
               go_roundg k1
               case measure => have := HK1.out; omega
               case rel => exact ⟨(x8_1), (ji69), ez, (by first | rfl | (simp; done) | (simp only [← hji69] <;> (first | rfl | simp)) | (simp [*]; done)), H', ⟨by have := HK1.out; omega⟩, ⟨mBs HB.out⟩⟩
             ·rw [if_neg c73] at H
              exact absurd H (by simp)
            · exact absurd (of_decide_eq_true c61b0) c72
           ·rw [if_neg c71] at H
            exact absurd H (by simp)
          ·rw [if_neg c70] at H
           exact absurd H (by simp)
        ·rw [if_neg c61] at H
         have c61b0 : decide (0 ≤ x8_1) = false := decide_eq_false c61
         clear c61
         have H' := Aside0.mk H
         clear H
         have p252 : 0 ≤ (x13_1 : Int) := oda
         have q252 : x13_1 < (l0.length : Int) := oda
         obtain ⟨ad252, e252, hx252_0, hx252_1⟩ := at_T40 HR0.out x13_1 p252 q252
         cases e252
         replace hx252_0 := (HB.out.cell (World.block_lt_of_cell? w _ hx252_0)).trans hx252_0
         replace hx252_1 := (HB.out.cell (World.block_lt_of_cell? w _ hx252_1)).trans hx252_1
         replace p252 := eq_true p252
         replace q252 := eq_true q252
         try go_wp2_with (first | ((with_reducible refine gate_dst (N := 10) rfl ?_); refine box_event ?hg (N := 10) ?hd (cs := #[.int .i64 0, .int .i64 0]) (t := 40) ?hr ?_; (case hd => rfl); (case hg => rfl); (case hr => first | (go_simp; done) | (go_simp; rfl)); intro gb253 hg w84 hbox hb; have n0_ := Aside0.mk (below_step (mB HB.out) hb); have n1_ := Aside0.mk (hbox); have n2_ := Aside0.mk ((by rw [hg]; exact (below_size (mB HB.out)) : w.heap.size ≤ gb253)); have n3_ := Aside0.mk ((by rw [hg]; exact (below_size (mB HB.out)) : w.heap.size ≤ gb253)); clear HB; have HB := n0_; have BK253 := n1_; have GW253 := n2_; have GE253 := n3_; clear n0_ n1_ n2_ n3_; clear hb hbox hg; have hcz85_0 : w84.cell? ⟨gb253, 0, none⟩ = some (.int .i64 0) := (blk_cell BK253.out 0).trans rfl; have hcz85_1 : w84.cell? ⟨gb253, 1, none⟩ = some (.int .i64 0) := (blk_cell BK253.out 1).trans rfl; have hfz85_0 := blk_frozen BK253.out 0; have hfz85_1 := blk_frozen BK253.out 1))
         have n0_ : Aside0 (((w84.setCell ⟨gb253, 0, none⟩ (.int .i64 ((rd_T40 l0 x13_1).f0))).setCell ⟨gb253, 1, none⟩ (.int .i64 ((rd_T40 l0 x13_1).f1))).heap[gb253]? = some (.cells #[.int .i64 ((rd_T40 l0 x13_1).f0), .int .i64 ((rd_T40 l0 x13_1).f1)] 40 (0, 0))) := ⟨by (with_reducible repeat (first | refine blk_drewN ?_ _ | refine blk_drew ?_ | refine blk_alloc ?_ _)); refine blk_put (cs := #[.int .i64 ((rd_T40 l0 x13_1).f0), .int .i64 0]) ?_ 1 _ rfl; (with_reducible repeat (first | refine blk_drewN ?_ _ | refine blk_drew ?_ | refine blk_alloc ?_ _)); refine blk_put (cs := #[.int .i64 0, .int .i64 0]) ?_ 0 _ rfl; (with_reducible repeat (first | refine blk_drewN ?_ _ | refine blk_drew ?_ | refine blk_alloc ?_ _)); exact BK253.out⟩
         have n1_ : Aside0 (Below w.heap.size w ((w84.setCell ⟨gb253, 0, none⟩ (.int .i64 ((rd_T40 l0 x13_1).f0))).setCell ⟨gb253, 1, none⟩ (.int .i64 ((rd_T40 l0 x13_1).f1)))) := ⟨mBs HB.out⟩
         (try clear BK253); (try clear HB)
         generalize ((w84.setCell ⟨gb253, 0, none⟩ (.int .i64 ((rd_T40 l0 x13_1).f0))).setCell ⟨gb253, 1, none⟩ (.int .i64 ((rd_T40 l0 x13_1).f1))) = w86 at n0_ n1_ ⊢
         have BK253 := n0_
         have HB := n1_
         clear n0_; clear n1_
         have n0_ := Aside0.mk (blk_drew BK253.out)
         have n1_ := Aside0.mk (below_drew1 HB.out)
         clear BK253; clear HB
         have BK253 := n0_
         have HB := n1_
         clear n0_; clear n1_
         refine start_ (n := 26) (S := fun w' => True) (ds := []) #[false, false, false, false, false, false, false, false, false, false, false, false, false, false, false, false, false, false, false, false, false, false, false, false, false, false] (by kernel_rfl) rfl rfl trivial (fun hHeld => ?_); refine with_tabW profile_Fit.tab9 profile_Fit.bits9 (fun HT_ HW_ => ?_)
         generalize w86.drew = w87 at BK253 HB hHeld ⊢
         refine plan_ [(0, 27), (1, 28), (2, 29)] ?_
         iterate 3 (refine planP_ (v := ?_) (a' := ?_) rfl rfl (any_of HT_.out (by kernel_rfl)) (fun _ _ _ h => h) (Or.inl ⟨by rfl, ?_⟩) ?_ ?_; rotate_left; (intro w'; go_simp; with_reducible rfl); rotate_left; (simp only [Act.put, List.setIfInBounds_toArray, List.set_cons_zero, List.set_cons_succ, i64_w, i32_w]; rfl))
         refine planEnd_ ?_
         refine plan_ [(3, 30), (4, 31), (5, 32), (6, 33), (7, 34), (8, 35), (9, 36), (10, 37), (11, 38), (12, 39), (13, 40), (14, 41), (15, 42), (16, 43), (17, 44), (18, 45), (19, 46), (20, 47), (21, 48), (22, 49), (23, 50), (24, 51)] ?_
         iterate 22 (refine planP_ (v := undef) (a' := ?_) rfl rfl (any_of HT_.out (by kernel_rfl)) (fun _ _ _ h => h) (Or.inr ⟨by rfl, rfl⟩) ?_ ?_; rotate_left; (simp only [Act.put, List.setIfInBounds_toArray, List.set_cons_zero, List.set_cons_succ, i64_w, i32_w]; rfl))
         refine planEnd_ ?_
         refine plan_ [(25, 52)] ?_
         refine planP_ (v := ?_) (a' := ?_) rfl rfl (any_of HT_.out (by kernel_rfl)) (fun _ _ _ h => h) (Or.inl ⟨by rfl, ?_⟩) ?_ ?_; rotate_left; (intro w'; go_simp; with_reducible rfl); rotate_left; (simp only [Act.put, List.setIfInBounds_toArray, List.set_cons_zero, List.set_cons_succ, i64_w, i32_w]; rfl)
         refine planEnd_ ?_
         refine done_ (done_of HT_.out (by kernel_rfl)) ?_
         try go_wp2
         go_roundg k1
         case measure => have := HK1.out; omega
         case rel => exact ⟨(x8_1), (wrap64 (x13_1 + 1)), ez, ez, H', ⟨by have := HK1.out; omega⟩, ⟨mBs HB.out⟩⟩
     · exact absurd (of_decide_eq_true c4b0) c6
    ·rw [if_neg c5] at H
     exact absurd H (by simp)
   ·rw [if_neg c4] at H
    have c4b0 : decide (x13_1 < (l0.length : Int)) = false := decide_eq_false c4
    clear c4
    simp only [Option.some.injEq, Prod.mk.injEq] at H
    obtain ⟨rfl, rfl⟩ := H
    go_wp2
    go_ret2
    exact ⟨by first | rfl | (simp [errW_none, errW_some] <;> rfl) | (simp [*, errW_none, errW_some] <;> rfl), by repeat (first | (with_reducible first | exact HB.out | apply below_alloc | apply pw_below_drewN | apply below_drew1) | exact HB.out)⟩

end Go.Proofs.Ytedpoahndddgfaa.PAll
end
section
namespace Go.Proofs.Ytedpoahndddgfaa.PAll
open Go.RowKit Go.Proofs.YtedpoahndddgfaaW.PrintWords Go.Proofs.YtedpoahndddgfaaW.PrintLast Go.Proofs.YtedpoahndddgfaaW.PrintMore
attribute [local go_sem] max2_int min2_int max_two min_two max_three min_three max_four min_four   -- for this text's walks alone
set_option linter.unusedVariables false
set_option linter.unusedSimpArgs false

/-! ### prebendref16_fits: function 46 -/
mutual
def prebendref16_fits.l0 : Nat → List (S40) → Int → Int → Int → Int → Option (Bool)
 | 0, _, _, _, _, _ => none
 | k + 1, x0, x1, x2, x3, x9 => if x9 < (x0.length : Int) then (if 0 ≤ x9 then (if 0 ≤ x1 then (if x1 < (x0.length : Int) then (prebendref16_fits.j1 k x0 x1 x2 x3 x9 (decide ((wrap64 (((rd_T40 x0 x9).f0) - ((rd_T40 x0 x1).f0))) < x3))) else (none)) else (none)) else (none)) else (prebendref16_fits.j1 k x0 x1 x2 x3 x9 false)
def prebendref16_fits.j1 : Nat → List (S40) → Int → Int → Int → Int → Bool → Option (Bool)
 | 0, _, _, _, _, _, _ => none
 | k + 1, x0, x1, x2, x3, x9, x29 => if x29 = true then (if 0 ≤ x9 then (if x9 < (x0.length : Int) then (if ((rd_T40 x0 x9).f1) < x2 then (some false) else (prebendref16_fits.l0 k x0 x1 x2 x3 (wrap64 (x9 + 1)))) else (none)) else (none)) else (some true)
end
def prebendref16_fits.f (k : Nat) (l0 : List (S40)) (a1 : Int) (a2 : Int) (a3 : Int) : Option (Bool) := prebendref16_fits.l0 k l0 a1 a2 a3 a1
theorem prebendref16_fits.mono_l : ∀ k, (∀ y0 y1 y2 y3 y4, LeO (prebendref16_fits.l0 k y0 y1 y2 y3 y4) (prebendref16_fits.l0 (k + 1) y0 y1 y2 y3 y4)) ∧ (∀ y0 y1 y2 y3 y4 y5, LeO (prebendref16_fits.j1 k y0 y1 y2 y3 y4 y5) (prebendref16_fits.j1 (k + 1) y0 y1 y2 y3 y4 y5))
 | 0 => ⟨fun _ _ _ _ _ r h => by simp [prebendref16_fits.l0] at h, fun _ _ _ _ _ _ r h => by simp [prebendref16_fits.j1] at h⟩
 | k + 1 => by
  obtain ⟨ih0, ih1⟩ := prebendref16_fits.mono_l k
  refine ⟨?_, ?_⟩
  ·intro y0 y1 y2 y3 y4
   unfold prebendref16_fits.l0
   repeat' first
   | (with_reducible exact ih0 _ _ _ _ _)
   | (with_reducible exact ih1 _ _ _ _ _ _)
   | (with_reducible exact LeO.refl _)
   | (with_reducible exact LeO.none _)
   | (with_reducible refine LeO.ite ?_ ?_)
   | (with_reducible refine LeO.bind ?_ (fun _ => ?_))
   | exact ih0 _ _ _ _ _
   | exact ih1 _ _ _ _ _ _
   | exact LeO.none _
   | refine LeO.ite ?_ ?_
   | refine LeO.bind ?_ (fun _ => ?_)
  ·intro y0 y1 y2 y3 y4 y5
   unfold prebendref16_fits.j1
   repeat' first
   | (with_reducible exact ih0 _ _ _ _ _)
   | (with_reducible exact ih1 _ _ _ _ _ _)
   | (with_reducible exact LeO.refl _)
   | (with_reducible exact LeO.none _)
   | (with_reducible refine LeO.ite ?_ ?_)
   | (with_reducible refine LeO.bind ?_ (fun _ => ?_))
   | exact ih0 _ _ _ _ _
   | exact ih1 _ _ _ _ _ _
   | exact LeO.none _
   | refine LeO.ite ?_ ?_
   | refine LeO.bind ?_ (fun _ => ?_)
theorem prebendref16_fits.mono : ∀ a0 a1 a2 a3 k, LeO (prebendref16_fits.f k a0 a1 a2 a3) (prebendref16_fits.f (k + 1) a0 a1 a2 a3) := by
 intro a0 a1 a2 a3 k
 obtain ⟨ih0, ih1⟩ := prebendref16_fits.mono_l k
 unfold prebendref16_fits.f
 repeat' first
   | (with_reducible exact ih0 _ _ _ _ _)
   | (with_reducible exact ih1 _ _ _ _ _ _)
   | (with_reducible exact LeO.refl _)
   | (with_reducible exact LeO.none _)
   | (with_reducible refine LeO.ite ?_ ?_)
   | (with_reducible refine LeO.bind ?_ (fun _ => ?_))
   | exact ih0 _ _ _ _ _
   | exact ih1 _ _ _ _ _ _
   | exact LeO.none _
   | refine LeO.ite ?_ ?_
   | refine LeO.bind ?_ (fun _ => ?_)
set_option maxHeartbeats 8000000 in
set_option maxRecDepth 100000 in
theorem prebendref16_fits.calls (k : Nat) (A0 : Option Addr) (c0 : Nat) (l0 : List (S40)) (a1 : Int) (a2 : Int) (a3 : Int) (r : Bool) (w : World) (hr0 : Kd.C k40 w A0 l0.length l0) (hc0 : l0.length ≤ c0) (h : prebendref16_fits.f k l0 a1 a2 a3 = some r) :
  Calls Try.prog 46 #[.slice A0 l0.length c0, .int .i64 a1, .int .i64 a2, .int .i64 a3] w fun e w' => e = .returned (.bool r) ∧ Drawn0 w w' := by
 have HR0 := Aside0.mk hr0
 have HC0 := Aside0.mk hc0
 clear hr0; clear hc0
 have H : (prebendref16_fits.l0 k l0 a1 a2 a3 a1) = some r := h
 clear h
 have H' := Aside0.mk H
 clear H
 go_enter Try.func46, Try.ntmps46
 go_wp2
 repeat (go_quiet (fail); try go_wp2)
 go_loopg [9] k (fun kq v9 w' => ∃ (x9_1 : Int), v9 = .int .i64 x9_1 ∧ Aside0 (prebendref16_fits.l0 kq l0 a1 a2 a3 x9_1 = some r) ∧ Aside0 (kq ≤ k) ∧ Drawn0 w w')
 case atStart => exact ⟨(a1), ez, H', ⟨Nat.le_refl _⟩, by repeat (first | exact Drawn0.refl _ | apply Drawn0.step)⟩
 case round =>
  clear H'
  (try clear p2); (try clear c4)
  obtain ⟨x9_1, rfl, HA, HK1, ⟨m1, rfl⟩⟩ := hrel
  cases gk with
  | zero => exact absurd HA.out (by simp [prebendref16_fits.l0])
  | succ k1 =>
   have H := HA.out
   clear HA
   simp only [prebendref16_fits.l0] at H
   have HC5 := Aside0.mk H
   clear H
   go_upto_region 2 with (fail)
   repeat (go_quiet (fail); go_upto_region 2 with (fail))
   go_cut [29] (fun v29 wc => ∃ (kq : Nat) (x29_4 : Bool), v29 = .bool x29_4 ∧ Aside0 (prebendref16_fits.j1 kq l0 a1 a2 a3 x9_1 x29_4 = some r) ∧ Aside0 (kq ≤ k1) ∧ Drawn0 w wc)
   case first =>
    have H := HC5.out
    clear HC5
    by_cases c6 : x9_1 < (l0.length : Int)
    ·rw [if_pos c6] at H
     have c6b0 : decide (x9_1 < (l0.length : Int)) = true := decide_eq_true c6
     clear c6
     (first | rw [c6b0] | (simp only [i64_w, i32_w]; rw [c6b0]) | skip)
     by_cases c7 : 0 ≤ x9_1
     ·rw [if_pos c7] at H
      have c7b0 : decide (0 ≤ x9_1) = true := decide_eq_true c7
      clear c7
      by_cases c8 : 0 ≤ a1
      ·rw [if_pos c8] at H
       have c8b0 : decide (0 ≤ a1) = true := decide_eq_true c8
       clear c8
       by_cases c9 : a1 < (l0.length : Int)
       ·rw [if_pos c9] at H
        have c9b0 : decide (a1 < (l0.length : Int)) = true := decide_eq_true c9
        clear c9
        have H' := Aside0.mk H
        clear H
        have p266 : 0 ≤ (x9_1 : Int) := oda
        have q266 : x9_1 < (l0.length : Int) := oda
        obtain ⟨ad266, e266, hx266_0, hx266_1⟩ := at_T40 HR0.out x9_1 p266 q266
        cases e266
        replace p266 := eq_true p266
        replace q266 := eq_true q266
        have p267 : 0 ≤ (a1 : Int) := oda
        have q267 : a1 < (l0.length : Int) := oda
        obtain ⟨ad267, e267, hx267_0, hx267_1⟩ := at_T40 HR0.out a1 p267 q267
        obtain rfl : ad266 = ad267 := (by injection e267)
        replace p267 := eq_true p267
        replace q267 := eq_true q267
        go_wp2
        repeat (go_quiet (fail); try go_wp2)
        go_meet
        case rel => exact ⟨_, (decide ((wrap64 (((rd_T40 l0 x9_1).f0) - ((rd_T40 l0 a1).f0))) < a3)), ez, H', ⟨by have := HK1.out; first | omega | exact Nat.le_refl _⟩, by repeat (first | exact Drawn0.refl _ | apply Drawn0.step)⟩
       ·rw [if_neg c9] at H
        exact absurd H (by simp)
      ·rw [if_neg c8] at H
       exact absurd H (by simp)
     ·rw [if_neg c7] at H
      exact absurd H (by simp)
    ·rw [if_neg c6] at H
     have c6b0 : decide (x9_1 < (l0.length : Int)) = false := decide_eq_false c6
     clear c6
     (first | rw [c6b0] | (simp only [i64_w, i32_w]; rw [c6b0]) | skip)
     have H' := Aside0.mk H
     clear H
     go_wp2
     repeat (go_quiet (fail); try go_wp2)
     go_meet
     case rel => exact ⟨_, (false), ez, H', ⟨by have := HK1.out; first | omega | exact Nat.le_refl _⟩, by repeat (first | exact Drawn0.refl _ | apply Drawn0.step)⟩
   case rest =>
    clear HC5
    (try clear p2); (try clear q2); (try clear hx2); (try clear c4); (try clear c6); (try clear c6b0); (try clear p6); (try clear c7); (try clear c7b0); (try clear c8); (try clear c8b0); (try clear c9); (try clear c9b0); (try clear hx266_0); (try clear hx266_1); (try clear hx267_0); (try clear hx267_1); (try clear p2); (try clear p266); (try clear p267); (try clear q266); (try clear q267)
    obtain ⟨kq, x29_4, rfl, HA, HJ4, ⟨mc4, rfl⟩⟩ := hcut
    cases kq with
    | zero => exact absurd HA.out (by simp [prebendref16_fits.j1])
    | succ kj4 =>
     have H := HA.out
     clear HA
     simp only [prebendref16_fits.j1] at H
     by_cases c10 : x29_4 = true
     ·subst c10
      have H1 : (if 0 ≤ x9_1 then (if x9_1 < (l0.length : Int) then (if ((rd_T40 l0 x9_1).f1) < a2 then (some false) else (prebendref16_fits.l0 kj4 l0 a1 a2 a3 (wrap64 (x9_1 + 1)))) else (none)) else (none)) = some r := by rw [if_pos rfl] at H; exact H
      clear H
      have H := H1
      clear H1
      by_cases c11 : 0 ≤ x9_1
      ·rw [if_pos c11] at H
       have c11b0 : decide (0 ≤ x9_1) = true := decide_eq_true c11
       clear c11
       by_cases c12 : x9_1 < (l0.length : Int)
       ·rw [if_pos c12] at H
        have c12b0 : decide (x9_1 < (l0.length : Int)) = true := decide_eq_true c12
        clear c12
        by_cases c13 : ((rd_T40 l0 x9_1).f1) < a2
        ·rw [if_pos c13] at H
         have c13b0 : decide (((rd_T40 l0 x9_1).f1) < a2) = true := decide_eq_true c13
         clear c13
         obtain rfl := Option.some.inj H
         have p268 : 0 ≤ (x9_1 : Int) := oda
         have q268 : x9_1 < (l0.length : Int) := oda
         obtain ⟨ad268, e268, hx268_0, hx268_1⟩ := at_T40 HR0.out x9_1 p268 q268
         cases e268
         replace p268 := eq_true p268
         replace q268 := eq_true q268
         go_wp2
         repeat (go_quiet (fail); try go_wp2)
         go_ret
         exact ⟨by first | rfl | (simp; done) | (simp [*]; done), by repeat (first | exact Drawn0.refl _ | apply Drawn0.step)⟩
        ·rw [if_neg c13] at H
         have c13b0 : decide (((rd_T40 l0 x9_1).f1) < a2) = false := decide_eq_false c13
         clear c13
         have H' := Aside0.mk H
         clear H
         have p268 : 0 ≤ (x9_1 : Int) := oda
         have q268 : x9_1 < (l0.length : Int) := oda
         obtain ⟨ad268, e268, hx268_0, hx268_1⟩ := at_T40 HR0.out x9_1 p268 q268
         cases e268
         replace p268 := eq_true p268
         replace q268 := eq_true q268
         go_wp2
         repeat (go_quiet (fail); try go_wp2)
         go_roundg kj4
         case measure => have := HK1.out; have := HJ4.out; omega
         case rel => exact ⟨(wrap64 (x9_1 + 1)), ez, H', ⟨by have := HK1.out; have := HJ4.out; omega⟩, by repeat (first | exact Drawn0.refl _ | apply Drawn0.step)⟩
       ·rw [if_neg c12] at H
        exact absurd H (by simp)
      ·rw [if_neg c11] at H
       exact absurd H (by simp)
     ·replace c10 := Bool.eq_false_iff.mpr c10
      subst c10
      have H1 : (some true) = some r := by rw [if_neg (show ¬ (false = true) by decide)] at H; exact H
      clear H
      have H := H1
      clear H1
      obtain rfl := Option.some.inj H
      go_wp2
      repeat (go_quiet (fail); try go_wp2)
      go_ret
      exact ⟨by first | rfl | (simp; done) | (simp [*]; done), by repeat (first | exact Drawn0.refl _ | apply Drawn0.step)⟩

end Go.Proofs.Ytedpoahndddgfaa.PAll
end
section
namespace Go.Proofs.Ytedpoahndddgfaa.PAll
open Go.RowKit Go.Proofs.YtedpoahndddgfaaW.PrintWords Go.Proofs.YtedpoahndddgfaaW.PrintLast Go.Proofs.YtedpoahndddgfaaW.PrintMore
attribute [local go_sem] max2_int min2_int max_two min_two max_three min_three max_four min_four   -- for this text's walks alone
set_option linter.unusedVariables false
set_option linter.unusedSimpArgs false

/-! ### prebendref16_Fit: function 18 -/
mutual
def prebendref16_Fit.j0 : Nat → List (S40) → Int → Int → Option (Int × Bool)
 | 0, _, _, _ => none
 | k + 1, x0, x1, x2 => prebendref16_Fit.l0 k x0 x1 x2 0
def prebendref16_Fit.l0 : Nat → List (S40) → Int → Int → Int → Option (Int × Bool)
 | 0, _, _, _, _ => none
 | k + 1, x0, x1, x2, x8 => if x8 < (x0.length : Int) then ((prebendref16_fits.f k x0 x8 x1 x2).bind fun t269 => (if t269 = true then (if 0 ≤ x8 then (some ((rd_T40 x0 x8).f0, true)) else (none)) else (prebendref16_Fit.l0 k x0 x1 x2 (wrap64 (x8 + 1))))) else (some (0, false))
end
def prebendref16_Fit.f (k : Nat) (l0 : List (S40)) (a1 : Int) (a2 : Int) : Option (Int × Bool) := if a2 < 1 then (prebendref16_Fit.j0 k l0 a1 1) else (prebendref16_Fit.j0 k l0 a1 a2)
theorem prebendref16_Fit.mono_l : ∀ k, (∀ y0 y1 y2, LeO (prebendref16_Fit.j0 k y0 y1 y2) (prebendref16_Fit.j0 (k + 1) y0 y1 y2)) ∧ (∀ y0 y1 y2 y3, LeO (prebendref16_Fit.l0 k y0 y1 y2 y3) (prebendref16_Fit.l0 (k + 1) y0 y1 y2 y3))
 | 0 => ⟨fun _ _ _ r h => by simp [prebendref16_Fit.j0] at h, fun _ _ _ _ r h => by simp [prebendref16_Fit.l0] at h⟩
 | k + 1 => by
  obtain ⟨ih0, ih1⟩ := prebendref16_Fit.mono_l k
  refine ⟨?_, ?_⟩
  ·intro y0 y1 y2
   unfold prebendref16_Fit.j0
   repeat' first
   | (with_reducible exact ih0 _ _ _)
   | (with_reducible exact ih1 _ _ _ _)
   | (with_reducible exact prebendref16_fits.mono _ _ _ _ _)
   | (with_reducible exact LeO.refl _)
   | (with_reducible exact LeO.none _)
   | (with_reducible refine LeO.ite ?_ ?_)
   | (with_reducible refine LeO.bind ?_ (fun _ => ?_))
   | exact ih0 _ _ _
   | exact ih1 _ _ _ _
   | exact prebendref16_fits.mono _ _ _ _ _
   | exact LeO.none _
   | refine LeO.ite ?_ ?_
   | refine LeO.bind ?_ (fun _ => ?_)
  ·intro y0 y1 y2 y3
   unfold prebendref16_Fit.l0
   repeat' first
   | (with_reducible exact ih0 _ _ _)
   | (with_reducible exact ih1 _ _ _ _)
   | (with_reducible exact prebendref16_fits.mono _ _ _ _ _)
   | (with_reducible exact LeO.refl _)
   | (with_reducible exact LeO.none _)
   | (with_reducible refine LeO.ite ?_ ?_)
   | (with_reducible refine LeO.bind ?_ (fun _ => ?_))
   | exact ih0 _ _ _
   | exact ih1 _ _ _ _
   | exact prebendref16_fits.mono _ _ _ _ _
   | exact LeO.none _
   | refine LeO.ite ?_ ?_
   | refine LeO.bind ?_ (fun _ => ?_)
theorem prebendref16_Fit.mono : ∀ a0 a1 a2 k, LeO (prebendref16_Fit.f k a0 a1 a2) (prebendref16_Fit.f (k + 1) a0 a1 a2) := by
 intro a0 a1 a2 k
 obtain ⟨ih0, ih1⟩ := prebendref16_Fit.mono_l k
 unfold prebendref16_Fit.f
 repeat' first
   | (with_reducible exact ih0 _ _ _)
   | (with_reducible exact ih1 _ _ _ _)
   | (with_reducible exact prebendref16_fits.mono _ _ _ _ _)
   | (with_reducible exact LeO.refl _)
   | (with_reducible exact LeO.none _)
   | (with_reducible refine LeO.ite ?_ ?_)
   | (with_reducible refine LeO.bind ?_ (fun _ => ?_))
   | exact ih0 _ _ _
   | exact ih1 _ _ _ _
   | exact prebendref16_fits.mono _ _ _ _ _
   | exact LeO.none _
   | refine LeO.ite ?_ ?_
   | refine LeO.bind ?_ (fun _ => ?_)
set_option maxHeartbeats 8000000 in
set_option maxRecDepth 100000 in
theorem prebendref16_Fit.calls (k : Nat) (A0 : Option Addr) (c0 : Nat) (l0 : List (S40)) (a1 : Int) (a2 : Int) (r1 : Int) (r2 : Bool) (w : World) (hr0 : Kd.C k40 w A0 l0.length l0) (hc0 : l0.length ≤ c0) (h : prebendref16_Fit.f k l0 a1 a2 = some (r1, r2)) :
  Calls Try.prog 18 #[.slice A0 l0.length c0, .int .i64 a1, .int .i64 a2] w fun e w' => e = .returned (.tuple #[.int .i64 r1, .bool r2]) ∧ Drawn0 w w' := by
 have HR0 := Aside0.mk hr0
 have HC0 := Aside0.mk hc0
 clear hr0; clear hc0
 have H : (if a2 < 1 then (prebendref16_Fit.j0 k l0 a1 1) else (prebendref16_Fit.j0 k l0 a1 a2)) = some (r1, r2) := h
 clear h
 have HC4 := Aside0.mk H
 clear H
 go_enter Try.func18, Try.ntmps18
 go_upto_if 10 with (fail)
 go_cut [2] (fun v2 wc => ∃ (kq : Nat) (x2_3 : Int), v2 = .int .i64 x2_3 ∧ Aside0 (prebendref16_Fit.j0 kq l0 a1 x2_3 = some (r1, r2)) ∧ Aside0 (kq ≤ k) ∧ Drawn0 w wc)
 case first =>
  have H := HC4.out
  clear HC4
  by_cases c5 : a2 < 1
  ·rw [if_pos c5] at H
   have c5b0 : decide (a2 < 1) = true := decide_eq_true c5
   clear c5
   (first | rw [c5b0] | (simp only [i64_w, i32_w]; rw [c5b0]) | skip)
   have H' := Aside0.mk H
   clear H
   go_wp2
   go_meet
   case rel => exact ⟨_, (1), ez, H', ⟨by first | omega | exact Nat.le_refl _⟩, by repeat (first | exact Drawn0.refl _ | apply Drawn0.step)⟩
  ·rw [if_neg c5] at H
   have c5b0 : decide (a2 < 1) = false := decide_eq_false c5
   clear c5
   (first | rw [c5b0] | (simp only [i64_w, i32_w]; rw [c5b0]) | skip)
   have H' := Aside0.mk H
   clear H
   go_wp2
   go_meet
   case rel => exact ⟨_, (a2), ez, H', ⟨by first | omega | exact Nat.le_refl _⟩, by repeat (first | exact Drawn0.refl _ | apply Drawn0.step)⟩
 case rest =>
  clear HC4
  (try clear c1); (try clear p2); (try clear c5); (try clear c5b0)
  obtain ⟨kq, x2_3, rfl, HA, HJ3, ⟨mc3, rfl⟩⟩ := hcut
  cases kq with
  | zero => exact absurd HA.out (by simp [prebendref16_Fit.j0])
  | succ kj3 =>
   have H := HA.out
   clear HA
   simp only [prebendref16_Fit.j0] at H
   have H' := Aside0.mk H
   clear H
   go_wp2
   go_loopg [8] kj3 (fun kq v8 w' => ∃ (x8_2 : Int), v8 = .int .i64 x8_2 ∧ Aside0 (prebendref16_Fit.l0 kq l0 a1 x2_3 x8_2 = some (r1, r2)) ∧ Aside0 (kq ≤ kj3) ∧ Drawn0 w w')
   case atStart => exact ⟨(0), ez, H', ⟨Nat.le_refl _⟩, by repeat (first | exact Drawn0.refl _ | apply Drawn0.step)⟩
   case round =>
    clear H'
    (try clear c1); (try clear p2); (try clear c3); (try clear c5); (try clear c5b0); (try clear p2)
    obtain ⟨x8_2, rfl, HA, HK2, ⟨m2, rfl⟩⟩ := hrel
    cases gk with
    | zero => exact absurd HA.out (by simp [prebendref16_Fit.l0])
    | succ k2 =>
     have H := HA.out
     clear HA
     simp only [prebendref16_Fit.l0] at H
     by_cases c6 : x8_2 < (l0.length : Int)
     ·rw [if_pos c6] at H
      have c6b0 : decide (x8_2 < (l0.length : Int)) = true := decide_eq_true c6
      clear c6
      replace H := Option.bind_eq_some_iff.mp H
      obtain ⟨t269, A70, H⟩ := H
      replace H : (if t269 = true then (if 0 ≤ x8_2 then (some ((rd_T40 l0 x8_2).f0, true)) else (none)) else (prebendref16_Fit.l0 k2 l0 a1 x2_3 (wrap64 (x8_2 + 1)))) = some (r1, r2) := H
      have A7 := Aside0.mk A70
      clear A70
      by_cases c8 : t269 = true
      ·subst c8
       have H1 : (if 0 ≤ x8_2 then (some ((rd_T40 l0 x8_2).f0, true)) else (none)) = some (r1, r2) := by rw [if_pos rfl] at H; exact H
       clear H
       have H := H1
       clear H1
       by_cases c9 : 0 ≤ x8_2
       ·rw [if_pos c9] at H
        have c9b0 : decide (0 ≤ x8_2) = true := decide_eq_true c9
        clear c9
        simp only [Option.some.injEq, Prod.mk.injEq] at H
        obtain ⟨rfl, rfl⟩ := H
        go_wp2_with (first | ((with_reducible refine gate_callee (f := 46) rfl ?_); refine goesL_ (some 21) rfl rfl Try.func46 (by kernel_rfl) rfl #[.slice A0 l0.length c0, .int .i64 x8_2, .int .i64 a1, .int .i64 x2_3] rfl mt ?_; (with_reducible refine (prebendref16_fits.calls k2 _ _ l0 x8_2 a1 x2_3 true _ ?side1 ?side2 A7.out).mono ?_); (case side1 => exact mC HR0.out); (case side2 => exact HC0.out); rintro e w' ⟨rfl, ⟨nd, rfl⟩⟩; refine ⟨_, rfl, ?_⟩; have p270 : 0 ≤ (x8_2 : Int) := oda; have q270 : x8_2 < (l0.length : Int) := oda; obtain ⟨ad270, e270, hx270_0, hx270_1⟩ := at_T40 HR0.out x8_2 p270 q270; cases e270; replace p270 := eq_true p270; replace q270 := eq_true q270))
        go_ret2
        exact ⟨by first | rfl | (simp; done) | (simp [*]; done), by repeat (first | exact Drawn0.refl _ | apply Drawn0.step)⟩
       ·rw [if_neg c9] at H
        exact absurd H (by simp)
      ·replace c8 := Bool.eq_false_iff.mpr c8
       subst c8
       have H1 : (prebendref16_Fit.l0 k2 l0 a1 x2_3 (wrap64 (x8_2 + 1))) = some (r1, r2) := by rw [if_neg (show ¬ (false = true) by decide)] at H; exact H
       clear H
       have H := H1
       clear H1
       have H' := Aside0.mk H
       clear H
       go_wp2_with (first | ((with_reducible refine gate_callee (f := 46) rfl ?_); refine goesL_ (some 21) rfl rfl Try.func46 (by kernel_rfl) rfl #[.slice A0 l0.length c0, .int .i64 x8_2, .int .i64 a1, .int .i64 x2_3] rfl mt ?_; (with_reducible refine (prebendref16_fits.calls k2 _ _ l0 x8_2 a1 x2_3 false _ ?side1 ?side2 A7.out).mono ?_); (case side1 => exact mC HR0.out); (case side2 => exact HC0.out); rintro e w' ⟨rfl, ⟨nd, rfl⟩⟩; refine ⟨_, rfl, ?_⟩))
       go_roundg k2
       case measure => have := HJ3.out; have := HK2.out; omega
       case rel => exact ⟨(wrap64 (x8_2 + 1)), ez, H', ⟨by have := HJ3.out; have := HK2.out; omega⟩, by repeat (first | exact Drawn0.refl _ | apply Drawn0.step)⟩
     ·rw [if_neg c6] at H
      have c6b0 : decide (x8_2 < (l0.length : Int)) = false := decide_eq_false c6
      clear c6
      simp only [Option.some.injEq, Prod.mk.injEq] at H
      obtain ⟨rfl, rfl⟩ := H
      go_wp2
      go_ret2
      exact ⟨by first | rfl | (simp; done) | (simp [*]; done), by repeat (first | exact Drawn0.refl _ | apply Drawn0.step)⟩

end Go.Proofs.Ytedpoahndddgfaa.PAll
end
section
namespace Go.Proofs.Ytedpoahndddgfaa.PAll
open Go.RowKit Go.Proofs.YtedpoahndddgfaaW.PrintWords Go.Proofs.YtedpoahndddgfaaW.PrintLast Go.Proofs.YtedpoahndddgfaaW.PrintMore
attribute [local go_sem] max2_int min2_int max_two min_two max_three min_three max_four min_four   -- for this text's walks alone
set_option linter.unusedVariables false
set_option linter.unusedSimpArgs false

theorem eqA40 (d : Nat) (w : World) (x0 y0 : Int) (x1 y1 : Int) :
  (Op.equalIn (d + 2) 40 (.agg #[.int .i64 x0, .int .i64 x1]) (.agg #[.int .i64 y0, .int .i64 y1])).run Try.prog w = .ok (x0 == y0 && (x1 == y1)) w := by
 refine eqA_of Try.underlying40 (by kernel_rfl) ?_
 refine eqf_cons (by rfl) (by go_simp; rfl) (by go_simp; rfl) (by go_simp) ?_
 exact eqf_last (by rfl) (by go_simp; rfl) (by go_simp; rfl) (by go_simp)
end Go.Proofs.Ytedpoahndddgfaa.PAll
end
section
namespace Go.Proofs.Ytedpoahndddgfaa.PAll
open Go.RowKit Go.Proofs.YtedpoahndddgfaaW.PrintWords Go.Proofs.YtedpoahndddgfaaW.PrintLast Go.Proofs.YtedpoahndddgfaaW.PrintMore
attribute [local go_sem] max2_int min2_int max_two min_two max_three min_three max_four min_four   -- for this text's walks alone
set_option linter.unusedVariables false
set_option linter.unusedSimpArgs false

attribute [local go_sem high] eqA40
/-! ### prebendref16_Same: function 19 -/
def prebendref16_Same.l0 : Nat → List (S40) → List (S40) → Int → Option (Bool)
 | 0, _, _, _ => none
 | k + 1, x0, x1, x5 => if x5 < (x0.length : Int) then (if 0 ≤ x5 then (if x5 < (x1.length : Int) then (if (!(((rd_T40 x0 x5).f0) == ((rd_T40 x1 x5).f0)) || (!(((rd_T40 x0 x5).f1) == ((rd_T40 x1 x5).f1)))) = true then (some false) else (prebendref16_Same.l0 k x0 x1 (wrap64 (x5 + 1)))) else (none)) else (none)) else (some true)
def prebendref16_Same.f (k : Nat) (l0 : List (S40)) (l1 : List (S40)) : Option (Bool) := if (l0.length : Int) = (l1.length : Int) then (prebendref16_Same.l0 k l0 l1 0) else (some false)
theorem prebendref16_Same.mono_l : ∀ k, (∀ y0 y1 y2, LeO (prebendref16_Same.l0 k y0 y1 y2) (prebendref16_Same.l0 (k + 1) y0 y1 y2))
 | 0 => fun _ _ _ r h => by simp [prebendref16_Same.l0] at h
 | k + 1 => by
  have ih0 := prebendref16_Same.mono_l k
  ·intro y0 y1 y2
   unfold prebendref16_Same.l0
   repeat' first
   | (with_reducible exact ih0 _ _ _)
   | (with_reducible exact LeO.refl _)
   | (with_reducible exact LeO.none _)
   | (with_reducible refine LeO.ite ?_ ?_)
   | (with_reducible refine LeO.bind ?_ (fun _ => ?_))
   | exact ih0 _ _ _
   | exact LeO.none _
   | refine LeO.ite ?_ ?_
   | refine LeO.bind ?_ (fun _ => ?_)
theorem prebendref16_Same.mono : ∀ a0 a1 k, LeO (prebendref16_Same.f k a0 a1) (prebendref16_Same.f (k + 1) a0 a1) := by
 intro a0 a1 k
 have ih0 := prebendref16_Same.mono_l k
 unfold prebendref16_Same.f
 repeat' first
   | (with_reducible exact ih0 _ _ _)
   | (with_reducible exact LeO.refl _)
   | (with_reducible exact LeO.none _)
   | (with_reducible refine LeO.ite ?_ ?_)
   | (with_reducible refine LeO.bind ?_ (fun _ => ?_))
   | exact ih0 _ _ _
   | exact LeO.none _
   | refine LeO.ite ?_ ?_
   | refine LeO.bind ?_ (fun _ => ?_)
set_option maxHeartbeats 8000000 in
set_option maxRecDepth 100000 in
theorem prebendref16_Same.calls (k : Nat) (A0 : Option Addr) (c0 : Nat) (l0 : List (S40)) (A1 : Option Addr) (c1 : Nat) (l1 : List (S40)) (r : Bool) (w : World) (hr0 : Kd.C k40 w A0 l0.length l0) (hc0 : l0.length ≤ c0) (hr1 : Kd.C k40 w A1 l1.length l1) (hc1 : l1.length ≤ c1) (h : prebendref16_Same.f k l0 l1 = some r) :
  Calls Try.prog 19 #[.slice A0 l0.length c0, .slice A1 l1.length c1] w fun e w' => e = .returned (.bool r) ∧ Drawn0 w w' := by
 have hu40 := Try.underlying40
 have HR0 := Aside0.mk hr0
 have HC0 := Aside0.mk hc0
 clear hr0; clear hc0
 have HR1 := Aside0.mk hr1
 have HC1 := Aside0.mk hc1
 clear hr1; clear hc1
 have H : (if (l0.length : Int) = (l1.length : Int) then (prebendref16_Same.l0 k l0 l1 0) else (some false)) = some r := h
 clear h
 by_cases c3 : (l0.length : Int) = (l1.length : Int)
 ·rw [if_pos c3] at H
  have c3b0 : ((l0.length : Int) == (l1.length : Int)) = true := beq_iff_eq.mpr c3
  have c3b1 : ((l0.length : Int) != (l1.length : Int)) = false := bne_eq_false_iff_eq.mpr c3
  have c3b2 : (l0.length == l1.length) = true := by first | simpa using c3 | (simp at c3 ⊢; omega)
  clear c3
  have H' := Aside0.mk H
  clear H
  go_enter Try.func19, Try.ntmps19
  go_wp2
  repeat (go_quiet (fail); try go_wp2)
  go_loopg [5] k (fun kq v5 w' => ∃ (x5_1 : Int), v5 = .int .i64 x5_1 ∧ Aside0 (prebendref16_Same.l0 kq l0 l1 x5_1 = some r) ∧ Aside0 (kq ≤ k) ∧ Drawn0 w w')
  case atStart => exact ⟨(0), ez, H', ⟨Nat.le_refl _⟩, by repeat (first | exact Drawn0.refl _ | apply Drawn0.step)⟩
  case round =>
   clear H'
   (try clear c1); (try clear p2); (try clear c3); (try clear c3b0); (try clear c3b1); (try clear c3b2)
   obtain ⟨x5_1, rfl, HA, HK1, ⟨m1, rfl⟩⟩ := hrel
   cases gk with
   | zero => exact absurd HA.out (by simp [prebendref16_Same.l0])
   | succ k1 =>
    have H := HA.out
    clear HA
    simp only [prebendref16_Same.l0] at H
    by_cases c4 : x5_1 < (l0.length : Int)
    ·rw [if_pos c4] at H
     have c4b0 : decide (x5_1 < (l0.length : Int)) = true := decide_eq_true c4
     clear c4
     by_cases c5 : 0 ≤ x5_1
     ·rw [if_pos c5] at H
      have c5b0 : decide (0 ≤ x5_1) = true := decide_eq_true c5
      clear c5
      by_cases c6 : x5_1 < (l1.length : Int)
      ·rw [if_pos c6] at H
       have c6b0 : decide (x5_1 < (l1.length : Int)) = true := decide_eq_true c6
       clear c6
       by_cases c7 : (!(((rd_T40 l0 x5_1).f0) == ((rd_T40 l1 x5_1).f0)) || (!(((rd_T40 l0 x5_1).f1) == ((rd_T40 l1 x5_1).f1)))) = true
       ·rw [if_pos c7] at H
        have c7b0 : (!(((rd_T40 l0 x5_1).f0) == ((rd_T40 l1 x5_1).f0)) || (!(((rd_T40 l0 x5_1).f1) == ((rd_T40 l1 x5_1).f1)))) = true := c7
        clear c7
        obtain rfl := Option.some.inj H
        have p271 : 0 ≤ (x5_1 : Int) := oda
        have q271 : x5_1 < (l0.length : Int) := oda
        obtain ⟨ad271, e271, hx271_0, hx271_1⟩ := at_T40 HR0.out x5_1 p271 q271
        cases e271
        replace p271 := eq_true p271
        replace q271 := eq_true q271
        have p272 : 0 ≤ (x5_1 : Int) := oda
        have q272 : x5_1 < (l1.length : Int) := oda
        obtain ⟨ad272, e272, hx272_0, hx272_1⟩ := at_T40 HR1.out x5_1 p272 q272
        cases e272
        replace p272 := eq_true p272
        replace q272 := eq_true q272
        go_wp2
        repeat (go_quiet (fail); try go_wp2)
        go_ret
        exact ⟨by first | rfl | (simp; done) | (simp [*]; done), by repeat (first | exact Drawn0.refl _ | apply Drawn0.step)⟩
       ·rw [if_neg c7] at H
        have c7b0 : (!(((rd_T40 l0 x5_1).f0) == ((rd_T40 l1 x5_1).f0)) || (!(((rd_T40 l0 x5_1).f1) == ((rd_T40 l1 x5_1).f1)))) = false := by simpa using c7
        clear c7
        have H' := Aside0.mk H
        clear H
        have p271 : 0 ≤ (x5_1 : Int) := oda
        have q271 : x5_1 < (l0.length : Int) := oda
        obtain ⟨ad271, e271, hx271_0, hx271_1⟩ := at_T40 HR0.out x5_1 p271 q271
        cases e271
        replace p271 := eq_true p271
        replace q271 := eq_true q271
        have p272 : 0 ≤ (x5_1 : Int) := oda
        have q272 : x5_1 < (l1.length : Int) := oda
        obtain ⟨ad272, e272, hx272_0, hx272_1⟩ := at_T40 HR1.out x5_1 p272 q272
        cases e272
        replace p272 := eq_true p272
        replace q272 := eq_true q272
        go_wp2
        repeat (go_quiet (fail); try go_wp2)
        go_roundg k1
        case measure => have := HK1.out; omega
        case rel => exact ⟨(wrap64 (x5_1 + 1)), ez, H', ⟨by have := HK1.out; omega⟩, by repeat (first | exact Drawn0.refl _ | apply Drawn0.step)⟩
      ·rw [if_neg c6] at H
       exact absurd H (by simp)
     ·rw [if_neg c5] at H
      exact absurd H (by simp)
    ·rw [if_neg c4] at H
     have c4b0 : decide (x5_1 < (l0.length : Int)) = false := decide_eq_false c4
     clear c4
     obtain rfl := Option.some.inj H
     go_wp2
     repeat (go_quiet (fail); try go_wp2)
     go_ret
     exact ⟨by first | rfl | (simp; done) | (simp [*]; done), by repeat (first | exact Drawn0.refl _ | apply Drawn0.step)⟩
 ·rw [if_neg c3] at H
  have c3b0 : ((l0.length : Int) == (l1.length : Int)) = false := beq_eq_false_iff_ne.mpr c3
  have c3b1 : ((l0.length : Int) != (l1.length : Int)) = true := bne_iff_ne.mpr c3
  have c3b2 : (l0.length == l1.length) = false := by first | simpa using c3 | (simp at c3 ⊢; omega)
  obtain rfl := Option.some.inj H
  go_enter Try.func19, Try.ntmps19
  go_wp2
  repeat (go_quiet (fail); try go_wp2)
  go_ret
  exact ⟨by first | rfl | (simp; done) | (simp [*]; done), by repeat (first | exact Drawn0.refl _ | apply Drawn0.step)⟩

end Go.Proofs.Ytedpoahndddgfaa.PAll
end
section
namespace Go.Proofs.Ytedpoahndddgfaa.PAll
open Go.RowKit Go.Proofs.YtedpoahndddgfaaW.PrintWords Go.Proofs.YtedpoahndddgfaaW.PrintLast Go.Proofs.YtedpoahndddgfaaW.PrintMore
attribute [local go_sem] max2_int min2_int max_two min_two max_three min_three max_four min_four   -- for this text's walks alone
set_option linter.unusedVariables false
set_option linter.unusedSimpArgs false

/-! ### profile_At: function 20 -/
def profile_At.l0 : Nat → Int → Int → List (S40) → Int → Int → Option (Int)
 | 0, _, _, _, _, _ => none
 | k + 1, x1, x5, x8, x9, x10 => if x10 < x9 then (if 0 ≤ x10 then (if x10 < (x8.length : Int) then (if ((rd_T40 x8 x10).f0) ≤ x1 then (profile_At.l0 k x1 ((rd_T40 x8 x10).f1) x8 x9 (wrap64 (x10 + 1))) else (profile_At.l0 k x1 x5 x8 x9 (wrap64 (x10 + 1)))) else (none)) else (none)) else (some x5)
def profile_At.f (k : Nat) (l0 : List (S40)) (a1 : Int) : Option (Int) := profile_At.l0 k a1 0 l0 (l0.length : Int) 0
theorem profile_At.mono_l : ∀ k, (∀ y0 y1 y2 y3 y4, LeO (profile_At.l0 k y0 y1 y2 y3 y4) (profile_At.l0 (k + 1) y0 y1 y2 y3 y4))
 | 0 => fun _ _ _ _ _ r h => by simp [profile_At.l0] at h
 | k + 1 => by
  have ih0 := profile_At.mono_l k
  ·intro y0 y1 y2 y3 y4
   unfold profile_At.l0
   repeat' first
   | (with_reducible exact ih0 _ _ _ _ _)
   | (with_reducible exact LeO.refl _)
   | (with_reducible exact LeO.none _)
   | (with_reducible refine LeO.ite ?_ ?_)
   | (with_reducible refine LeO.bind ?_ (fun _ => ?_))
   | exact ih0 _ _ _ _ _
   | exact LeO.none _
   | refine LeO.ite ?_ ?_
   | refine LeO.bind ?_ (fun _ => ?_)
theorem profile_At.mono : ∀ a0 a1 k, LeO (profile_At.f k a0 a1) (profile_At.f (k + 1) a0 a1) := by
 intro a0 a1 k
 have ih0 := profile_At.mono_l k
 unfold profile_At.f
 repeat' first
   | (with_reducible exact ih0 _ _ _ _ _)
   | (with_reducible exact LeO.refl _)
   | (with_reducible exact LeO.none _)
   | (with_reducible refine LeO.ite ?_ ?_)
   | (with_reducible refine LeO.bind ?_ (fun _ => ?_))
   | exact ih0 _ _ _ _ _
   | exact LeO.none _
   | refine LeO.ite ?_ ?_
   | refine LeO.bind ?_ (fun _ => ?_)
set_option maxHeartbeats 8000000 in
set_option maxRecDepth 100000 in
theorem profile_At.calls (k : Nat) (A0 : Option Addr) (c0 : Nat) (l0 : List (S40)) (a1 : Int) (r : Int) (w : World) (hr0 : Kd.C k40 w A0 l0.length l0) (hc0 : l0.length ≤ c0) (h : profile_At.f k l0 a1 = some r) :
  Calls Try.prog 20 #[.slice A0 l0.length c0, .int .i64 a1] w fun e w' => e = .returned (.int .i64 r) ∧ Below w.heap.size w w' := by
 have hu40 := Try.underlying40
 have HR0 := Aside0.mk hr0
 have HC0 := Aside0.mk hc0
 clear hr0; clear hc0
 have HB := Aside0.mk (Below.refl w.heap.size w)
 have H : (profile_At.l0 k a1 0 l0 (l0.length : Int) 0) = some r := h
 clear h
 have H' := Aside0.mk H
 clear H
 go_enter Try.func20, Try.ntmps20
 go_wp2
 go_loopg [5, 10] k (fun kq v5 v10 w' => ∃ (x5_1 : Int) (x10_1 : Int), v5 = .int .i64 x5_1 ∧ v10 = .int .i64 x10_1 ∧ Aside0 (profile_At.l0 kq a1 x5_1 l0 (l0.length : Int) x10_1 = some r) ∧ Aside0 (kq ≤ k) ∧ Aside0 (Below w.heap.size w w'))
 case atStart => exact ⟨(0), (0), ez, ez, H', ⟨Nat.le_refl _⟩, ⟨mB HB.out⟩⟩
 case round =>
  clear H'
  (try clear c2); (try clear p2)
  obtain ⟨x5_1, x10_1, rfl, rfl, HA, HK1, HB⟩ := hrel
  cases gk with
  | zero => exact absurd HA.out (by simp [profile_At.l0])
  | succ k1 =>
   have H := HA.out
   clear HA
   simp only [profile_At.l0] at H
   by_cases c3 : x10_1 < (l0.length : Int)
   ·rw [if_pos c3] at H
    have c3b0 : decide (x10_1 < (l0.length : Int)) = true := decide_eq_true c3
    clear c3
    by_cases c4 : 0 ≤ x10_1
    ·rw [if_pos c4] at H
     have c4b0 : decide (0 ≤ x10_1) = true := decide_eq_true c4
     clear c4
     by_cases c5 : x10_1 < (l0.length : Int)
     ·rw [if_pos c5] at H
      have c5b0 : decide (x10_1 < (l0.length : Int)) = true := decide_eq_true c5
      clear c5
      by_cases c6 : ((rd_T40 l0 x10_1).f0) ≤ a1
      ·rw [if_pos c6] at H
       have c6b0 : decide (((rd_T40 l0 x10_1).f0) ≤ a1) = true := decide_eq_true c6
       clear c6
       have H' := Aside0.mk H
       clear H
       have p273 : 0 ≤ (x10_1 : Int) := oda
       have q273 : x10_1 < (l0.length : Int) := oda
       obtain ⟨ad273, e273, hx273_0, hx273_1⟩ := at_T40 HR0.out x10_1 p273 q273
       cases e273
       replace hx273_0 := (HB.out.cell (World.block_lt_of_cell? w _ hx273_0)).trans hx273_0
       replace hx273_1 := (HB.out.cell (World.block_lt_of_cell? w _ hx273_1)).trans hx273_1
       replace p273 := eq_true p273
       replace q273 := eq_true q273
       go_wp2_with (first | ((with_reducible refine gate_dst (N := 7) rfl ?_); refine box_event ?hg (N := 7) ?hd (cs := #[.int .i64 0, .int .i64 0]) (t := 40) ?hr ?_; (case hd => rfl); (case hg => rfl); (case hr => first | (go_simp; done) | (go_simp; rfl)); intro gb274 hg w7 hbox hb; have n0_ := Aside0.mk (below_step (mB HB.out) hb); have n1_ := Aside0.mk (hbox); have n2_ := Aside0.mk ((by rw [hg]; exact (below_size (mB HB.out)) : w.heap.size ≤ gb274)); have n3_ := Aside0.mk ((by rw [hg]; exact (below_size (mB HB.out)) : w.heap.size ≤ gb274)); clear HB; have HB := n0_; have BK274 := n1_; have GW274 := n2_; have GE274 := n3_; clear n0_ n1_ n2_ n3_; clear hb hbox hg; have hcz8_0 : w7.cell? ⟨gb274, 0, none⟩ = some (.int .i64 0) := (blk_cell BK274.out 0).trans rfl; have hcz8_1 : w7.cell? ⟨gb274, 1, none⟩ = some (.int .i64 0) := (blk_cell BK274.out 1).trans rfl; have hfz8_0 := blk_frozen BK274.out 0; have hfz8_1 := blk_frozen BK274.out 1))
       go_roundg k1
       case measure => have := HK1.out; omega
       case rel => exact ⟨((rd_T40 l0 x10_1).f1), (wrap64 (x10_1 + 1)), ez, ez, H', ⟨by have := HK1.out; omega⟩, ⟨mBs HB.out⟩⟩
      ·rw [if_neg c6] at H
       have c6b0 : decide (((rd_T40 l0 x10_1).f0) ≤ a1) = false := decide_eq_false c6
       clear c6
       have H' := Aside0.mk H
       clear H
       have p273 : 0 ≤ (x10_1 : Int) := oda
       have q273 : x10_1 < (l0.length : Int) := oda
       obtain ⟨ad273, e273, hx273_0, hx273_1⟩ := at_T40 HR0.out x10_1 p273 q273
       cases e273
       replace hx273_0 := (HB.out.cell (World.block_lt_of_cell? w _ hx273_0)).trans hx273_0
       replace hx273_1 := (HB.out.cell (World.block_lt_of_cell? w _ hx273_1)).trans hx273_1
       replace p273 := eq_true p273
       replace q273 := eq_true q273
       go_wp2_with (first | ((with_reducible refine gate_dst (N := 7) rfl ?_); refine box_event ?hg (N := 7) ?hd (cs := #[.int .i64 0, .int .i64 0]) (t := 40) ?hr ?_; (case hd => rfl); (case hg => rfl); (case hr => first | (go_simp; done) | (go_simp; rfl)); intro gb274 hg w9 hbox hb; have n0_ := Aside0.mk (below_step (mB HB.out) hb); have n1_ := Aside0.mk (hbox); have n2_ := Aside0.mk ((by rw [hg]; exact (below_size (mB HB.out)) : w.heap.size ≤ gb274)); have n3_ := Aside0.mk ((by rw [hg]; exact (below_size (mB HB.out)) : w.heap.size ≤ gb274)); clear HB; have HB := n0_; have BK274 := n1_; have GW274 := n2_; have GE274 := n3_; clear n0_ n1_ n2_ n3_; clear hb hbox hg; have hcz10_0 : w9.cell? ⟨gb274, 0, none⟩ = some (.int .i64 0) := (blk_cell BK274.out 0).trans rfl; have hcz10_1 : w9.cell? ⟨gb274, 1, none⟩ = some (.int .i64 0) := (blk_cell BK274.out 1).trans rfl; have hfz10_0 := blk_frozen BK274.out 0; have hfz10_1 := blk_frozen BK274.out 1))
       go_roundg k1
       case measure => have := HK1.out; omega
       case rel => exact ⟨(x5_1), (wrap64 (x10_1 + 1)), ez, ez, H', ⟨by have := HK1.out; omega⟩, ⟨mBs HB.out⟩⟩
     · exact absurd (of_decide_eq_true c3b0) c5
    ·rw [if_neg c4] at H
     exact absurd H (by simp)
   ·rw [if_neg c3] at H
    have c3b0 : decide (x10_1 < (l0.length : Int)) = false := decide_eq_false c3
    clear c3
    obtain rfl := Option.some.inj H
    go_wp2
    go_ret
    exact ⟨by first | rfl | (simp [errW_none, errW_some] <;> rfl) | (simp [*, errW_none, errW_some] <;> rfl), by repeat (first | (with_reducible first | exact HB.out | apply below_alloc | apply pw_below_drewN | apply below_drew1) | exact HB.out)⟩

end Go.Proofs.Ytedpoahndddgfaa.PAll
end
section
namespace Go.Proofs.Ytedpoahndddgfaa.PAll
open Go.RowKit Go.Proofs.YtedpoahndddgfaaW.PrintWords Go.Proofs.YtedpoahndddgfaaW.PrintLast Go.Proofs.YtedpoahndddgfaaW.PrintMore
attribute [local go_sem] max2_int min2_int max_two min_two max_three min_three max_four min_four   -- for this text's walks alone
set_option linter.unusedVariables false
set_option linter.unusedSimpArgs false

/-! ### prebendref16_At: function 21 -/
def prebendref16_At.l0 : Nat → List (S40) → Int → Int → Option (Int)
 | 0, _, _, _ => none
 | k + 1, x0, x1, x5 => if x5 ≥ 0 then (if 0 ≤ x5 then (if x5 < (x0.length : Int) then (if ((rd_T40 x0 x5).f0) ≤ x1 then (some ((rd_T40 x0 x5).f1)) else (prebendref16_At.l0 k x0 x1 (wrap64 (x5 - 1)))) else (none)) else (none)) else (some 0)
def prebendref16_At.f (k : Nat) (l0 : List (S40)) (a1 : Int) : Option (Int) := prebendref16_At.l0 k l0 a1 (wrap64 ((l0.length : Int) - 1))
theorem prebendref16_At.mono_l : ∀ k, (∀ y0 y1 y2, LeO (prebendref16_At.l0 k y0 y1 y2) (prebendref16_At.l0 (k + 1) y0 y1 y2))
 | 0 => fun _ _ _ r h => by simp [prebendref16_At.l0] at h
 | k + 1 => by
  have ih0 := prebendref16_At.mono_l k
  ·intro y0 y1 y2
   unfold prebendref16_At.l0
   repeat' first
   | (with_reducible exact ih0 _ _ _)
   | (with_reducible exact LeO.refl _)
   | (with_reducible exact LeO.none _)
   | (with_reducible refine LeO.ite ?_ ?_)
   | (with_reducible refine LeO.bind ?_ (fun _ => ?_))
   | exact ih0 _ _ _
   | exact LeO.none _
   | refine LeO.ite ?_ ?_
   | refine LeO.bind ?_ (fun _ => ?_)
theorem prebendref16_At.mono : ∀ a0 a1 k, LeO (prebendref16_At.f k a0 a1) (prebendref16_At.f (k + 1) a0 a1) := by
 intro a0 a1 k
 have ih0 := prebendref16_At.mono_l k
 unfold prebendref16_At.f
 repeat' first
   | (with_reducible exact ih0 _ _ _)
   | (with_reducible exact LeO.refl _)
   | (with_reducible exact LeO.none _)
   | (with_reducible refine LeO.ite ?_ ?_)
   | (with_reducible refine LeO.bind ?_ (fun _ => ?_))
   | exact ih0 _ _ _
   | exact LeO.none _
   | refine LeO.ite ?_ ?_
   | refine LeO.bind ?_ (fun _ => ?_)
set_option maxHeartbeats 8000000 in
set_option maxRecDepth 100000 in
theorem prebendref16_At.calls (k : Nat) (A0 : Option Addr) (c0 : Nat) (l0 : List (S40)) (a1 : Int) (r : Int) (w : World) (hr0 : Kd.C k40 w A0 l0.length l0) (hc0 : l0.length ≤ c0) (h : prebendref16_At.f k l0 a1 = some r) :
  Calls Try.prog 21 #[.slice A0 l0.length c0, .int .i64 a1] w fun e w' => e = .returned (.int .i64 r) ∧ Drawn0 w w' := by
 have HR0 := Aside0.mk hr0
 have HC0 := Aside0.mk hc0
 clear hr0; clear hc0
 have H : (prebendref16_At.l0 k l0 a1 (wrap64 ((l0.length : Int) - 1))) = some r := h
 clear h
 have H' := Aside0.mk H
 clear H
 go_enter Try.func21, Try.ntmps21
 go_wp2
 go_loopg [5] k (fun kq v5 w' => ∃ (x5_1 : Int), v5 = .int .i64 x5_1 ∧ Aside0 (prebendref16_At.l0 kq l0 a1 x5_1 = some r) ∧ Aside0 (kq ≤ k) ∧ Drawn0 w w')
 case atStart => exact ⟨(wrap64 ((l0.length : Int) - 1)), ez, H', ⟨Nat.le_refl _⟩, by repeat (first | exact Drawn0.refl _ | apply Drawn0.step)⟩
 case round =>
  clear H'
  (try clear c2); (try clear p2)
  obtain ⟨x5_1, rfl, HA, HK1, ⟨m1, rfl⟩⟩ := hrel
  cases gk with
  | zero => exact absurd HA.out (by simp [prebendref16_At.l0])
  | succ k1 =>
   have H := HA.out
   clear HA
   simp only [prebendref16_At.l0] at H
   by_cases c3 : x5_1 ≥ 0
   ·rw [if_pos c3] at H
    have c3b0 : decide (0 ≤ x5_1) = true := decide_eq_true c3
    clear c3
    by_cases c4 : 0 ≤ x5_1
    ·rw [if_pos c4] at H
     have c4b0 : decide (0 ≤ x5_1) = true := decide_eq_true c4
     clear c4
     by_cases c5 : x5_1 < (l0.length : Int)
     ·rw [if_pos c5] at H
      have c5b0 : decide (x5_1 < (l0.length : Int)) = true := decide_eq_true c5
      clear c5
      by_cases c6 : ((rd_T40 l0 x5_1).f0) ≤ a1
      ·rw [if_pos c6] at H
       have c6b0 : decide (((rd_T40 l0 x5_1).f0) ≤ a1) = true := decide_eq_true c6
       clear c6
       obtain rfl := Option.some.inj H
       have p275 : 0 ≤ (x5_1 : Int) := oda
       have q275 : x5_1 < (l0.length : Int) := oda
       obtain ⟨ad275, e275, hx275_0, hx275_1⟩ := at_T40 HR0.out x5_1 p275 q275
       cases e275
       replace p275 := eq_true p275
       replace q275 := eq_true q275
       have p276 : 0 ≤ (x5_1 : Int) := oda
       have q276 : x5_1 < (l0.length : Int) := oda
       obtain ⟨ad276, e276, hx276_0, hx276_1⟩ := at_T40 HR0.out x5_1 p276 q276
       obtain rfl : ad275 = ad276 := (by injection e276)
       replace p276 := eq_true p276
       replace q276 := eq_true q276
       go_wp2
       go_ret
       exact ⟨by first | rfl | (simp; done) | (simp [*]; done), by repeat (first | exact Drawn0.refl _ | apply Drawn0.step)⟩
      ·rw [if_neg c6] at H
       have c6b0 : decide (((rd_T40 l0 x5_1).f0) ≤ a1) = false := decide_eq_false c6
       clear c6
       have H' := Aside0.mk H
       clear H
       have p275 : 0 ≤ (x5_1 : Int) := oda
       have q275 : x5_1 < (l0.length : Int) := oda
       obtain ⟨ad275, e275, hx275_0, hx275_1⟩ := at_T40 HR0.out x5_1 p275 q275
       cases e275
       replace p275 := eq_true p275
       replace q275 := eq_true q275
       go_wp2
       go_roundg k1
       case measure => have := HK1.out; omega
       case rel => exact ⟨(wrap64 (x5_1 - 1)), ez, H', ⟨by have := HK1.out; omega⟩, by repeat (first | exact Drawn0.refl _ | apply Drawn0.step)⟩
     ·rw [if_neg c5] at H
      exact absurd H (by simp)
    · exact absurd (of_decide_eq_true c3b0) c4
   ·rw [if_neg c3] at H
    have c3b0 : decide (0 ≤ x5_1) = false := decide_eq_false c3
    clear c3
    obtain rfl := Option.some.inj H
    go_wp2
    go_ret
    exact ⟨by first | rfl | (simp; done) | (simp [*]; done), by repeat (first | exact Drawn0.refl _ | apply Drawn0.step)⟩

end Go.Proofs.Ytedpoahndddgfaa.PAll
end
section
namespace Go.Proofs.Ytedpoahndddgfaa.PAll
open Go.RowKit Go.Proofs.YtedpoahndddgfaaW.PrintWords Go.Proofs.YtedpoahndddgfaaW.PrintLast Go.Proofs.YtedpoahndddgfaaW.PrintMore
attribute [local go_sem] max2_int min2_int max_two min_two max_three min_three max_four min_four   -- for this text's walks alone
set_option linter.unusedVariables false
set_option linter.unusedSimpArgs false

/-! ### slices_Clone_Step: function 47 -/
def slices_Clone_Step.f (l0 : List (S40)) : Option ((List (S40))) := (some (([] : List (S40)) : List (S40))).bind fun y277 => (if y277.length + l0.length < 8796093022208 then (some (y277 ++ l0)) else (none))
set_option maxHeartbeats 8000000 in
set_option maxRecDepth 100000 in
theorem slices_Clone_Step.calls_some (ad0_ : Addr) (c0 : Nat) (l0 : List (S40)) (r : List (S40)) (w : World) (hr0 : Kd.C k40 w (some ad0_) l0.length l0) (hc0 : l0.length ≤ c0) (h : slices_Clone_Step.f l0 = some r) :
  Calls Try.prog 47 #[.slice (some ad0_) l0.length c0] w fun e w' => ∃ v0_ : Value, e = .returned (v0_) ∧ Kd.R k40 40 w' w.heap.size (fun _ => True) v0_ r ∧ Below w.heap.size w w' := by
 have HR0 := Aside0.mk hr0
 have HC0 := Aside0.mk hc0
 clear hr0; clear hc0
 have HB := Aside0.mk (Below.refl w.heap.size w)
 have H : ((some (([] : List (S40)) : List (S40))).bind fun y277 => (if y277.length + l0.length < 8796093022208 then (some (y277 ++ l0)) else (none))) = some r := h
 clear h
 obtain ⟨y277, hy277⟩ : ∃ y_ : List (S40), y_ = (([] : List (S40))) := ⟨_, rfl⟩
 replace H : (if y277.length + l0.length < 8796093022208 then (some (y277 ++ l0)) else (none)) = some r := mH hy277 H
 have Ny277 := Aside0.mk hy277
 clear hy277
 by_cases c2 : y277.length + l0.length < 8796093022208
 ·rw [if_pos c2] at H
  have LMc2 := Aside0.mk c2
  clear c2
  obtain ⟨y280, hy280⟩ : ∃ y_ : List (S40), y_ = (y277 ++ l0) := ⟨_, rfl⟩
  replace H : (some y280) = some r := mH hy280 H
  have Ny280 := Aside0.mk hy280
  clear hy280
  obtain rfl := Option.some.inj H
  have hnil_ := fun (W : World) => Lib.run_eql_slice_nil (P := Try.prog) W 25 40 (some ad0_) l0.length c0 0 0 Try.underlying25
  go_enter Try.func47, Try.ntmps47
  go_wp2_with (first | ((with_reducible refine gate_dst (N := 5) rfl ?_); refine Kd.R_lit k40 _ 40 ?hg (N := 5) ?hd (xs := ([] : List (S40))) (inner := []) (ok := fun _ => True) (okp := fun _ => True) ?hr ?hp (fun _ hk => hk) trivial (Below.refl _ _) (Nat.le_refl _) (by simp) ?_; (case hd => rfl); (case hg => rfl); (case hr => first | (go_simp; done) | (go_simp; rfl)); (case hp => exact (Reps.none _ _)); intro v278 w3 ho4 hb hg_ hnew_; clear hg_ hnew_; (first | rw [← Ny277.out] at ho4 | (simp only [Int.reduceToNat] at ho4; rw [← Ny277.out] at ho4)); have n0_ := Aside0.mk (Kd.R_lower ho4 (below_size (mB HB.out))); have n1_ := Aside0.mk (below_step (mB HB.out) hb); clear HB; have HO279 := n0_; have HB := n1_; clear n0_ n1_; clear hb ho4) | ((with_reducible refine gate_builtin (b := .append) (xs := #[.tmp 5, .tmp 6]) rfl ?_); at_builtin; refine Kd.R_append_rows k40 (w0 := w) w.heap.size rfl (.tmp 5) (.tmp 6) 25 40 (.agg #[(.int .i64 0), (.int .i64 0)]) 16 rfl Try.underlying25 info40 rfl (by decide) (by omega) v278 y277 l0 _ _ _ (fun _ => True) (fun _ => False) rfl rfl ?aO ?aR (fun _ _ h => h) (fun _ h => h.elim) ?aF ?aB ?aS ?aL ?_; (case aR => repeat (first | exact (Kd.C_below HR0.out HB.out) | (with_reducible refine Kd.C_alloc ?_ _) | (with_reducible refine Kd.C_drewN ?_ _) | (with_reducible refine Kd.C_drew ?_))); (case aB => exact (mB HB.out)); (case aF => exact (fun _ _ => trivial)); (case aO => exact (mR HO279.out)); (case aS => exact (below_size (mB HB.out))); (case aL => have := LMc2.out; omega); intro v281 w5 ho hb hg hat; rw [← Ny280.out] at ho; have n0_ := Aside0.mk (hb); have n1_ := Aside0.mk (ho); clear HB; clear HO279; have HB := n0_; have HO282 := n1_; clear n0_ n1_; clear ho hb hg hat))
  go_ret
  exact ⟨_, by first | rfl | (simp [errW_none, errW_some] <;> rfl) | (simp [*, errW_none, errW_some] <;> rfl), mR HO282.out, by repeat (first | (with_reducible first | exact HB.out | apply below_alloc | apply pw_below_drewN | apply below_drew1) | exact HB.out)⟩
 ·rw [if_neg c2] at H
  exact absurd H (by simp)

set_option maxHeartbeats 8000000 in
theorem slices_Clone_Step.calls (A0 : Option Addr) (c0 : Nat) (l0 : List (S40)) (r : List (S40)) (w : World) (hr0 : Kd.C k40 w A0 l0.length l0) (hc0 : l0.length ≤ c0) (h : slices_Clone_Step.f l0 = some r) :
  Calls Try.prog 47 #[.slice A0 l0.length c0] w fun e w' => ∃ v0_ : Value, e = .returned (v0_) ∧ Kd.R k40 40 w' w.heap.size (fun _ => True) v0_ r ∧ Below w.heap.size w w' := by
 cases A0 with
 | some ad0_ => exact slices_Clone_Step.calls_some ad0_ c0 l0 r w hr0 hc0 h
 | none =>
  have hl : l0 = [] := by
   cases l0 with
   | nil => rfl
   | cons x xs => obtain ⟨ad, he, _⟩ := hr0.2.2 (by simp); cases he
  subst hl
  have hr : r = [] := by
   simp [slices_Clone_Step.f] at h; first | exact h | exact h.symm
  subst hr
  have hnil_ := fun (W : World) => Lib.run_eql_slice_nil (P := Try.prog) W 25 40 none 0 c0 0 0 Try.underlying25
  clear hr0; clear hc0; clear h
  go_enter Try.func47, Try.ntmps47
  go_wp2
  go_ret
  exact ⟨_, rfl, Kd.R_nil _ _ _ _ _, Below.refl _ _⟩

end Go.Proofs.Ytedpoahndddgfaa.PAll
end
section
namespace Go.Proofs.Ytedpoahndddgfaa.PAll
open Go.RowKit Go.Proofs.YtedpoahndddgfaaW.PrintWords Go.Proofs.YtedpoahndddgfaaW.PrintLast Go.Proofs.YtedpoahndddgfaaW.PrintMore
attribute [local go_sem] max2_int min2_int max_two min_two max_three min_three max_four min_four   -- for this text's walks alone
set_option linter.unusedVariables false
set_option linter.unusedSimpArgs false

/-! ### profile_Take_1: function 49 -/
def profile_Take_1.f (a0_0 : Int) (a0_1 : Int) (a1_0 : Int) (a1_1 : Int) : Option (Int) := (cmp_Compare_int.f a0_0 a1_0).bind fun t285 => (some t285)
set_option maxHeartbeats 8000000 in
set_option maxRecDepth 100000 in
theorem profile_Take_1.calls (a0_0 : Int) (a0_1 : Int) (a1_0 : Int) (a1_1 : Int) (r : Int) (w : World) (h : profile_Take_1.f a0_0 a0_1 a1_0 a1_1 = some r) :
  Calls Try.prog 49 #[.agg #[.int .i64 a0_0, .int .i64 a0_1], .agg #[.int .i64 a1_0, .int .i64 a1_1]] w fun e w' => e = .returned (.int .i64 r) ∧ Below w.heap.size w w' := by
 have hu40 := Try.underlying40
 have HB := Aside0.mk (Below.refl w.heap.size w)
 have H : ((cmp_Compare_int.f a0_0 a1_0).bind fun t285 => (some t285)) = some r := h
 clear h
 replace H := Option.bind_eq_some_iff.mp H
 obtain ⟨t285, A30, H⟩ := H
 replace H : (some t285) = some r := H
 have A3 := Aside0.mk A30
 clear A30
 obtain rfl := Option.some.inj H
 go_enter Try.func49, Try.ntmps49
 go_wp2_with (first | ((with_reducible refine gate_dst (N := 2) rfl ?_); refine box_event ?hg (N := 2) ?hd (cs := #[.int .i64 a0_0, .int .i64 a0_1]) (t := 40) ?hr ?_; (case hd => rfl); (case hg => rfl); (case hr => first | (go_simp; done) | (go_simp; rfl)); intro gb283 hg w4 hbox hb; have n0_ := Aside0.mk (below_step (mB HB.out) hb); have n1_ := Aside0.mk (hbox); have n2_ := Aside0.mk ((by rw [hg]; exact (below_size (mB HB.out)) : w.heap.size ≤ gb283)); have n3_ := Aside0.mk ((by rw [hg]; exact (below_size (mB HB.out)) : w.heap.size ≤ gb283)); clear HB; have HB := n0_; have BK283 := n1_; have GW283 := n2_; have GE283 := n3_; clear n0_ n1_ n2_ n3_; clear hb hbox hg) | ((with_reducible refine gate_dst (N := 3) rfl ?_); refine box_event ?hg (N := 3) ?hd (cs := #[.int .i64 a1_0, .int .i64 a1_1]) (t := 40) ?hr ?_; (case hd => rfl); (case hg => rfl); (case hr => first | (go_simp; done) | (go_simp; rfl)); intro gb284 hg w5 hbox hb; have n0_ := Aside0.mk (blk_below (g := gb283) (o := .cells #[.int .i64 a0_0, .int .i64 a0_1] 40 (0, 0)) (mBK BK283.out) hb); have n1_ := Aside0.mk (below_step (mBs HB.out) hb); have n2_ := Aside0.mk (hbox); have n3_ := Aside0.mk ((by rw [hg]; exact (below_size (mBs HB.out)) : w.heap.size ≤ gb284)); have n4_ := Aside0.mk ((by rw [hg]; exact (below_size (mBs HB.out)) : w.heap.size ≤ gb284)); have n5_ := Aside0.mk ((by rw [hg]; exact Nat.ne_of_lt (blk_lt (g := gb283) (o := .cells #[.int .i64 a0_0, .int .i64 a0_1] 40 (0, 0)) (mBK BK283.out)) : gb283 ≠ gb284)); have n6_ := Aside0.mk ((by rw [hg]; exact Nat.ne_of_gt (blk_lt (g := gb283) (o := .cells #[.int .i64 a0_0, .int .i64 a0_1] 40 (0, 0)) (mBK BK283.out)) : gb284 ≠ gb283)); clear BK283; clear HB; have BK283 := n0_; have HB := n1_; have BK284 := n2_; have GW284 := n3_; have GE284 := n4_; have NB283_284 := n5_; have NB284_283 := n6_; clear n0_ n1_ n2_ n3_ n4_ n5_ n6_; clear hb hbox hg; have hnb6 := NB283_284.out; have hnc6 := NB284_283.out; have hcz7_0 : w5.cell? ⟨gb283, 0, none⟩ = some (.int .i64 a0_0) := (blk_cell BK283.out 0).trans rfl; have hcz7_1 : w5.cell? ⟨gb283, 1, none⟩ = some (.int .i64 a0_1) := (blk_cell BK283.out 1).trans rfl; have hfz7_0 := blk_frozen BK283.out 0; have hfz7_1 := blk_frozen BK283.out 1; have hcz8_0 : w5.cell? ⟨gb284, 0, none⟩ = some (.int .i64 a1_0) := (blk_cell BK284.out 0).trans rfl; have hcz8_1 : w5.cell? ⟨gb284, 1, none⟩ = some (.int .i64 a1_1) := (blk_cell BK284.out 1).trans rfl; have hfz8_0 := blk_frozen BK284.out 0; have hfz8_1 := blk_frozen BK284.out 1) | ((with_reducible refine gate_callee (f := 42) rfl ?_); refine goesL_ (some 9) rfl rfl Try.func42 (by kernel_rfl) rfl #[.int .i64 a0_0, .int .i64 a1_0] rfl mt ?_; (with_reducible refine (cmp_Compare_int.calls a0_0 a1_0 t285 _ A3.out).mono ?_); rintro e w' ⟨rfl, ⟨nd, rfl⟩⟩; refine ⟨_, rfl, ?_⟩))
 go_ret
 exact ⟨by first | rfl | (simp [errW_none, errW_some] <;> rfl) | (simp [*, errW_none, errW_some] <;> rfl), by repeat (first | (with_reducible first | exact HB.out | apply below_alloc | apply pw_below_drewN | apply below_drew1 | refine below_set ?_ GE283.out | refine below_set ?_ GE284.out) | exact HB.out)⟩

theorem cmp49 : Cmp40 49 Try.f49 := ⟨Try.func49, by kernel_rfl, rfl, profile_Take_1.calls⟩
end Go.Proofs.Ytedpoahndddgfaa.PAll
end
section
namespace Go.Proofs.Ytedpoahndddgfaa.PAll
open Go.RowKit Go.Proofs.YtedpoahndddgfaaW.PrintWords Go.Proofs.YtedpoahndddgfaaW.PrintLast Go.Proofs.YtedpoahndddgfaaW.PrintMore
attribute [local go_sem] max2_int min2_int max_two min_two max_three min_three max_four min_four   -- for this text's walks alone
set_option linter.unusedVariables false
set_option linter.unusedSimpArgs false

/-! ### profile_Take: function 22 -/
def profile_Take.l0 : Nat → Int → Int → Int → List (S40) → Int → Int → Option ((List (S40)))
 | 0, _, _, _, _, _, _ => none
 | k + 1, x3, x9, x10, x11, x50, x51 => if x51 < x50 then (if 0 ≤ x51 then (if x51 < (x11.length : Int) then (if ((rd_T40 x11 x51).f0) ≥ x9 then (if ((rd_T40 x11 x51).f0) < x10 then (profile_Take.l0 k x3 x9 x10 (x11.set (x51 : Int).toNat (⟨(rd_T40 x11 x51).f0, wrap64 (((rd_T40 x11 x51).f1) - x3)⟩ : S40)) x50 (wrap64 (x51 + 1))) else (profile_Take.l0 k x3 x9 x10 x11 x50 (wrap64 (x51 + 1)))) else (profile_Take.l0 k x3 x9 x10 x11 x50 (wrap64 (x51 + 1)))) else (none)) else (none)) else ((profile_tidy.f k x11).bind fun bt344 => (some bt344.1))
def profile_Take.f (k : Nat) (l0 : List (S40)) (a1 : Int) (a2 : Int) (a3 : Int) : Option ((List (S40))) := if (l0.length : Int) = 0 then (some ([] : List (S40))) else (if 0 < (l0.length : Int) then ((slices_Clone_Step.f l0).bind fun t328 => ((profile_At.f k l0 (mx a1 ((rd_T40 l0 0).f0))).bind fun t331 => ((profile_At.f k l0 (mx (wrap64 (a1 + (mx a2 0))) ((rd_T40 l0 0).f0))).bind fun t332 => ((some (([(⟨mx a1 ((rd_T40 l0 0).f0), t331⟩ : S40), (⟨mx (wrap64 (a1 + (mx a2 0))) ((rd_T40 l0 0).f0), t332⟩ : S40)] : List (S40)) : List (S40))).bind fun y333 => (if t328.length + y333.length < 8796093022208 then ((some (t328 ++ y333 : List (S40))).bind fun y336 => ((slices_SortStableFunc_Step__profile_tidy_1.f k y336).bind fun t339 => (profile_Take.l0 k a3 (mx a1 ((rd_T40 l0 0).f0)) (mx (wrap64 (a1 + (mx a2 0))) ((rd_T40 l0 0).f0)) t339 (y336.length : Int) 0))) else (none)))))) else (none))
theorem profile_Take.mono_l : ∀ k, (∀ y0 y1 y2 y3 y4 y5, LeO (profile_Take.l0 k y0 y1 y2 y3 y4 y5) (profile_Take.l0 (k + 1) y0 y1 y2 y3 y4 y5))
 | 0 => fun _ _ _ _ _ _ r h => by simp [profile_Take.l0] at h
 | k + 1 => by
  have ih0 := profile_Take.mono_l k
  ·intro y0 y1 y2 y3 y4 y5
   unfold profile_Take.l0
   repeat' first
   | (with_reducible exact ih0 _ _ _ _ _ _)
   | (with_reducible exact profile_At.mono _ _ _)
   | (with_reducible exact profile_tidy.mono _ _)
   | (with_reducible exact slices_SortStableFunc_Step__profile_tidy_1.mono _ _)
   | (with_reducible exact LeO.refl _)
   | (with_reducible exact LeO.none _)
   | (with_reducible refine LeO.ite ?_ ?_)
   | (with_reducible refine LeO.bind ?_ (fun _ => ?_))
   | exact ih0 _ _ _ _ _ _
   | exact profile_At.mono _ _ _
   | exact profile_tidy.mono _ _
   | exact slices_SortStableFunc_Step__profile_tidy_1.mono _ _
   | exact LeO.none _
   | refine LeO.ite ?_ ?_
   | refine LeO.bind ?_ (fun _ => ?_)
theorem profile_Take.mono : ∀ a0 a1 a2 a3 k, LeO (profile_Take.f k a0 a1 a2 a3) (profile_Take.f (k + 1) a0 a1 a2 a3) := by
 intro a0 a1 a2 a3 k
 have ih0 := profile_Take.mono_l k
 unfold profile_Take.f
 repeat' first
   | (with_reducible exact ih0 _ _ _ _ _ _)
   | (with_reducible exact profile_At.mono _ _ _)
   | (with_reducible exact profile_tidy.mono _ _)
   | (with_reducible exact slices_SortStableFunc_Step__profile_tidy_1.mono _ _)
   | (with_reducible exact LeO.refl _)
   | (with_reducible exact LeO.none _)
   | (with_reducible refine LeO.ite ?_ ?_)
   | (with_reducible refine LeO.bind ?_ (fun _ => ?_))
   | exact ih0 _ _ _ _ _ _
   | exact profile_At.mono _ _ _
   | exact profile_tidy.mono _ _
   | exact slices_SortStableFunc_Step__profile_tidy_1.mono _ _
   | exact LeO.none _
   | refine LeO.ite ?_ ?_
   | refine LeO.bind ?_ (fun _ => ?_)
set_option maxHeartbeats 8000000 in
set_option maxRecDepth 100000 in
theorem profile_Take.calls (k : Nat) (A0 : Option Addr) (c0 : Nat) (l0 : List (S40)) (a1 : Int) (a2 : Int) (a3 : Int) (r : List (S40)) (w : World) (hr0 : Kd.C k40 w A0 l0.length l0) (hc0 : l0.length ≤ c0) (h : profile_Take.f k l0 a1 a2 a3 = some r) :
  Calls Try.prog 22 #[.slice A0 l0.length c0, .int .i64 a1, .int .i64 a2, .int .i64 a3] w fun e w' => ∃ v0_ : Value, e = .returned (v0_) ∧ Kd.V k40 40 w' w.heap.size (fun k_ => (w.heap.size ≤ k_)) v0_ r ∧ Below w.heap.size w w' := by
 have hu40 := Try.underlying40
 have HR0 := Aside0.mk hr0
 have HC0 := Aside0.mk hc0
 clear hr0; clear hc0
 have HB := Aside0.mk (Below.refl w.heap.size w)
 have H : (if (l0.length : Int) = 0 then (some ([] : List (S40))) else (if 0 < (l0.length : Int) then ((slices_Clone_Step.f l0).bind fun t328 => ((profile_At.f k l0 (mx a1 ((rd_T40 l0 0).f0))).bind fun t331 => ((profile_At.f k l0 (mx (wrap64 (a1 + (mx a2 0))) ((rd_T40 l0 0).f0))).bind fun t332 => ((some (([(⟨mx a1 ((rd_T40 l0 0).f0), t331⟩ : S40), (⟨mx (wrap64 (a1 + (mx a2 0))) ((rd_T40 l0 0).f0), t332⟩ : S40)] : List (S40)) : List (S40))).bind fun y333 => (if t328.length + y333.length < 8796093022208 then ((some (t328 ++ y333 : List (S40))).bind fun y336 => ((slices_SortStableFunc_Step__profile_tidy_1.f k y336).bind fun t339 => (profile_Take.l0 k a3 (mx a1 ((rd_T40 l0 0).f0)) (mx (wrap64 (a1 + (mx a2 0))) ((rd_T40 l0 0).f0)) t339 (y336.length : Int) 0))) else (none)))))) else (none))) = some r := h
 clear h
 by_cases c5 : (l0.length : Int) = 0
 ·rw [if_pos c5] at H
  have c5b0 : ((l0.length : Int) == 0) = true := beq_iff_eq.mpr c5
  have c5b1 : ((l0.length : Int) != 0) = false := bne_eq_false_iff_eq.mpr c5
  clear c5
  obtain rfl := Option.some.inj H
  go_enter Try.func22, Try.ntmps22
  go_wp2
  repeat (go_quiet (fail); try go_wp2)
  go_ret
  exact ⟨_, by first | rfl | (simp [errW_none, errW_some] <;> rfl) | (simp [*, errW_none, errW_some] <;> rfl), Kd.R_V (by first | exact Kd.R_nil _ _ _ 0 _ | exact Kd.R_nil _ _ _ _ _ | exact Kd.N_nil _ _ _ _ _ | exact Kd.V_nil _ _ _ _ _ | exact Kd.Q_nil _ _ _ _ _ | exact Kd.S_nil _ _ _ _ _), by repeat (first | (with_reducible first | exact HB.out | apply below_alloc | apply pw_below_drewN | apply below_drew1) | exact HB.out)⟩
 ·rw [if_neg c5] at H
  have c5b0 : ((l0.length : Int) == 0) = false := beq_eq_false_iff_ne.mpr c5
  have c5b1 : ((l0.length : Int) != 0) = true := bne_iff_ne.mpr c5
  have c5b2 : ¬ (l0 = []) := fun h_ => c5 (by rw [h_]; rfl)
  by_cases c6 : 0 < (l0.length : Int)
  ·rw [if_pos c6] at H
   have c6b0 : decide (0 < (l0.length : Int)) = true := decide_eq_true c6
   have c6b1 : decide (0 < l0.length) = true := decide_eq_true (by omega)
   clear c6
   obtain ⟨ji7, hji7⟩ : ∃ j_ : Int, (mx a1 ((rd_T40 l0 0).f0)) = j_ := ⟨_, rfl⟩
   replace H : ((slices_Clone_Step.f l0).bind fun t328 => ((profile_At.f k l0 (ji7)).bind fun t331 => ((profile_At.f k l0 (mx (wrap64 (a1 + (mx a2 0))) ((rd_T40 l0 0).f0))).bind fun t332 => ((some (([(⟨ji7, t331⟩ : S40), (⟨mx (wrap64 (a1 + (mx a2 0))) ((rd_T40 l0 0).f0), t332⟩ : S40)] : List (S40)) : List (S40))).bind fun y333 => (if t328.length + y333.length < 8796093022208 then ((some (t328 ++ y333 : List (S40))).bind fun y336 => ((slices_SortStableFunc_Step__profile_tidy_1.f k y336).bind fun t339 => (profile_Take.l0 k a3 ji7 (mx (wrap64 (a1 + (mx a2 0))) ((rd_T40 l0 0).f0)) t339 (y336.length : Int) 0))) else (none)))))) = some r := by first | (rw [hji7] at H; exact H) | (simp only [hji7] at H ⊢; exact H)
   have hji7_ : (if a1 < ((rd_T40 l0 0).f0) then ((rd_T40 l0 0).f0) else a1) = ji7 := hji7
   obtain ⟨ji8, hji8⟩ : ∃ j_ : Int, (mx a2 0) = j_ := ⟨_, rfl⟩
   replace H : ((slices_Clone_Step.f l0).bind fun t328 => ((profile_At.f k l0 (ji7)).bind fun t331 => ((profile_At.f k l0 (mx (wrap64 (a1 + (ji8))) ((rd_T40 l0 0).f0))).bind fun t332 => ((some (([(⟨ji7, t331⟩ : S40), (⟨mx (wrap64 (a1 + (ji8))) ((rd_T40 l0 0).f0), t332⟩ : S40)] : List (S40)) : List (S40))).bind fun y333 => (if t328.length + y333.length < 8796093022208 then ((some (t328 ++ y333 : List (S40))).bind fun y336 => ((slices_SortStableFunc_Step__profile_tidy_1.f k y336).bind fun t339 => (profile_Take.l0 k a3 ji7 (mx (wrap64 (a1 + (ji8))) ((rd_T40 l0 0).f0)) t339 (y336.length : Int) 0))) else (none)))))) = some r := by first | (rw [hji8] at H; exact H) | (simp only [hji8] at H ⊢; exact H)
   (try (have hji8l : 0 ≤ ji8 := by (rw [← hji8]; unfold mx; (repeat' split) <;> omega)))
   (try (have hji8m : 0 ≤ ji8 := by omega))
   have hji8_ : (if a2 < 0 then 0 else a2) = ji8 := hji8
   obtain ⟨ji9, hji9⟩ : ∃ j_ : Int, (mx (wrap64 (a1 + (ji8))) ((rd_T40 l0 0).f0)) = j_ := ⟨_, rfl⟩
   replace H : ((slices_Clone_Step.f l0).bind fun t328 => ((profile_At.f k l0 (ji7)).bind fun t331 => ((profile_At.f k l0 (ji9)).bind fun t332 => ((some (([(⟨ji7, t331⟩ : S40), (⟨ji9, t332⟩ : S40)] : List (S40)) : List (S40))).bind fun y333 => (if t328.length + y333.length < 8796093022208 then ((some (t328 ++ y333 : List (S40))).bind fun y336 => ((slices_SortStableFunc_Step__profile_tidy_1.f k y336).bind fun t339 => (profile_Take.l0 k a3 ji7 ji9 t339 (y336.length : Int) 0))) else (none)))))) = some r := by first | (rw [hji9] at H; exact H) | (simp only [hji9] at H ⊢; exact H)
   have hji9_ : (if (wrap64 (a1 + (ji8))) < ((rd_T40 l0 0).f0) then ((rd_T40 l0 0).f0) else (wrap64 (a1 + (ji8)))) = ji9 := hji9
   replace H := Option.bind_eq_some_iff.mp H
   obtain ⟨t328, A100, H⟩ := H
   replace H : ((profile_At.f k l0 (ji7)).bind fun t331 => ((profile_At.f k l0 (ji9)).bind fun t332 => ((some (([(⟨ji7, t331⟩ : S40), (⟨ji9, t332⟩ : S40)] : List (S40)) : List (S40))).bind fun y333 => (if t328.length + y333.length < 8796093022208 then ((some (t328 ++ y333 : List (S40))).bind fun y336 => ((slices_SortStableFunc_Step__profile_tidy_1.f k y336).bind fun t339 => (profile_Take.l0 k a3 ji7 ji9 t339 (y336.length : Int) 0))) else (none))))) = some r := H
   have A10 := Aside0.mk A100
   clear A100
   replace H := Option.bind_eq_some_iff.mp H
   obtain ⟨t331, A110, H⟩ := H
   replace H : ((profile_At.f k l0 (ji9)).bind fun t332 => ((some (([(⟨ji7, t331⟩ : S40), (⟨ji9, t332⟩ : S40)] : List (S40)) : List (S40))).bind fun y333 => (if t328.length + y333.length < 8796093022208 then ((some (t328 ++ y333 : List (S40))).bind fun y336 => ((slices_SortStableFunc_Step__profile_tidy_1.f k y336).bind fun t339 => (profile_Take.l0 k a3 ji7 ji9 t339 (y336.length : Int) 0))) else (none)))) = some r := H
   have A11 := Aside0.mk A110
   clear A110
   replace H := Option.bind_eq_some_iff.mp H
   obtain ⟨t332, A120, H⟩ := H
   replace H : ((some (([(⟨ji7, t331⟩ : S40), (⟨ji9, t332⟩ : S40)] : List (S40)) : List (S40))).bind fun y333 => (if t328.length + y333.length < 8796093022208 then ((some (t328 ++ y333 : List (S40))).bind fun y336 => ((slices_SortStableFunc_Step__profile_tidy_1.f k y336).bind fun t339 => (profile_Take.l0 k a3 ji7 ji9 t339 (y336.length : Int) 0))) else (none))) = some r := H
   have A12 := Aside0.mk A120
   clear A120
   obtain ⟨y333, hy333⟩ : ∃ y_ : List (S40), y_ = (([(⟨ji7, t331⟩ : S40), (⟨ji9, t332⟩ : S40)] : List (S40))) := ⟨_, rfl⟩
   replace H : (if t328.length + y333.length < 8796093022208 then ((some (t328 ++ y333 : List (S40))).bind fun y336 => ((slices_SortStableFunc_Step__profile_tidy_1.f k y336).bind fun t339 => (profile_Take.l0 k a3 ji7 ji9 t339 (y336.length : Int) 0))) else (none)) = some r := mH hy333 H
   have Ny333 := Aside0.mk hy333
   clear hy333
   by_cases c13 : t328.length + y333.length < 8796093022208
   ·rw [if_pos c13] at H
    have LMc13 := Aside0.mk c13
    clear c13
    obtain ⟨y336, hy336⟩ : ∃ y_ : List (S40), y_ = (t328 ++ y333) := ⟨_, rfl⟩
    replace H : ((slices_SortStableFunc_Step__profile_tidy_1.f k y336).bind fun t339 => (profile_Take.l0 k a3 ji7 ji9 t339 (y336.length : Int) 0)) = some r := mH hy336 H
    have Ny336 := Aside0.mk hy336
    clear hy336
    replace H := Option.bind_eq_some_iff.mp H
    obtain ⟨t339, A140, H⟩ := H
    replace H : (profile_Take.l0 k a3 ji7 ji9 t339 (y336.length : Int) 0) = some r := H
    have A14 := Aside0.mk A140
    clear A140
    have H' := Aside0.mk H
    clear H
    have p326 : 0 ≤ (0 : Int) := (by omega)
    have q326 : 0 < (l0.length : Int) := oda
    obtain ⟨ad326, e326, hx326_0, hx326_1⟩ := at_T40 HR0.out 0 p326 q326
    cases e326
    have qi326 : (0 < l0.length) = True := eq_true (by omega)
    (try rw [show ((0 : Int)).toNat = 0 from rfl] at hx326_0)
    (try rw [show 0 * 2 = 0 from rfl] at hx326_0)
    (try rw [Addr.add_zero'] at hx326_0)
    (try rw [show ((0 : Int)).toNat = 0 from rfl] at hx326_1)
    (try rw [show 0 * 2 = 0 from rfl] at hx326_1)
    (try rw [Addr.add_zero'] at hx326_1)
    replace p326 := eq_true p326
    replace q326 := eq_true q326
    have p327 : 0 ≤ (0 : Int) := (by omega)
    have q327 : 0 < (l0.length : Int) := oda
    obtain ⟨ad327, e327, hx327_0, hx327_1⟩ := at_T40 HR0.out 0 p327 q327
    obtain rfl : ad326 = ad327 := (by injection e327)
    have qi327 : (0 < l0.length) = True := eq_true (by omega)
    (try rw [show ((0 : Int)).toNat = 0 from rfl] at hx327_0)
    (try rw [show 0 * 2 = 0 from rfl] at hx327_0)
    (try rw [Addr.add_zero'] at hx327_0)
    (try rw [show ((0 : Int)).toNat = 0 from rfl] at hx327_1)
    (try rw [show 0 * 2 = 0 from rfl] at hx327_1)
    (try rw [Addr.add_zero'] at hx327_1)
    replace p327 := eq_true p327
    replace q327 := eq_true q327
    go_enter Try.func22, Try.ntmps22
    go_wp2_with (first | (go_at_call 47; (with_reducible refine (slices_Clone_Step.calls _ _ l0 t328 _ ?side1 ?side2 A10.out).mono ?_); (case side1 => exact mC HR0.out); (case side2 => exact HC0.out); rintro e w15 ⟨v329, rfl, ho0, hb⟩; have n0_ := Aside0.mk (Kd.R_lower (Kd.R_newM (M := fun k_ => (w.heap.size ≤ k_)) ho0 (below_size (mB HB.out)) (fun k_ h_ => h_)) (below_size (mB HB.out))); have n1_ := Aside0.mk (below_step (mB HB.out) hb); clear HB; have HO330 := n0_; have HB := n1_; clear n0_ n1_; (try clear hb); (try clear hb2); (try clear hk); (try clear hi); (try clear ho0)) | (go_at_call 20; (with_reducible refine (profile_At.calls k _ _ l0 ji7 t331 _ ?side1 ?side2 A11.out).mono ?_); (case side1 => repeat (first | exact (Kd.C_below HR0.out HB.out) | (with_reducible refine Kd.C_alloc ?_ _) | (with_reducible refine Kd.C_drewN ?_ _) | (with_reducible refine Kd.C_drew ?_))); (case side2 => exact HC0.out); rintro e w16 ⟨rfl, hb⟩; have n0_ := Aside0.mk (Kd.R_below (mR HO330.out) hb); have n1_ := Aside0.mk (below_step (mB HB.out) hb); clear HO330; clear HB; have HO330 := n0_; have HB := n1_; clear n0_ n1_; (try clear hb); (try clear hb2); (try clear hk); (try clear hi)) | (go_at_call 20; (with_reducible refine (profile_At.calls k _ _ l0 ji9 t332 _ ?side1 ?side2 A12.out).mono ?_); (case side1 => repeat (first | exact (Kd.C_below HR0.out HB.out) | (with_reducible refine Kd.C_alloc ?_ _) | (with_reducible refine Kd.C_drewN ?_ _) | (with_reducible refine Kd.C_drew ?_))); (case side2 => exact HC0.out); rintro e w17 ⟨rfl, hb⟩; have n0_ := Aside0.mk (Kd.R_below (mR HO330.out) hb); have n1_ := Aside0.mk (below_step (mB HB.out) hb); clear HO330; clear HB; have HO330 := n0_; have HB := n1_; clear n0_ n1_; (try clear hb); (try clear hb2); (try clear hk); (try clear hi)) | ((with_reducible refine gate_dst (N := 45) rfl ?_); refine Kd.R_lit k40 _ 40 ?hg (N := 45) ?hd (xs := ([(⟨ji7, t331⟩ : S40), (⟨ji9, t332⟩ : S40)] : List (S40))) (inner := [.int .i64 ji7, .int .i64 t331, .int .i64 ji9, .int .i64 t332]) (ok := fun _ => True) (okp := fun _ => True) ?hr ?hp (fun _ hk => hk) trivial (Below.refl _ _) (Nat.le_refl _) (by simp) ?_; (case hd => rfl); (case hg => rfl); (case hr => first | (go_simp; done) | (go_simp; rfl)); (case hp => exact (Reps.c2 (show Kd.M k40 _ _ _ (⟨ji7, t331⟩ : S40) [.int .i64 ji7, .int .i64 t331] from (k40_mkM _ _ _ (⟨ji7, t331⟩ : S40) )) (Reps.c2 (show Kd.M k40 _ _ _ (⟨ji9, t332⟩ : S40) [.int .i64 ji9, .int .i64 t332] from (k40_mkM _ _ _ (⟨ji9, t332⟩ : S40) )) (Reps.none _ _)))); intro v334 w18 ho19 hb hg_ hnew_; clear hg_ hnew_; (first | rw [← Ny333.out] at ho19 | (simp only [Int.reduceToNat] at ho19; rw [← Ny333.out] at ho19)); have n0_ := Aside0.mk (Kd.R_elder' (mR HO330.out) (Kd.R_base ho19) hb); have n1_ := Aside0.mk (Kd.R_lower (Kd.R_new' (Kd.R_newM (M := fun k_ => (w.heap.size ≤ k_)) ho19 (below_size (mB HB.out)) (fun k_ h_ => h_)) (Kd.R_lt (mR HO330.out))) (below_size (mB HB.out))); have n2_ := Aside0.mk (below_step (mB HB.out) hb); clear HO330; clear HB; have HO330 := n0_; have HO335 := n1_; have HB := n2_; clear n0_ n1_ n2_; clear hb ho19; obtain ⟨Ao21, co21, eo21⟩ := Kd.R_slice HO335.out; subst eo21) | ((with_reducible refine gate_builtin (b := .append) (xs := #[.tmp 34, .tmp 45]) rfl ?_); at_builtin; refine Kd.R_append_rows k40 (w0 := w) w.heap.size rfl (.tmp 34) (.tmp 45) 25 40 (.agg #[(.int .i64 0), (.int .i64 0)]) 16 rfl Try.underlying25 info40 rfl (by decide) (by omega) v329 t328 y333 _ _ _ (fun k_ => (w.heap.size ≤ k_) ∧ some k_ ≠ (.slice Ao21 y333.length co21 : Value).ownBlock) (fun _ => False) rfl rfl ?aO ?aR (fun _ _ h => h) (fun _ h => h.elim) ?aF ?aB ?aS ?aL ?_; (case aR => repeat (first | exact (Kd.R_reads' HO335.out).2.2 | (with_reducible refine Kd.C_alloc ?_ _) | (with_reducible refine Kd.C_drewN ?_ _) | (with_reducible refine Kd.C_drew ?_))); (case aB => exact (mB HB.out)); (case aF => exact (fun k_ hk => ⟨(Nat.le_trans (below_size (mB HB.out)) hk), Kd.fresh' (Kd.R_lt (mR HO335.out)) k_ hk⟩)); (case aO => exact (by (with_reducible repeat (first | apply Kd.R_alloc | apply Kd.R_drewN | apply Kd.R_drew)); exact Kd.R_mono HO330.out (fun _ hk => ⟨hk.1.1, hk.2⟩))); (case aS => exact (below_size (mB HB.out))); (case aL => have := LMc13.out; omega); intro v337 w20 ho hb hg hat; rw [← Ny336.out] at ho; have n0_ := Aside0.mk (Kd.R_after (ok := (fun k_ => (w.heap.size ≤ k_))) (by (with_reducible repeat (first | apply Kd.R_alloc | apply Kd.R_drewN | apply Kd.R_drew)); exact Kd.R_mono HO335.out (fun _ hk => ⟨hk.1.1, hk.2⟩)) hg hat); have n1_ := Aside0.mk (hb); have n2_ := Aside0.mk (ho); clear HO335; clear HB; clear HO330; have HO335 := n0_; have HB := n1_; have HO338 := n2_; clear n0_ n1_ n2_; clear ho hb hg hat; obtain ⟨Ao22, co22, eo22⟩ := Kd.R_slice HO338.out; subst eo22) | (go_at_call 48; (with_reducible refine (slices_SortStableFunc_Step__profile_tidy_1.calls cmp49 k (fun k_ => some k_ = (.slice Ao22 y336.length co22 : Value).ownBlock) (.slice Ao22 y336.length co22) y336  t339 w _ ?side1 ?side2 A14.out).mono ?_); (case side1 => repeat (first | (with_reducible first | exact HB.out | apply below_alloc | apply pw_below_drewN | apply below_drew1) | exact HB.out)); (case side2 => exact Kd.R_tight rfl HO338.out); rintro e w23 ⟨rfl, hy0, hb, hkp⟩; have n0_ := Aside0.mk (Kd.R_mono (ok' := fun k_ => (w.heap.size ≤ k_) ∧ some k_ ≠ (.slice Ao22 y336.length co22 : Value).ownBlock) (Kd.R_keptB (HO335.out) hkp (fun k_ hk_ hs_ => (hk_.2) hs_)) (fun k_ hk_ => ⟨hk_.1.1, hk_.1.2⟩)); have n1_ := Aside0.mk (Kd.R_reok rfl hy0 (fun k_ e_ => HO338.out.1 k_ e_)); have n2_ := Aside0.mk (hb); clear HO335; clear HO338; clear HB; have HO335 := n0_; have HO338 := n1_; have HB := n2_; clear n0_ n1_ n2_; (try clear hb); (try clear hkp); (try clear hy0)))
    repeat (go_quiet (fail); try go_wp2_with (first | (go_at_call 47; (with_reducible refine (slices_Clone_Step.calls _ _ l0 t328 _ ?side1 ?side2 A10.out).mono ?_); (case side1 => exact mC HR0.out); (case side2 => exact HC0.out); rintro e w15 ⟨v329, rfl, ho0, hb⟩; have n0_ := Aside0.mk (Kd.R_lower (Kd.R_newM (M := fun k_ => (w.heap.size ≤ k_)) ho0 (below_size (mB HB.out)) (fun k_ h_ => h_)) (below_size (mB HB.out))); have n1_ := Aside0.mk (below_step (mB HB.out) hb); clear HB; have HO330 := n0_; have HB := n1_; clear n0_ n1_; (try clear hb); (try clear hb2); (try clear hk); (try clear hi); (try clear ho0)) | (go_at_call 20; (with_reducible refine (profile_At.calls k _ _ l0 ji7 t331 _ ?side1 ?side2 A11.out).mono ?_); (case side1 => repeat (first | exact (Kd.C_below HR0.out HB.out) | (with_reducible refine Kd.C_alloc ?_ _) | (with_reducible refine Kd.C_drewN ?_ _) | (with_reducible refine Kd.C_drew ?_))); (case side2 => exact HC0.out); rintro e w16 ⟨rfl, hb⟩; have n0_ := Aside0.mk (Kd.R_below (mR HO330.out) hb); have n1_ := Aside0.mk (below_step (mB HB.out) hb); clear HO330; clear HB; have HO330 := n0_; have HB := n1_; clear n0_ n1_; (try clear hb); (try clear hb2); (try clear hk); (try clear hi)) | (go_at_call 20; (with_reducible refine (profile_At.calls k _ _ l0 ji9 t332 _ ?side1 ?side2 A12.out).mono ?_); (case side1 => repeat (first | exact (Kd.C_below HR0.out HB.out) | (with_reducible refine Kd.C_alloc ?_ _) | (with_reducible refine Kd.C_drewN ?_ _) | (with_reducible refine Kd.C_drew ?_))); (case side2 => exact HC0.out); rintro e w17 ⟨rfl, hb⟩; have n0_ := Aside0.mk (Kd.R_below (mR HO330.out) hb); have n1_ := Aside0.mk (below_step (mB HB.out) hb); clear HO330; clear HB; have HO330 := n0_; have HB := n1_; clear n0_ n1_; (try clear hb); (try clear hb2); (try clear hk); (try clear hi)) | ((with_reducible refine gate_dst (N := 45) rfl ?_); refine Kd.R_lit k40 _ 40 ?hg (N := 45) ?hd (xs := ([(⟨ji7, t331⟩ : S40), (⟨ji9, t332⟩ : S40)] : List (S40))) (inner := [.int .i64 ji7, .int .i64 t331, .int .i64 ji9, .int .i64 t332]) (ok := fun _ => True) (okp := fun _ => True) ?hr ?hp (fun _ hk => hk) trivial (Below.refl _ _) (Nat.le_refl _) (by simp) ?_; (case hd => rfl); (case hg => rfl); (case hr => first | (go_simp; done) | (go_simp; rfl)); (case hp => exact (Reps.c2 (show Kd.M k40 _ _ _ (⟨ji7, t331⟩ : S40) [.int .i64 ji7, .int .i64 t331] from (k40_mkM _ _ _ (⟨ji7, t331⟩ : S40) )) (Reps.c2 (show Kd.M k40 _ _ _ (⟨ji9, t332⟩ : S40) [.int .i64 ji9, .int .i64 t332] from (k40_mkM _ _ _ (⟨ji9, t332⟩ : S40) )) (Reps.none _ _)))); intro v334 w18 ho19 hb hg_ hnew_; clear hg_ hnew_; (first | rw [← Ny333.out] at ho19 | (simp only [Int.reduceToNat] at ho19; rw [← Ny333.out] at ho19)); have n0_ := Aside0.mk (Kd.R_elder' (mR HO330.out) (Kd.R_base ho19) hb); have n1_ := Aside0.mk (Kd.R_lower (Kd.R_new' (Kd.R_newM (M := fun k_ => (w.heap.size ≤ k_)) ho19 (below_size (mB HB.out)) (fun k_ h_ => h_)) (Kd.R_lt (mR HO330.out))) (below_size (mB HB.out))); have n2_ := Aside0.mk (below_step (mB HB.out) hb); clear HO330; clear HB; have HO330 := n0_; have HO335 := n1_; have HB := n2_; clear n0_ n1_ n2_; clear hb ho19; obtain ⟨Ao21, co21, eo21⟩ := Kd.R_slice HO335.out; subst eo21) | ((with_reducible refine gate_builtin (b := .append) (xs := #[.tmp 34, .tmp 45]) rfl ?_); at_builtin; refine Kd.R_append_rows k40 (w0 := w) w.heap.size rfl (.tmp 34) (.tmp 45) 25 40 (.agg #[(.int .i64 0), (.int .i64 0)]) 16 rfl Try.underlying25 info40 rfl (by decide) (by omega) v329 t328 y333 _ _ _ (fun k_ => (w.heap.size ≤ k_) ∧ some k_ ≠ (.slice Ao21 y333.length co21 : Value).ownBlock) (fun _ => False) rfl rfl ?aO ?aR (fun _ _ h => h) (fun _ h => h.elim) ?aF ?aB ?aS ?aL ?_; (case aR => repeat (first | exact (Kd.R_reads' HO335.out).2.2 | (with_reducible refine Kd.C_alloc ?_ _) | (with_reducible refine Kd.C_drewN ?_ _) | (with_reducible refine Kd.C_drew ?_))); (case aB => exact (mB HB.out)); (case aF => exact (fun k_ hk => ⟨(Nat.le_trans (below_size (mB HB.out)) hk), Kd.fresh' (Kd.R_lt (mR HO335.out)) k_ hk⟩)); (case aO => exact (by (with_reducible repeat (first | apply Kd.R_alloc | apply Kd.R_drewN | apply Kd.R_drew)); exact Kd.R_mono HO330.out (fun _ hk => ⟨hk.1.1, hk.2⟩))); (case aS => exact (below_size (mB HB.out))); (case aL => have := LMc13.out; omega); intro v337 w20 ho hb hg hat; rw [← Ny336.out] at ho; have n0_ := Aside0.mk (Kd.R_after (ok := (fun k_ => (w.heap.size ≤ k_))) (by (with_reducible repeat (first | apply Kd.R_alloc | apply Kd.R_drewN | apply Kd.R_drew)); exact Kd.R_mono HO335.out (fun _ hk => ⟨hk.1.1, hk.2⟩)) hg hat); have n1_ := Aside0.mk (hb); have n2_ := Aside0.mk (ho); clear HO335; clear HB; clear HO330; have HO335 := n0_; have HB := n1_; have HO338 := n2_; clear n0_ n1_ n2_; clear ho hb hg hat; obtain ⟨Ao22, co22, eo22⟩ := Kd.R_slice HO338.out; subst eo22) | (go_at_call 48; (with_reducible refine (slices_SortStableFunc_Step__profile_tidy_1.calls cmp49 k (fun k_ => some k_ = (.slice Ao22 y336.length co22 : Value).ownBlock) (.slice Ao22 y336.length co22) y336  t339 w _ ?side1 ?side2 A14.out).mono ?_); (case side1 => repeat (first | (with_reducible first | exact HB.out | apply below_alloc | apply pw_below_drewN | apply below_drew1) | exact HB.out)); (case side2 => exact Kd.R_tight rfl HO338.out); rintro e w23 ⟨rfl, hy0, hb, hkp⟩; have n0_ := Aside0.mk (Kd.R_mono (ok' := fun k_ => (w.heap.size ≤ k_) ∧ some k_ ≠ (.slice Ao22 y336.length co22 : Value).ownBlock) (Kd.R_keptB (HO335.out) hkp (fun k_ hk_ hs_ => (hk_.2) hs_)) (fun k_ hk_ => ⟨hk_.1.1, hk_.1.2⟩)); have n1_ := Aside0.mk (Kd.R_reok rfl hy0 (fun k_ e_ => HO338.out.1 k_ e_)); have n2_ := Aside0.mk (hb); clear HO335; clear HO338; clear HB; have HO335 := n0_; have HO338 := n1_; have HB := n2_; clear n0_ n1_ n2_; (try clear hb); (try clear hkp); (try clear hy0))))
    go_loopg [51] k (fun kq v51 w' => ∃ (x11_1 : List (S40)) (x51_1 : Int), v51 = .int .i64 x51_1 ∧ Aside0 (profile_Take.l0 kq a3 ji7 ji9 x11_1 (y336.length : Int) x51_1 = some r) ∧ Aside0 (kq ≤ k) ∧ Aside0 (Kd.R k40 40 w' w.heap.size (fun k_ => (w.heap.size ≤ k_)) (.slice Ao22 y336.length co22) x11_1) ∧ Aside0 (Below w.heap.size w w'))
    case atStart => exact ⟨(t339), (0), ez, H', ⟨Nat.le_refl _⟩, ⟨by (with_reducible repeat (first | apply Kd.R_alloc | apply Kd.R_drewN | apply Kd.R_drew)); exact Kd.R_mono HO338.out (fun _ hk => hk.1)⟩, ⟨mB HB.out⟩⟩
    case round =>
     clear H'
     (try clear c1); (try clear c2); (try clear p2); (try clear p3); (try clear q3); (try clear hx3); (try clear qi3); (try clear c5); (try clear c5b0); (try clear c5b1); (try clear c5b2); (try clear c6); (try clear c6b0); (try clear c6b1); (try clear p6); (try clear c13); (try clear c22); (try clear hx326_0); (try clear hx326_1); (try clear hx327_0); (try clear hx327_1); (try clear p326); (try clear p327); (try clear q326); (try clear q327)
     obtain ⟨x11_1, x51_1, rfl, HA, HK1, HO_11, HB⟩ := hrel
     have hl11_1 := (Kd.R_reads' HO_11.out).1
     rw [hl11_1] at HO_11
     (try simp only [hl11_1])
     cases gk with
     | zero => exact absurd HA.out (by simp [profile_Take.l0])
     | succ k1 =>
      have H := HA.out
      clear HA
      simp only [profile_Take.l0] at H
      by_cases c24 : x51_1 < (y336.length : Int)
      ·rw [if_pos c24] at H
       have c24b0 : decide (x51_1 < (y336.length : Int)) = true := decide_eq_true c24
       clear c24
       by_cases c25 : 0 ≤ x51_1
       ·rw [if_pos c25] at H
        have c25b0 : decide (0 ≤ x51_1) = true := decide_eq_true c25
        clear c25
        by_cases c26 : x51_1 < (x11_1.length : Int)
        ·rw [if_pos c26] at H
         have c26b0 : decide (x51_1 < (x11_1.length : Int)) = true := decide_eq_true c26
         clear c26
         by_cases c27 : ((rd_T40 x11_1 x51_1).f0) ≥ ji7
         ·rw [if_pos c27] at H
          have c27b0 : decide (ji7 ≤ ((rd_T40 x11_1 x51_1).f0)) = true := decide_eq_true c27
          clear c27
          by_cases c28 : ((rd_T40 x11_1 x51_1).f0) < ji9
          ·rw [if_pos c28] at H
           have c28b0 : decide (((rd_T40 x11_1 x51_1).f0) < ji9) = true := decide_eq_true c28
           clear c28
           obtain ⟨y343, hy343⟩ : ∃ y_ : List (S40), y_ = (x11_1.set (x51_1 : Int).toNat (⟨(rd_T40 x11_1 x51_1).f0, wrap64 (((rd_T40 x11_1 x51_1).f1) - a3)⟩ : S40)) := ⟨_, rfl⟩
           replace H : (profile_Take.l0 k1 a3 ji7 ji9 y343 (y336.length : Int) (wrap64 (x51_1 + 1))) = some r := mH hy343 H
           have Ny343 := Aside0.mk hy343
           clear hy343
           have H' := Aside0.mk H
           clear H
           have p340 : 0 ≤ (x51_1 : Int) := oda
           have q340 : x51_1 < (x11_1.length : Int) := oda
           obtain ⟨ad340, e340, hx340_0, hx340_1⟩ := at_T40 (Kd.R_reads' HO_11.out).2.2 x51_1 p340 q340
           cases e340
           replace p340 := eq_true p340
           replace q340 := eq_true q340
           go_wp2_with (first | ((with_reducible refine gate_dst (N := 13) rfl ?_); refine box_event ?hg (N := 13) ?hd (cs := #[.int .i64 0, .int .i64 0]) (t := 40) ?hr ?_; (case hd => rfl); (case hg => rfl); (case hr => first | (go_simp; done) | (go_simp; rfl)); intro gb341 hg w30 hbox hb; have n0_ := Aside0.mk (Kd.R_below (Kd.R_elderB (mR HO_11.out) gb341 (Nat.le_of_eq hg.symm)) hb); have n1_ := Aside0.mk (below_step (mB HB.out) hb); have n2_ := Aside0.mk (hbox); have n3_ := Aside0.mk ((by rw [hg]; exact (below_size (mB HB.out)) : w.heap.size ≤ gb341)); have n4_ := Aside0.mk ((by rw [hg]; exact (below_size (mB HB.out)) : w.heap.size ≤ gb341)); clear HO_11; clear HB; have HO_11 := n0_; have HB := n1_; have BK341 := n2_; have GW341 := n3_; have GE341 := n4_; clear n0_ n1_ n2_ n3_ n4_; clear hb hbox hg; have hcz31_0 : w30.cell? ⟨gb341, 0, none⟩ = some (.int .i64 0) := (blk_cell BK341.out 0).trans rfl; have hcz31_1 : w30.cell? ⟨gb341, 1, none⟩ = some (.int .i64 0) := (blk_cell BK341.out 1).trans rfl; have hfz31_0 := blk_frozen BK341.out 0; have hfz31_1 := blk_frozen BK341.out 1) | ((with_reducible refine gate_store (t := 40) (p := 13) rfl ?_); (try (rw [drewN_self w30]; generalize hq_ : World.drewN w30 _ = w30; have n0_ := Aside0.mk (Kd.R_at hq_ HO_11.out); have n1_ := Aside0.mk (blk_at hq_ BK341.out); have n2_ := Aside0.mk (below_at hq_ HB.out); clear hq_ HO_11 BK341 HB; have HO_11 := n0_; have BK341 := n1_; have HB := n2_; clear n0_ n1_ n2_)); refine store_event (t := 40) (p := 13) (v := ?vo_w32) (w1 := ((w30.setCell ⟨gb341, 0, none⟩ (.int .i64 ((rd_T40 x11_1 x51_1).f0))).setCell ⟨gb341, 1, none⟩ (.int .i64 ((rd_T40 x11_1 x51_1).f1)))) ?hg ?ho ?hn ?hr ?_; (case ho => rfl); (case hg => rfl); (case hn => rfl); (case hr => first | (go_simp; done) | (go_simp; rfl)); intro w32 hw; have n0_ : Aside0 (Kd.R k40 40 w32 w.heap.size (fun k_ => (w.heap.size ≤ k_) ∧ k_ ≠ gb341) (.slice (some ad340) x11_1.length co22) x11_1) := ⟨(by rw [hw]; exact (by (with_reducible repeat (first | apply Kd.R_alloc | apply Kd.R_drewN | apply Kd.R_drew)); exact Kd.R_mono (Kd.R_far (p := ⟨gb341, 1, none⟩) (Kd.R_far (p := ⟨gb341, 0, none⟩) (Kd.R_mono HO_11.out (fun k_ hk => (⟨hk, hk.2⟩ : _ ∧ k_ ≠ gb341))) (fun _ hk => hk.2) (.int .i64 ((rd_T40 x11_1 x51_1).f0))) (fun _ hk => hk.2) (.int .i64 ((rd_T40 x11_1 x51_1).f1))) (fun _ hk => ⟨hk.1.1, hk.1.2⟩)))⟩; have n1_ : Aside0 (w32.heap[gb341]? = some (.cells #[.int .i64 ((rd_T40 x11_1 x51_1).f0), .int .i64 ((rd_T40 x11_1 x51_1).f1)] 40 (0, 0))) := ⟨(by rw [hw]; exact (by (with_reducible repeat (first | refine blk_drewN ?_ _ | refine blk_drew ?_ | refine blk_alloc ?_ _)); refine blk_put (cs := #[.int .i64 ((rd_T40 x11_1 x51_1).f0), .int .i64 0]) ?_ 1 _ rfl; (with_reducible repeat (first | refine blk_drewN ?_ _ | refine blk_drew ?_ | refine blk_alloc ?_ _)); refine blk_put (cs := #[.int .i64 0, .int .i64 0]) ?_ 0 _ rfl; (with_reducible repeat (first | refine blk_drewN ?_ _ | refine blk_drew ?_ | refine blk_alloc ?_ _)); exact BK341.out))⟩; have n2_ : Aside0 (Below w.heap.size w w32) := ⟨(by rw [hw]; exact (mBs HB.out))⟩; clear hw; clear HO_11; clear BK341; clear HB; have HO_11 := n0_; have BK341 := n1_; have HB := n2_; clear n0_ n1_ n2_; have hcz33_0 : w32.cell? ⟨gb341, 0, none⟩ = some (.int .i64 ((rd_T40 x11_1 x51_1).f0)) := (blk_cell BK341.out 0).trans rfl; have hcz33_1 : w32.cell? ⟨gb341, 1, none⟩ = some (.int .i64 ((rd_T40 x11_1 x51_1).f1)) := (blk_cell BK341.out 1).trans rfl; have hfz33_0 := blk_frozen BK341.out 0; have hfz33_1 := blk_frozen BK341.out 1; have p342 : 0 ≤ (x51_1 : Int) := oda; have q342 : x51_1 < (x11_1.length : Int) := oda; obtain ⟨ad342, e342, hx342_0, hx342_1⟩ := at_T40 (Kd.R_reads' HO_11.out).2.2 x51_1 p342 q342; obtain rfl : ad340 = ad342 := (by injection e342); replace p342 := eq_true p342; replace q342 := eq_true q342; have p29 : 0 ≤ (x51_1 : Int) := oda; have q29 : (x51_1 : Int) < ((x11_1.length : Int) : Int) := oda; obtain ⟨go29, co29, eo29, gb29, gl29, cl29, HG29⟩ := Kd.R_form HO_11.out (by omega); (first | cases eo29 | (injection eo29 with ea_ en_ ec_; (first | subst ea_ | (injection ea_ with ea_; subst ea_)); subst ec_; clear en_)); have GB29 := Aside0.mk gb29; have GG29 := Aside0.mk HG29; clear gb29 gl29 HG29; (first | simp only [add_plain] at hx340_0 | skip); (first | simp only [add_plain] at hx340_1 | skip); (first | simp only [add_plain] at hx342_0 | skip); (first | simp only [add_plain] at hx342_1 | skip); obtain ⟨ce29, hcl29, hM29, hcc29, hfr29⟩ := Kd.R_elem HO_11.out z40 (x51_1 : Int) p29 q29; obtain rfl := k40_openM hM29; have hx29_0 : w32.cell? ⟨go29, (x51_1 : Int).toNat * 2, none⟩ = some (.int .i64 ((rd_T40 x11_1 x51_1).f0)) := hcc29 0 _ rfl; have hx29_1 : w32.cell? ⟨go29, (x51_1 : Int).toNat * 2 + 1, none⟩ = some (.int .i64 ((rd_T40 x11_1 x51_1).f1)) := hcc29 1 _ rfl; have hf29_0 : w32.frozen? ⟨go29, (x51_1 : Int).toNat * 2, none⟩ = false := hfr29 0; have hf29_1 : w32.frozen? ⟨go29, (x51_1 : Int).toNat * 2 + 1, none⟩ = false := hfr29 1; clear hcl29 hcc29 hfr29 hM29; replace p29 := eq_true p29; replace q29 := eq_true q29; have HX34 := Aside0.mk (show Kd.R k40 40 w32 w.heap.size (fun k_ => (w.heap.size ≤ k_) ∧ k_ ≠ gb341) (.slice (some ⟨go29, 0, none⟩) x11_1.length co22) x11_1 from (mR HO_11.out)); obtain ⟨ce34, hcl34, hM34, hcc34, hfr34⟩ := Kd.R_elem HX34.out z40 (x51_1 : Int) (oda) (by have h_ : (x51_1 : Int) < ((x11_1.length : Int) : Int) := oda; first | exact h_ | (have e_ := (Kd.R_reads' HO_11.out).1; omega) | simpa using h_); obtain rfl := k40_openM hM34; have HP34 := Kd.R_seg HX34.out (x51_1 : Int) (oda) (by have h_ : (x51_1 : Int) < ((x11_1.length : Int) : Int) := oda; first | exact h_ | (have e_ := (Kd.R_reads' HO_11.out).1; omega) | simpa using h_) (seg := [.int .i64 (wrap64 (((rd_T40 x11_1 x51_1).f1) - a3))]) (j := 1) hcl34 hcc34 (show 2 ≤ 2 from by decide) (x' := (⟨(rd_T40 x11_1 x51_1).f0, wrap64 (((rd_T40 x11_1 x51_1).f1) - a3)⟩ : S40)) (k40_mkM _ _ _ (⟨(rd_T40 x11_1 x51_1).f0, wrap64 (((rd_T40 x11_1 x51_1).f1) - a3)⟩ : S40) ) (fun _ hk => hk); have hx34_1 := hcc34 1 _ rfl; (try simp only [show (k40).sz = 2 from rfl, Nat.mul_one, Nat.add_zero] at hx34_1); have hf34_1 := hfr34 1; (try simp only [show (k40).sz = 2 from rfl, Nat.mul_one, Nat.add_zero] at hf34_1); clear hcl34 hcc34 hfr34 hM34) | ((with_reducible refine gate_store (t := 3) (p := 74) rfl ?_); (try (rw [drewN_self w32]; generalize hq_ : World.drewN w32 _ = w32; have n0_ := Aside0.mk (Kd.R_at hq_ HO_11.out); have n1_ := Aside0.mk (blk_at hq_ BK341.out); have n2_ := Aside0.mk (below_at hq_ HB.out); clear hq_ HO_11 BK341 HB; have HO_11 := n0_; have BK341 := n1_; have HB := n2_; clear n0_ n1_ n2_; (try (have HX34 := Aside0.mk (show Kd.R k40 40 w32 w.heap.size (fun k_ => (w.heap.size ≤ k_) ∧ k_ ≠ gb341) (.slice (some ⟨go29, 0, none⟩) x11_1.length co22) x11_1 from (mR HO_11.out)))); (try (obtain ⟨ce34, hcl34, hM34, hcc34, hfr34⟩ := Kd.R_elem HX34.out z40 (x51_1 : Int) (oda) (by have h_ : (x51_1 : Int) < ((x11_1.length : Int) : Int) := oda; first | exact h_ | (have e_ := (Kd.R_reads' HO_11.out).1; omega) | simpa using h_))); (try (obtain rfl := k40_openM hM34)); (try (have HP34 := Kd.R_seg HX34.out (x51_1 : Int) (oda) (by have h_ : (x51_1 : Int) < ((x11_1.length : Int) : Int) := oda; first | exact h_ | (have e_ := (Kd.R_reads' HO_11.out).1; omega) | simpa using h_) (seg := [.int .i64 (wrap64 (((rd_T40 x11_1 x51_1).f1) - a3))]) (j := 1) hcl34 hcc34 (show 2 ≤ 2 from by decide) (x' := (⟨(rd_T40 x11_1 x51_1).f0, wrap64 (((rd_T40 x11_1 x51_1).f1) - a3)⟩ : S40)) (k40_mkM _ _ _ (⟨(rd_T40 x11_1 x51_1).f0, wrap64 (((rd_T40 x11_1 x51_1).f1) - a3)⟩ : S40) ) (fun _ hk => hk))); (try (have hx34_1 := hcc34 1 _ rfl)); (try (try simp only [show (k40).sz = 2 from rfl, Nat.mul_one, Nat.add_zero] at hx34_1)); (try (have hf34_1 := hfr34 1)); (try (try simp only [show (k40).sz = 2 from rfl, Nat.mul_one, Nat.add_zero] at hf34_1)); (try (clear hcl34 hcc34 hfr34 hM34)))); refine store_event (t := 3) (p := 74) (v := ?vo_w35) (w1 := (w32.setCell ⟨go29, (x51_1 : Int).toNat * 2 + 1, none⟩ (.int .i64 (wrap64 (((rd_T40 x11_1 x51_1).f1) - a3))))) ?hg ?ho ?hn ?hr ?_; (case ho => rfl); (case hg => rfl); (case hn => rfl); (case hr => first | (go_simp; done) | (go_simp; rfl)); intro w35 hw; have hg : w32.grownBy w35 (some go29) := (by rw [hw]; exact HP34.2); have hp_ : Kd.R k40 40 w35 w.heap.size (fun k_ => (w.heap.size ≤ k_) ∧ k_ ≠ gb341) (.slice (some ⟨go29, 0, none⟩) x11_1.length co22) y343 := (by rw [hw, Ny343.out]; exact HP34.1); clear HP34; have n0_ := Aside0.mk (hp_); have n1_ := Aside0.mk (blk_grown (g := gb341) (o := .cells #[.int .i64 ((rd_T40 x11_1 x51_1).f0), .int .i64 ((rd_T40 x11_1 x51_1).f1)] 40 (0, 0)) (mBK BK341.out) hg (Kd.R_away HO_11.out (fun _ hk => hk.2))); have n2_ := Aside0.mk ((by rw [hw]; exact below_set (HB.out) GB29.out : Below w.heap.size w w35)); clear HO_11; clear BK341; clear HB; have HO_11 := n0_; have BK341 := n1_; have HB := n2_; clear n0_ n1_ n2_; clear hg hw hp_))
           repeat (go_quiet (fail); try go_wp2)
           (try simp only [← hl11_1])
           go_roundg k1
           case measure => have := HK1.out; omega
           case rel => exact ⟨(y343), (wrap64 (x51_1 + 1)), ez, H', ⟨by have := HK1.out; omega⟩, ⟨by (try simp only [hl11_1]); (with_reducible repeat (first | apply Kd.R_alloc | apply Kd.R_drewN | apply Kd.R_drew)); exact Kd.R_mono HO_11.out (fun _ hk => hk.1)⟩, ⟨mBs HB.out⟩⟩
          ·rw [if_neg c28] at H
           have c28b0 : decide (((rd_T40 x11_1 x51_1).f0) < ji9) = false := decide_eq_false c28
           clear c28
           have H' := Aside0.mk H
           clear H
           have p340 : 0 ≤ (x51_1 : Int) := oda
           have q340 : x51_1 < (x11_1.length : Int) := oda
           obtain ⟨ad340, e340, hx340_0, hx340_1⟩ := at_T40 (Kd.R_reads' HO_11.out).2.2 x51_1 p340 q340
           cases e340
           replace p340 := eq_true p340
           replace q340 := eq_true q340
           go_wp2_with (first | ((with_reducible refine gate_dst (N := 13) rfl ?_); refine box_event ?hg (N := 13) ?hd (cs := #[.int .i64 0, .int .i64 0]) (t := 40) ?hr ?_; (case hd => rfl); (case hg => rfl); (case hr => first | (go_simp; done) | (go_simp; rfl)); intro gb341 hg w36 hbox hb; have n0_ := Aside0.mk (Kd.R_below (Kd.R_elderB (mR HO_11.out) gb341 (Nat.le_of_eq hg.symm)) hb); have n1_ := Aside0.mk (below_step (mB HB.out) hb); have n2_ := Aside0.mk (hbox); have n3_ := Aside0.mk ((by rw [hg]; exact (below_size (mB HB.out)) : w.heap.size ≤ gb341)); have n4_ := Aside0.mk ((by rw [hg]; exact (below_size (mB HB.out)) : w.heap.size ≤ gb341)); clear HO_11; clear HB; have HO_11 := n0_; have HB := n1_; have BK341 := n2_; have GW341 := n3_; have GE341 := n4_; clear n0_ n1_ n2_ n3_ n4_; clear hb hbox hg; have hcz37_0 : w36.cell? ⟨gb341, 0, none⟩ = some (.int .i64 0) := (blk_cell BK341.out 0).trans rfl; have hcz37_1 : w36.cell? ⟨gb341, 1, none⟩ = some (.int .i64 0) := (blk_cell BK341.out 1).trans rfl; have hfz37_0 := blk_frozen BK341.out 0; have hfz37_1 := blk_frozen BK341.out 1))
           repeat (go_quiet (fail); try go_wp2)
           (try simp only [← hl11_1])
           go_roundg k1
           case measure => have := HK1.out; omega
           case rel => exact ⟨(x11_1), (wrap64 (x51_1 + 1)), ez, H', ⟨by have := HK1.out; omega⟩, ⟨by (try simp only [hl11_1]); (with_reducible repeat (first | apply Kd.R_alloc | apply Kd.R_drewN | apply Kd.R_drew)); exact Kd.R_mono (Kd.R_far (p := ⟨gb341, 1, none⟩) (Kd.R_far (p := ⟨gb341, 0, none⟩) (Kd.R_mono HO_11.out (fun k_ hk => (⟨hk, hk.2⟩ : _ ∧ k_ ≠ gb341))) (fun _ hk => hk.2) (.int .i64 ((rd_T40 x11_1 x51_1).f0))) (fun _ hk => hk.2) (.int .i64 ((rd_T40 x11_1 x51_1).f1))) (fun _ hk => hk.1.1)⟩, ⟨mBs HB.out⟩⟩
         ·rw [if_neg c27] at H
          have c27b0 : decide (ji7 ≤ ((rd_T40 x11_1 x51_1).f0)) = false := decide_eq_false c27
          clear c27
          have H' := Aside0.mk H
          clear H
          have p340 : 0 ≤ (x51_1 : Int) := oda
          have q340 : x51_1 < (x11_1.length : Int) := oda
          obtain ⟨ad340, e340, hx340_0, hx340_1⟩ := at_T40 (Kd.R_reads' HO_11.out).2.2 x51_1 p340 q340
          cases e340
          replace p340 := eq_true p340
          replace q340 := eq_true q340
          go_wp2_with (first | ((with_reducible refine gate_dst (N := 13) rfl ?_); refine box_event ?hg (N := 13) ?hd (cs := #[.int .i64 0, .int .i64 0]) (t := 40) ?hr ?_; (case hd => rfl); (case hg => rfl); (case hr => first | (go_simp; done) | (go_simp; rfl)); intro gb341 hg w38 hbox hb; have n0_ := Aside0.mk (Kd.R_below (Kd.R_elderB (mR HO_11.out) gb341 (Nat.le_of_eq hg.symm)) hb); have n1_ := Aside0.mk (below_step (mB HB.out) hb); have n2_ := Aside0.mk (hbox); have n3_ := Aside0.mk ((by rw [hg]; exact (below_size (mB HB.out)) : w.heap.size ≤ gb341)); have n4_ := Aside0.mk ((by rw [hg]; exact (below_size (mB HB.out)) : w.heap.size ≤ gb341)); clear HO_11; clear HB; have HO_11 := n0_; have HB := n1_; have BK341 := n2_; have GW341 := n3_; have GE341 := n4_; clear n0_ n1_ n2_ n3_ n4_; clear hb hbox hg; have hcz39_0 : w38.cell? ⟨gb341, 0, none⟩ = some (.int .i64 0) := (blk_cell BK341.out 0).trans rfl; have hcz39_1 : w38.cell? ⟨gb341, 1, none⟩ = some (.int .i64 0) := (blk_cell BK341.out 1).trans rfl; have hfz39_0 := blk_frozen BK341.out 0; have hfz39_1 := blk_frozen BK341.out 1))
          repeat (go_quiet (fail); try go_wp2)
          (try simp only [← hl11_1])
          go_roundg k1
          case measure => have := HK1.out; omega
          case rel => exact ⟨(x11_1), (wrap64 (x51_1 + 1)), ez, H', ⟨by have := HK1.out; omega⟩, ⟨by (try simp only [hl11_1]); (with_reducible repeat (first | apply Kd.R_alloc | apply Kd.R_drewN | apply Kd.R_drew)); exact Kd.R_mono (Kd.R_far (p := ⟨gb341, 1, none⟩) (Kd.R_far (p := ⟨gb341, 0, none⟩) (Kd.R_mono HO_11.out (fun k_ hk => (⟨hk, hk.2⟩ : _ ∧ k_ ≠ gb341))) (fun _ hk => hk.2) (.int .i64 ((rd_T40 x11_1 x51_1).f0))) (fun _ hk => hk.2) (.int .i64 ((rd_T40 x11_1 x51_1).f1))) (fun _ hk => hk.1.1)⟩, ⟨mBs HB.out⟩⟩
        ·rw [if_neg c26] at H
         exact absurd H (by simp)
       ·rw [if_neg c25] at H
        exact absurd H (by simp)
      ·rw [if_neg c24] at H
       have c24b0 : decide (x51_1 < (y336.length : Int)) = false := decide_eq_false c24
       have c24b9 := c24b0
       (try rw [hl11_1] at c24b9)
       clear c24
       replace H := Option.bind_eq_some_iff.mp H
       obtain ⟨⟨t344, t347⟩, A400, H⟩ := H
       replace H : (some t344) = some r := H
       have A40 := Aside0.mk A400
       clear A400
       obtain rfl := Option.some.inj H
       go_wp2_with (first | (go_at_call 43; (with_reducible refine (profile_tidy.calls k1 (fun k_ => some k_ = (.slice Ao22 x11_1.length co22 : Value).ownBlock) (.slice Ao22 x11_1.length co22) x11_1 t344 t347 w _ ?side1 ?side2 A40.out).mono ?_); (case side1 => repeat (first | (with_reducible first | exact HB.out | apply below_alloc | apply pw_below_drewN | apply below_drew1) | exact HB.out)); (case side2 => exact Kd.R_tight rfl HO_11.out); rintro e w41 ⟨v345, rfl, ho0, hy0, hb, hkp⟩; have n0_ := Aside0.mk (Kd.R_reok rfl hy0 (fun k_ e_ => HO_11.out.1 k_ e_)); have n1_ := Aside0.mk (Kd.V_mono (ok' := fun k_ => (w.heap.size ≤ k_) ∧ some k_ ≠ (.slice Ao22 x11_1.length co22 : Value).ownBlock) ho0 (fun k_ hk_ => ⟨Or.elim hk_.1 (fun hs_ => (HO_11.out.1 k_ (hs_).symm)) (fun hn_ => (Nat.le_trans (below_size (mB HB.out)) hn_)), hk_.2⟩)); have n2_ := Aside0.mk (hb); clear HO_11; clear HB; have HO_11 := n0_; have HO346 := n1_; have HB := n2_; clear n0_ n1_ n2_; (try clear hb); (try clear hkp); (try clear ho0); (try clear hy0)))
       repeat (go_quiet (fail); try go_wp2)
       go_ret
       exact ⟨_, by first | rfl | (simp [errW_none, errW_some] <;> rfl) | (simp only [← hji7, ← hji8, ← hji9]; first | rfl | (simp [errW_none, errW_some] <;> rfl)) | (simp [*, errW_none, errW_some] <;> rfl), by (with_reducible repeat (first | apply Kd.V_alloc | apply Kd.V_drewN | apply Kd.V_drew)); exact Kd.V_mono HO346.out (fun _ hk => hk.1), by repeat (first | (with_reducible first | exact HB.out | apply below_alloc | apply pw_below_drewN | apply below_drew1) | exact HB.out)⟩
   ·rw [if_neg c13] at H
    exact absurd H (by simp)
  ·rw [if_neg c6] at H
   exact absurd H (by simp)

end Go.Proofs.Ytedpoahndddgfaa.PAll
end
section
namespace Go.Proofs.Ytedpoahndddgfaa.PAll
open Go.RowKit Go.Proofs.YtedpoahndddgfaaW.PrintWords Go.Proofs.YtedpoahndddgfaaW.PrintLast Go.Proofs.YtedpoahndddgfaaW.PrintMore
attribute [local go_sem] max2_int min2_int max_two min_two max_three min_three max_four min_four   -- for this text's walks alone
set_option linter.unusedVariables false
set_option linter.unusedSimpArgs false

/-! ### prebendref16_Take: function 23 -/
mutual
def prebendref16_Take.j0 : Nat → List (S40) → Int → Int → Int → Option ((List (S40)))
 | 0, _, _, _, _ => none
 | k + 1, x0, x1, x2, x3 => prebendref16_Take.l0 k x0 x1 x2 x3 (([x1, wrap64 (x1 + x2)] : List Int)) 0
def prebendref16_Take.l0 : Nat → List (S40) → Int → Int → Int → List Int → Int → Option ((List (S40)))
 | 0, _, _, _, _, _, _ => none
 | k + 1, x0, x1, x2, x3, x9, x10 => if x10 < (x0.length : Int) then (if 0 ≤ x10 then (if x9.length < 17592186044416 then (prebendref16_Take.l0 k x0 x1 x2 x3 (x9 ++ [(rd_T40 x0 x10).f0]) (wrap64 (x10 + 1))) else (none)) else (none)) else (if 0 < (x0.length : Int) then ((prebendref16_ticks.f k ((rd_T40 x0 0).f0) x9).bind fun t356 => (prebendref16_Take.l1 k x0 x1 x2 x3 t356 (([] : List Int)) 0)) else (none))
def prebendref16_Take.l1 : Nat → List (S40) → Int → Int → Int → List Int → List Int → Int → Option ((List (S40)))
 | 0, _, _, _, _, _, _, _ => none
 | k + 1, x0, x1, x2, x3, x11, x12, x13 => if x13 < (x11.length : Int) then (if 0 ≤ x13 then ((prebendref16_At.f k x0 (rd x11 x13)).bind fun t363 => (if (rd x11 x13) ≥ x1 then (if (rd x11 x13) < (wrap64 (x1 + x2)) then (if x12.length < 17592186044416 then (prebendref16_Take.l1 k x0 x1 x2 x3 x11 (x12 ++ [wrap64 (t363 - x3)]) (wrap64 (x13 + 1))) else (none)) else (if x12.length < 17592186044416 then (prebendref16_Take.l1 k x0 x1 x2 x3 x11 (x12 ++ [t363]) (wrap64 (x13 + 1))) else (none))) else (if x12.length < 17592186044416 then (prebendref16_Take.l1 k x0 x1 x2 x3 x11 (x12 ++ [t363]) (wrap64 (x13 + 1))) else (none)))) else (none)) else ((prebendref16_made.f k x11 x12).bind fun t375 => (some t375))
end
def prebendref16_Take.f (k : Nat) (l0 : List (S40)) (a1 : Int) (a2 : Int) (a3 : Int) : Option ((List (S40))) := if (l0.length : Int) = 0 then (some ([] : List (S40))) else (if a2 < 0 then (prebendref16_Take.j0 k l0 a1 0 a3) else (prebendref16_Take.j0 k l0 a1 a2 a3))
theorem prebendref16_Take.mono_l : ∀ k, (∀ y0 y1 y2 y3, LeO (prebendref16_Take.j0 k y0 y1 y2 y3) (prebendref16_Take.j0 (k + 1) y0 y1 y2 y3)) ∧ (∀ y0 y1 y2 y3 y4 y5, LeO (prebendref16_Take.l0 k y0 y1 y2 y3 y4 y5) (prebendref16_Take.l0 (k + 1) y0 y1 y2 y3 y4 y5)) ∧ (∀ y0 y1 y2 y3 y4 y5 y6, LeO (prebendref16_Take.l1 k y0 y1 y2 y3 y4 y5 y6) (prebendref16_Take.l1 (k + 1) y0 y1 y2 y3 y4 y5 y6))
 | 0 => ⟨fun _ _ _ _ r h => by simp [prebendref16_Take.j0] at h, fun _ _ _ _ _ _ r h => by simp [prebendref16_Take.l0] at h, fun _ _ _ _ _ _ _ r h => by simp [prebendref16_Take.l1] at h⟩
 | k + 1 => by
  obtain ⟨ih0, ih1, ih2⟩ := prebendref16_Take.mono_l k
  refine ⟨?_, ?_, ?_⟩
  ·intro y0 y1 y2 y3
   unfold prebendref16_Take.j0
   repeat' first
   | (with_reducible exact ih0 _ _ _ _)
   | (with_reducible exact ih1 _ _ _ _ _ _)
   | (with_reducible exact ih2 _ _ _ _ _ _ _)
   | (with_reducible exact prebendref16_At.mono _ _ _)
   | (with_reducible exact prebendref16_made.mono _ _ _)
   | (with_reducible exact prebendref16_ticks.mono _ _ _)
   | (with_reducible exact LeO.refl _)
   | (with_reducible exact LeO.none _)
   | (with_reducible refine LeO.ite ?_ ?_)
   | (with_reducible refine LeO.bind ?_ (fun _ => ?_))
   | exact ih0 _ _ _ _
   | exact ih1 _ _ _ _ _ _
   | exact ih2 _ _ _ _ _ _ _
   | exact prebendref16_At.mono _ _ _
   | exact prebendref16_made.mono _ _ _
   | exact prebendref16_ticks.mono _ _ _
   | exact LeO.none _
   | refine LeO.ite ?_ ?_
   | refine LeO.bind ?_ (fun _ => ?_)
  ·intro y0 y1 y2 y3 y4 y5
   unfold prebendref16_Take.l0
   repeat' first
   | (with_reducible exact ih0 _ _ _ _)
   | (with_reducible exact ih1 _ _ _ _ _ _)
   | (with_reducible exact ih2 _ _ _ _ _ _ _)
   | (with_reducible exact prebendref16_At.mono _ _ _)
   | (with_reducible exact prebendref16_made.mono _ _ _)
   | (with_reducible exact prebendref16_ticks.mono _ _ _)
   | (with_reducible exact LeO.refl _)
   | (with_reducible exact LeO.none _)
   | (with_reducible refine LeO.ite ?_ ?_)
   | (with_reducible refine LeO.bind ?_ (fun _ => ?_))
   | exact ih0 _ _ _ _
   | exact ih1 _ _ _ _ _ _
   | exact ih2 _ _ _ _ _ _ _
   | exact prebendref16_At.mono _ _ _
   | exact prebendref16_made.mono _ _ _
   | exact prebendref16_ticks.mono _ _ _
   | exact LeO.none _
   | refine LeO.ite ?_ ?_
   | refine LeO.bind ?_ (fun _ => ?_)
  ·intro y0 y1 y2 y3 y4 y5 y6
   unfold prebendref16_Take.l1
   repeat' first
   | (with_reducible exact ih0 _ _ _ _)
   | (with_reducible exact ih1 _ _ _ _ _ _)
   | (with_reducible exact ih2 _ _ _ _ _ _ _)
   | (with_reducible exact prebendref16_At.mono _ _ _)
   | (with_reducible exact prebendref16_made.mono _ _ _)
   | (with_reducible exact prebendref16_ticks.mono _ _ _)
   | (with_reducible exact LeO.refl _)
   | (with_reducible exact LeO.none _)
   | (with_reducible refine LeO.ite ?_ ?_)
   | (with_reducible refine LeO.bind ?_ (fun _ => ?_))
   | exact ih0 _ _ _ _
   | exact ih1 _ _ _ _ _ _
   | exact ih2 _ _ _ _ _ _ _
   | exact prebendref16_At.mono _ _ _
   | exact prebendref16_made.mono _ _ _
   | exact prebendref16_ticks.mono _ _ _
   | exact LeO.none _
   | refine LeO.ite ?_ ?_
   | refine LeO.bind ?_ (fun _ => ?_)
theorem prebendref16_Take.mono : ∀ a0 a1 a2 a3 k, LeO (prebendref16_Take.f k a0 a1 a2 a3) (prebendref16_Take.f (k + 1) a0 a1 a2 a3) := by
 intro a0 a1 a2 a3 k
 obtain ⟨ih0, ih1, ih2⟩ := prebendref16_Take.mono_l k
 unfold prebendref16_Take.f
 repeat' first
   | (with_reducible exact ih0 _ _ _ _)
   | (with_reducible exact ih1 _ _ _ _ _ _)
   | (with_reducible exact ih2 _ _ _ _ _ _ _)
   | (with_reducible exact prebendref16_At.mono _ _ _)
   | (with_reducible exact prebendref16_made.mono _ _ _)
   | (with_reducible exact prebendref16_ticks.mono _ _ _)
   | (with_reducible exact LeO.refl _)
   | (with_reducible exact LeO.none _)
   | (with_reducible refine LeO.ite ?_ ?_)
   | (with_reducible refine LeO.bind ?_ (fun _ => ?_))
   | exact ih0 _ _ _ _
   | exact ih1 _ _ _ _ _ _
   | exact ih2 _ _ _ _ _ _ _
   | exact prebendref16_At.mono _ _ _
   | exact prebendref16_made.mono _ _ _
   | exact prebendref16_ticks.mono _ _ _
   | exact LeO.none _
   | refine LeO.ite ?_ ?_
   | refine LeO.bind ?_ (fun _ => ?_)
set_option maxHeartbeats 8000000 in
set_option maxRecDepth 100000 in
theorem prebendref16_Take.calls (k : Nat) (A0 : Option Addr) (c0 : Nat) (l0 : List (S40)) (a1 : Int) (a2 : Int) (a3 : Int) (r : List (S40)) (w : World) (hr0 : Kd.C k40 w A0 l0.length l0) (hc0 : l0.length ≤ c0) (h : prebendref16_Take.f k l0 a1 a2 a3 = some r) :
  Calls Try.prog 23 #[.slice A0 l0.length c0, .int .i64 a1, .int .i64 a2, .int .i64 a3] w fun e w' => ∃ v0_ : Value, e = .returned (v0_) ∧ Kd.R k40 40 w' w.heap.size (fun _ => True) v0_ r ∧ Below w.heap.size w w' := by
 have HR0 := Aside0.mk hr0
 have HC0 := Aside0.mk hc0
 clear hr0; clear hc0
 have HB := Aside0.mk (Below.refl w.heap.size w)
 have H : (if (l0.length : Int) = 0 then (some ([] : List (S40))) else (if a2 < 0 then (prebendref16_Take.j0 k l0 a1 0 a3) else (prebendref16_Take.j0 k l0 a1 a2 a3))) = some r := h
 clear h
 by_cases c5 : (l0.length : Int) = 0
 ·rw [if_pos c5] at H
  have c5b0 : ((l0.length : Int) == 0) = true := beq_iff_eq.mpr c5
  have c5b1 : ((l0.length : Int) != 0) = false := bne_eq_false_iff_eq.mpr c5
  clear c5
  obtain rfl := Option.some.inj H
  go_enter Try.func23, Try.ntmps23
  go_wp2
  go_ret
  exact ⟨_, by first | rfl | (simp [errW_none, errW_some] <;> rfl) | (simp [*, errW_none, errW_some] <;> rfl), by first | exact Kd.R_nil _ _ _ _ _ | exact Kd.N_nil _ _ _ _ _ | exact Kd.V_nil _ _ _ _ _ | exact Kd.Q_nil _ _ _ _ _ | exact Kd.S_nil _ _ _ _ _, by repeat (first | (with_reducible first | exact HB.out | apply below_alloc | apply pw_below_drewN | apply below_drew1) | exact HB.out)⟩
 ·rw [if_neg c5] at H
  have c5b0 : ((l0.length : Int) == 0) = false := beq_eq_false_iff_ne.mpr c5
  have c5b1 : ((l0.length : Int) != 0) = true := bne_iff_ne.mpr c5
  have c5b2 : ¬ (l0 = []) := fun h_ => c5 (by rw [h_]; rfl)
  have HC6 := Aside0.mk H
  clear H
  go_enter Try.func23, Try.ntmps23
  go_upto_if 19 with (fail)
  go_cut [2] (fun v2 wc => ∃ (kq : Nat) (x2_5 : Int), v2 = .int .i64 x2_5 ∧ Aside0 (prebendref16_Take.j0 kq l0 a1 x2_5 a3 = some r) ∧ Aside0 (kq ≤ k) ∧ Aside0 (Below w.heap.size w wc))
  case first =>
   have H := HC6.out
   clear HC6
   by_cases c7 : a2 < 0
   ·rw [if_pos c7] at H
    have c7b0 : decide (a2 < 0) = true := decide_eq_true c7
    clear c7
    (first | rw [c7b0] | (simp only [i64_w, i32_w]; rw [c7b0]) | skip)
    have H' := Aside0.mk H
    clear H
    go_wp2
    go_meet
    case rel => exact ⟨_, (0), ez, H', ⟨by first | omega | exact Nat.le_refl _⟩, ⟨mB HB.out⟩⟩
   ·rw [if_neg c7] at H
    have c7b0 : decide (a2 < 0) = false := decide_eq_false c7
    clear c7
    (first | rw [c7b0] | (simp only [i64_w, i32_w]; rw [c7b0]) | skip)
    have H' := Aside0.mk H
    clear H
    go_wp2
    go_meet
    case rel => exact ⟨_, (a2), ez, H', ⟨by first | omega | exact Nat.le_refl _⟩, ⟨mB HB.out⟩⟩
  case rest =>
   clear HC6
   (try clear c2); (try clear p2); (try clear c5); (try clear c5b0); (try clear c5b1); (try clear c5b2); (try clear c7); (try clear c7b0)
   obtain ⟨kq, x2_5, rfl, HA, HJ5, HB⟩ := hcut
   cases kq with
   | zero => exact absurd HA.out (by simp [prebendref16_Take.j0])
   | succ kj5 =>
    have H := HA.out
    clear HA
    simp only [prebendref16_Take.j0] at H
    obtain ⟨y348, hy348⟩ : ∃ y_ : List Int, y_ = (([a1, wrap64 (a1 + x2_5)] : List Int)) := ⟨_, rfl⟩
    replace H : (prebendref16_Take.l0 kj5 l0 a1 x2_5 a3 y348 0) = some r := mH hy348 H
    have Ny348 := Aside0.mk hy348
    clear hy348
    have H' := Aside0.mk H
    clear H
    go_wp2_with (first | ((with_reducible refine gate_dst (N := 24) rfl ?_); refine Kd.R_lit (Kd.int .i64) _ 3 ?hg (N := 24) ?hd (xs := ([a1, wrap64 (a1 + x2_5)] : List Int)) (inner := [.int .i64 a1, .int .i64 (wrap64 (a1 + x2_5))]) (ok := fun _ => True) (okp := fun _ => True) ?hr ?hp (fun _ hk => hk) trivial (Below.refl _ _) (Nat.le_refl _) (by simp) ?_; (case hd => rfl); (case hg => rfl); (case hr => first | (go_simp; done) | (go_simp; rfl)); (case hp => exact (Reps.one (show Kd.M (Kd.int .i64) _ _ _ a1 [.int .i64 a1] from rfl) (Reps.one (show Kd.M (Kd.int .i64) _ _ _ (wrap64 (a1 + x2_5)) [.int .i64 (wrap64 (a1 + x2_5))] from rfl) (Reps.none _ _)))); intro v349 w8 ho9 hb hg_ hnew_; clear hg_ hnew_; (first | rw [← Ny348.out] at ho9 | (simp only [Int.reduceToNat] at ho9; rw [← Ny348.out] at ho9)); have n0_ := Aside0.mk (Kd.R_lower ho9 (below_size (mB HB.out))); have n1_ := Aside0.mk (below_step (mB HB.out) hb); clear HB; have HO350 := n0_; have HB := n1_; clear n0_ n1_; clear hb ho9))
    go_loopg [9, 10] kj5 (fun kq v9 v10 w' => ∃ (x9_2 : List Int) (x10_2 : Int), v10 = .int .i64 x10_2 ∧ Aside0 (prebendref16_Take.l0 kq l0 a1 x2_5 a3 x9_2 x10_2 = some r) ∧ Aside0 (kq ≤ kj5) ∧ Aside0 (Kd.R (Kd.int .i64) 3 w' w.heap.size (fun _ => True) v9 x9_2) ∧ Aside0 (Below w.heap.size w w'))
    case atStart => exact ⟨(y348), (0), ez, H', ⟨Nat.le_refl _⟩, ⟨mR HO350.out⟩, ⟨mB HB.out⟩⟩
    case round =>
     clear H'
     (try clear c2); (try clear p2); (try clear c5); (try clear c5b0); (try clear c5b1); (try clear c5b2); (try clear p6); (try clear c7); (try clear c7b0); (try clear p2)
     obtain ⟨x9_2, x10_2, rfl, HA, HK2, HO_9, HB⟩ := hrel
     cases gk with
     | zero => exact absurd HA.out (by simp [prebendref16_Take.l0])
     | succ k2 =>
      have H := HA.out
      clear HA
      simp only [prebendref16_Take.l0] at H
      by_cases c10 : x10_2 < (l0.length : Int)
      ·rw [if_pos c10] at H
       have c10b0 : decide (x10_2 < (l0.length : Int)) = true := decide_eq_true c10
       clear c10
       by_cases c11 : 0 ≤ x10_2
       ·rw [if_pos c11] at H
        have c11b0 : decide (0 ≤ x10_2) = true := decide_eq_true c11
        clear c11
        by_cases c12 : x9_2.length < 17592186044416
        ·rw [if_pos c12] at H
         have LMc12 := Aside0.mk c12
         clear c12
         obtain ⟨y352, hy352⟩ : ∃ y_ : List Int, y_ = (x9_2 ++ [(rd_T40 l0 x10_2).f0]) := ⟨_, rfl⟩
         replace H : (prebendref16_Take.l0 k2 l0 a1 x2_5 a3 y352 (wrap64 (x10_2 + 1))) = some r := mH hy352 H
         have Ny352 := Aside0.mk hy352
         clear hy352
         have H' := Aside0.mk H
         clear H
         have p351 : 0 ≤ (x10_2 : Int) := oda
         have q351 : x10_2 < (l0.length : Int) := oda
         obtain ⟨ad351, e351, hx351_0, hx351_1⟩ := at_T40 HR0.out x10_2 p351 q351
         cases e351
         replace hx351_0 := (HB.out.cell (World.block_lt_of_cell? w _ hx351_0)).trans hx351_0
         replace hx351_1 := (HB.out.cell (World.block_lt_of_cell? w _ hx351_1)).trans hx351_1
         replace p351 := eq_true p351
         replace q351 := eq_true q351
         go_wp2_with (first | ((with_reducible refine gate_builtin (b := .append) (xs := #[.tmp 31, .tmp 37]) rfl ?_); at_builtin; refine Kd.R_append (Kd.int .i64) (w0 := w) w.heap.size rfl (.tmp 31) (.tmp 37) 55 3 (.int .i64 0) 8 rfl Try.underlying55 info3 rfl (by decide) (by omega) u9 x9_2 ((rd_T40 l0 x10_2).f0) [.int .i64 ((rd_T40 l0 x10_2).f0)] (fun _ => True) (fun _ => False) rfl rfl ?aP (fun _ hk => hk.elim) ?aF ?aO ?aB ?aS ?aL ?_; (case aP => exact rfl); (case aB => exact (mB HB.out)); (case aF => exact (fun _ _ => trivial)); (case aO => exact (mR HO_9.out)); (case aS => exact (below_size (mB HB.out))); (case aL => have := LMc12.out; omega); intro v353 w13 ho hb hg hat; rw [← Ny352.out] at ho; have n0_ := Aside0.mk (hb); have n1_ := Aside0.mk (ho); clear HB; clear HO_9; have HB := n0_; have HO354 := n1_; clear n0_ n1_; clear ho hb hg hat))
         go_roundg k2
         case measure => have := HJ5.out; have := HK2.out; omega
         case rel => exact ⟨(y352), (wrap64 (x10_2 + 1)), ez, H', ⟨by have := HJ5.out; have := HK2.out; omega⟩, ⟨mR HO354.out⟩, ⟨mB HB.out⟩⟩
        ·rw [if_neg c12] at H
         exact absurd H (by simp)
       ·rw [if_neg c11] at H
        exact absurd H (by simp)
      ·rw [if_neg c10] at H
       have c10b0 : decide (x10_2 < (l0.length : Int)) = false := decide_eq_false c10
       clear c10
       by_cases c14 : 0 < (l0.length : Int)
       ·rw [if_pos c14] at H
        have c14b0 : decide (0 < (l0.length : Int)) = true := decide_eq_true c14
        have c14b1 : decide (0 < l0.length) = true := decide_eq_true (by omega)
        clear c14
        replace H := Option.bind_eq_some_iff.mp H
        obtain ⟨t356, A150, H⟩ := H
        replace H : (prebendref16_Take.l1 k2 l0 a1 x2_5 a3 t356 (([] : List Int)) 0) = some r := H
        have A15 := Aside0.mk A150
        clear A150
        obtain ⟨y359, hy359⟩ : ∃ y_ : List Int, y_ = (([] : List Int)) := ⟨_, rfl⟩
        replace H : (prebendref16_Take.l1 k2 l0 a1 x2_5 a3 t356 y359 0) = some r := mH hy359 H
        have Ny359 := Aside0.mk hy359
        clear hy359
        have H' := Aside0.mk H
        clear H
        have p355 : 0 ≤ (0 : Int) := (by omega)
        have q355 : 0 < (l0.length : Int) := oda
        obtain ⟨ad355, e355, hx355_0, hx355_1⟩ := at_T40 HR0.out 0 p355 q355
        cases e355
        have qi355 : (0 < l0.length) = True := eq_true (by omega)
        (try rw [show ((0 : Int)).toNat = 0 from rfl] at hx355_0)
        (try rw [show 0 * 2 = 0 from rfl] at hx355_0)
        (try rw [Addr.add_zero'] at hx355_0)
        (try rw [show ((0 : Int)).toNat = 0 from rfl] at hx355_1)
        (try rw [show 0 * 2 = 0 from rfl] at hx355_1)
        (try rw [Addr.add_zero'] at hx355_1)
        replace hx355_0 := (HB.out.cell (World.block_lt_of_cell? w _ hx355_0)).trans hx355_0
        replace hx355_1 := (HB.out.cell (World.block_lt_of_cell? w _ hx355_1)).trans hx355_1
        replace p355 := eq_true p355
        replace q355 := eq_true q355
        obtain ⟨Ao16, co16, eo16⟩ := Kd.R_slice HO_9.out
        subst eo16
        go_wp2_with (first | ((with_reducible refine gate_callee (f := 44) rfl ?_); refine goesL_ (some 44) rfl rfl Try.func44 (by kernel_rfl) rfl #[.int .i64 ((rd_T40 l0 0).f0), .slice Ao16 x9_2.length co16] rfl mt ?_; (with_reducible refine (prebendref16_ticks.calls k2 ((rd_T40 l0 0).f0) _ _ x9_2 t356 _ ?side1 ?side2 A15.out).mono ?_); (case side1 => exact mC (Kd.R_reads' HO_9.out).2.2); (case side2 => exact (Kd.R_reads' HO_9.out).2.1); rintro e w17 ⟨v357, rfl, ho0, hb⟩; refine ⟨_, rfl, ?_⟩; have n0_ := Aside0.mk (Kd.R_elder' (mR HO_9.out) (Kd.R_base ho0) hb); have n1_ := Aside0.mk (Kd.R_lower (Kd.R_new' ho0 (Kd.R_lt (mR HO_9.out))) (below_size (mB HB.out))); have n2_ := Aside0.mk (below_step (mB HB.out) hb); clear HO_9; clear HB; have HO_9 := n0_; have HO358 := n1_; have HB := n2_; clear n0_ n1_ n2_; (try clear hb); (try clear hb2); (try clear hk); (try clear hi); (try clear ho0)) | ((with_reducible refine gate_dst (N := 45) rfl ?_); refine Kd.R_lit (Kd.int .i64) _ 3 ?hg (N := 45) ?hd (xs := ([] : List Int)) (inner := []) (ok := fun _ => True) (okp := fun _ => True) ?hr ?hp (fun _ hk => hk) trivial (Below.refl _ _) (Nat.le_refl _) (by simp) ?_; (case hd => rfl); (case hg => rfl); (case hr => first | (go_simp; done) | (go_simp; rfl)); (case hp => exact (Reps.none _ _)); intro v360 w18 ho19 hb hg_ hnew_; clear hg_ hnew_; (first | rw [← Ny359.out] at ho19 | (simp only [Int.reduceToNat] at ho19; rw [← Ny359.out] at ho19)); have n0_ := Aside0.mk (Kd.R_elder' (mR HO_9.out) (Kd.R_base ho19) hb); have n1_ := Aside0.mk (Kd.R_elder' (mR HO358.out) (Kd.R_base ho19) hb); have n2_ := Aside0.mk (Kd.R_lower (Kd.R_new' (Kd.R_new' ho19 (Kd.R_lt (mR HO_9.out))) (Kd.R_lt (mR HO358.out))) (below_size (mB HB.out))); have n3_ := Aside0.mk (below_step (mB HB.out) hb); clear HO_9; clear HO358; clear HB; have HO_9 := n0_; have HO358 := n1_; have HO361 := n2_; have HB := n3_; clear n0_ n1_ n2_ n3_; clear hb ho19))
        (try simp only [Act.put, List.setIfInBounds_toArray, List.set_cons_zero, List.set_cons_succ])
        go_loopg [12, 13] k2 (fun kq v12 v13 w' => ∃ (x12_3 : List Int) (x13_3 : Int), v13 = .int .i64 x13_3 ∧ Aside0 (prebendref16_Take.l1 kq l0 a1 x2_5 a3 t356 x12_3 x13_3 = some r) ∧ Aside0 (kq ≤ k2) ∧ Aside0 (Kd.R (Kd.int .i64) 3 w' w.heap.size (fun k_ => some k_ ≠ (v12 : Value).ownBlock) v357 t356) ∧ Aside0 (Kd.R (Kd.int .i64) 3 w' w.heap.size (fun k_ => some k_ ≠ (v357 : Value).ownBlock) v12 x12_3) ∧ Aside0 (Below w.heap.size w w'))
        case atStart => exact ⟨(y359), (0), ez, H', ⟨Nat.le_refl _⟩, ⟨by (with_reducible repeat (first | apply Kd.R_alloc | apply Kd.R_drewN | apply Kd.R_drew)); exact Kd.R_mono HO358.out (fun _ hk => hk.2)⟩, ⟨by (with_reducible repeat (first | apply Kd.R_alloc | apply Kd.R_drewN | apply Kd.R_drew)); exact Kd.R_mono HO361.out (fun _ hk => hk.2)⟩, ⟨mB HB.out⟩⟩
        case round =>
         clear H'
         (try clear c1); (try clear c2); (try clear p2); (try clear p3); (try clear q3); (try clear hx3); (try clear qi3); (try clear c4); (try clear c5); (try clear c5b0); (try clear c5b1); (try clear c5b2); (try clear p6); (try clear c7); (try clear c7b0); (try clear c10); (try clear c10b0); (try clear c11); (try clear c11b0); (try clear c12); (try clear c14); (try clear c14b0); (try clear c14b1); (try clear hx351_0); (try clear hx351_1); (try clear hx355_0); (try clear hx355_1); (try clear p2); (try clear p351); (try clear p355); (try clear p6); (try clear q351); (try clear q355)
         obtain ⟨x12_3, x13_3, rfl, HA, HK3, HO_11, HO_12, HB⟩ := hrel
         cases gk with
         | zero => exact absurd HA.out (by simp [prebendref16_Take.l1])
         | succ k3 =>
          have H := HA.out
          clear HA
          simp only [prebendref16_Take.l1] at H
          by_cases c20 : x13_3 < (t356.length : Int)
          ·rw [if_pos c20] at H
           have c20b0 : decide (x13_3 < (t356.length : Int)) = true := decide_eq_true c20
           clear c20
           by_cases c21 : 0 ≤ x13_3
           ·rw [if_pos c21] at H
            have c21b0 : decide (0 ≤ x13_3) = true := decide_eq_true c21
            clear c21
            replace H := Option.bind_eq_some_iff.mp H
            obtain ⟨t363, A220, H⟩ := H
            replace H : (if (rd t356 x13_3) ≥ a1 then (if (rd t356 x13_3) < (wrap64 (a1 + x2_5)) then (if x12_3.length < 17592186044416 then (prebendref16_Take.l1 k3 l0 a1 x2_5 a3 t356 (x12_3 ++ [wrap64 (t363 - a3)]) (wrap64 (x13_3 + 1))) else (none)) else (if x12_3.length < 17592186044416 then (prebendref16_Take.l1 k3 l0 a1 x2_5 a3 t356 (x12_3 ++ [t363]) (wrap64 (x13_3 + 1))) else (none))) else (if x12_3.length < 17592186044416 then (prebendref16_Take.l1 k3 l0 a1 x2_5 a3 t356 (x12_3 ++ [t363]) (wrap64 (x13_3 + 1))) else (none))) = some r := H
            have A22 := Aside0.mk A220
            clear A220
            by_cases c23 : (rd t356 x13_3) ≥ a1
            ·rw [if_pos c23] at H
             have c23b0 : decide (a1 ≤ (rd t356 x13_3)) = true := decide_eq_true c23
             clear c23
             by_cases c24 : (rd t356 x13_3) < (wrap64 (a1 + x2_5))
             ·rw [if_pos c24] at H
              have c24b0 : decide ((rd t356 x13_3) < (wrap64 (a1 + x2_5))) = true := decide_eq_true c24
              clear c24
              by_cases c25 : x12_3.length < 17592186044416
              ·rw [if_pos c25] at H
               have LMc25 := Aside0.mk c25
               clear c25
               obtain ⟨y366, hy366⟩ : ∃ y_ : List Int, y_ = (x12_3 ++ [wrap64 (t363 - a3)]) := ⟨_, rfl⟩
               replace H : (prebendref16_Take.l1 k3 l0 a1 x2_5 a3 t356 y366 (wrap64 (x13_3 + 1))) = some r := mH hy366 H
               have Ny366 := Aside0.mk hy366
               clear hy366
               have H' := Aside0.mk H
               clear H
               obtain ⟨Ao26, co26, eo26⟩ := Kd.R_slice HO_11.out
               subst eo26
               have p362 : 0 ≤ (x13_3 : Int) := oda
               have q362 : x13_3 < (t356.length : Int) := oda
               obtain ⟨ad362, e362, hx362_0⟩ := Kd.at_int (Kd.R_reads' HO_11.out).2.2 x13_3 p362 q362
               cases e362
               replace p362 := eq_true p362
               replace q362 := eq_true q362
               go_wp2_with (first | ((with_reducible refine gate_callee (f := 21) rfl ?_); refine goesL_ (some 57) rfl rfl Try.func21 (by kernel_rfl) rfl #[.slice (some ad355) l0.length c0, .int .i64 (rd t356 x13_3)] rfl mt ?_; (with_reducible refine (prebendref16_At.calls k3 _ _ l0 (rd t356 x13_3) t363 _ ?side1 ?side2 A22.out).mono ?_); (case side1 => repeat (first | exact (Kd.C_below HR0.out HB.out) | (with_reducible refine Kd.C_alloc ?_ _) | (with_reducible refine Kd.C_drewN ?_ _) | (with_reducible refine Kd.C_drew ?_))); (case side2 => exact HC0.out); rintro e w' ⟨rfl, ⟨nd, rfl⟩⟩; refine ⟨_, rfl, ?_⟩; have p364 : 0 ≤ (x13_3 : Int) := oda; have q364 : x13_3 < (t356.length : Int) := oda; obtain ⟨ad364, e364, hx364_0⟩ := Kd.at_int (Kd.R_reads' HO_11.out).2.2 x13_3 p364 q364; obtain rfl : ad362 = ad364 := (by injection e364); replace p364 := eq_true p364; replace q364 := eq_true q364; have p365 : 0 ≤ (x13_3 : Int) := oda; have q365 : x13_3 < (t356.length : Int) := oda; obtain ⟨ad365, e365, hx365_0⟩ := Kd.at_int (Kd.R_reads' HO_11.out).2.2 x13_3 p365 q365; obtain rfl : ad362 = ad365 := (by injection e365); replace p365 := eq_true p365; replace q365 := eq_true q365) | ((with_reducible refine gate_builtin (b := .append) (xs := #[.tmp 77, .tmp 79]) rfl ?_); at_builtin; refine Kd.R_append (Kd.int .i64) (w0 := w) w.heap.size rfl (.tmp 77) (.tmp 79) 55 3 (.int .i64 0) 8 rfl Try.underlying55 info3 rfl (by decide) (by omega) u12 x12_3 (wrap64 (t363 - a3)) [.int .i64 (wrap64 (t363 - a3))] (fun k_ => some k_ ≠ (.slice (some ad362) t356.length co26 : Value).ownBlock) (fun _ => False) rfl rfl ?aP (fun _ hk => hk.elim) ?aF ?aO ?aB ?aS ?aL ?_; (case aP => exact rfl); (case aB => exact (mB HB.out)); (case aF => exact (fun k_ hk => Kd.fresh' (Kd.R_lt (mR HO_11.out)) k_ hk)); (case aO => exact (mR HO_12.out)); (case aS => exact (below_size (mB HB.out))); (case aL => have := LMc25.out; omega); intro v367 w27 ho hb hg hat; rw [← Ny366.out] at ho; have n0_ := Aside0.mk (Kd.R_after (ok := (fun _ => True)) (by (with_reducible repeat (first | apply Kd.R_alloc | apply Kd.R_drewN | apply Kd.R_drew)); exact Kd.R_mono HO_11.out (fun _ hk => ⟨trivial, hk⟩)) hg hat); have n1_ := Aside0.mk (hb); have n2_ := Aside0.mk (ho); clear HO_11; clear HB; clear HO_12; have HO_11 := n0_; have HB := n1_; have HO368 := n2_; clear n0_ n1_ n2_; clear ho hb hg hat))
               go_roundg k3
               case measure => have := HJ5.out; have := HK2.out; have := HK3.out; omega
               case rel => exact ⟨(y366), (wrap64 (x13_3 + 1)), ez, H', ⟨by have := HJ5.out; have := HK2.out; have := HK3.out; omega⟩, ⟨by (with_reducible repeat (first | apply Kd.R_alloc | apply Kd.R_drewN | apply Kd.R_drew)); exact Kd.R_mono HO_11.out (fun _ hk => hk.2)⟩, ⟨mR HO368.out⟩, ⟨mB HB.out⟩⟩
              ·rw [if_neg c25] at H
               exact absurd H (by simp)
             ·rw [if_neg c24] at H
              have c24b0 : decide ((rd t356 x13_3) < (wrap64 (a1 + x2_5))) = false := decide_eq_false c24
              clear c24
              by_cases c28 : x12_3.length < 17592186044416
              ·rw [if_pos c28] at H
               have LMc28 := Aside0.mk c28
               clear c28
               obtain ⟨y369, hy369⟩ : ∃ y_ : List Int, y_ = (x12_3 ++ [t363]) := ⟨_, rfl⟩
               replace H : (prebendref16_Take.l1 k3 l0 a1 x2_5 a3 t356 y369 (wrap64 (x13_3 + 1))) = some r := mH hy369 H
               have Ny369 := Aside0.mk hy369
               clear hy369
               have H' := Aside0.mk H
               clear H
               obtain ⟨Ao29, co29, eo29⟩ := Kd.R_slice HO_11.out
               subst eo29
               have p362 : 0 ≤ (x13_3 : Int) := oda
               have q362 : x13_3 < (t356.length : Int) := oda
               obtain ⟨ad362, e362, hx362_0⟩ := Kd.at_int (Kd.R_reads' HO_11.out).2.2 x13_3 p362 q362
               cases e362
               replace p362 := eq_true p362
               replace q362 := eq_true q362
               go_wp2_with (first | ((with_reducible refine gate_callee (f := 21) rfl ?_); refine goesL_ (some 57) rfl rfl Try.func21 (by kernel_rfl) rfl #[.slice (some ad355) l0.length c0, .int .i64 (rd t356 x13_3)] rfl mt ?_; (with_reducible refine (prebendref16_At.calls k3 _ _ l0 (rd t356 x13_3) t363 _ ?side1 ?side2 A22.out).mono ?_); (case side1 => repeat (first | exact (Kd.C_below HR0.out HB.out) | (with_reducible refine Kd.C_alloc ?_ _) | (with_reducible refine Kd.C_drewN ?_ _) | (with_reducible refine Kd.C_drew ?_))); (case side2 => exact HC0.out); rintro e w' ⟨rfl, ⟨nd, rfl⟩⟩; refine ⟨_, rfl, ?_⟩; have p364 : 0 ≤ (x13_3 : Int) := oda; have q364 : x13_3 < (t356.length : Int) := oda; obtain ⟨ad364, e364, hx364_0⟩ := Kd.at_int (Kd.R_reads' HO_11.out).2.2 x13_3 p364 q364; obtain rfl : ad362 = ad364 := (by injection e364); replace p364 := eq_true p364; replace q364 := eq_true q364; have p365 : 0 ≤ (x13_3 : Int) := oda; have q365 : x13_3 < (t356.length : Int) := oda; obtain ⟨ad365, e365, hx365_0⟩ := Kd.at_int (Kd.R_reads' HO_11.out).2.2 x13_3 p365 q365; obtain rfl : ad362 = ad365 := (by injection e365); replace p365 := eq_true p365; replace q365 := eq_true q365) | ((with_reducible refine gate_builtin (b := .append) (xs := #[.tmp 77, .tmp 79]) rfl ?_); at_builtin; refine Kd.R_append (Kd.int .i64) (w0 := w) w.heap.size rfl (.tmp 77) (.tmp 79) 55 3 (.int .i64 0) 8 rfl Try.underlying55 info3 rfl (by decide) (by omega) u12 x12_3 t363 [.int .i64 t363] (fun k_ => some k_ ≠ (.slice (some ad362) t356.length co29 : Value).ownBlock) (fun _ => False) rfl rfl ?aP (fun _ hk => hk.elim) ?aF ?aO ?aB ?aS ?aL ?_; (case aP => exact rfl); (case aB => exact (mB HB.out)); (case aF => exact (fun k_ hk => Kd.fresh' (Kd.R_lt (mR HO_11.out)) k_ hk)); (case aO => exact (mR HO_12.out)); (case aS => exact (below_size (mB HB.out))); (case aL => have := LMc28.out; omega); intro v370 w30 ho hb hg hat; rw [← Ny369.out] at ho; have n0_ := Aside0.mk (Kd.R_after (ok := (fun _ => True)) (by (with_reducible repeat (first | apply Kd.R_alloc | apply Kd.R_drewN | apply Kd.R_drew)); exact Kd.R_mono HO_11.out (fun _ hk => ⟨trivial, hk⟩)) hg hat); have n1_ := Aside0.mk (hb); have n2_ := Aside0.mk (ho); clear HO_11; clear HB; clear HO_12; have HO_11 := n0_; have HB := n1_; have HO371 := n2_; clear n0_ n1_ n2_; clear ho hb hg hat))
               go_roundg k3
               case measure => have := HJ5.out; have := HK2.out; have := HK3.out; omega
               case rel => exact ⟨(y369), (wrap64 (x13_3 + 1)), ez, H', ⟨by have := HJ5.out; have := HK2.out; have := HK3.out; omega⟩, ⟨by (with_reducible repeat (first | apply Kd.R_alloc | apply Kd.R_drewN | apply Kd.R_drew)); exact Kd.R_mono HO_11.out (fun _ hk => hk.2)⟩, ⟨mR HO371.out⟩, ⟨mB HB.out⟩⟩
              ·rw [if_neg c28] at H
               exact absurd H (by simp)
            ·rw [if_neg c23] at H
             have c23b0 : decide (a1 ≤ (rd t356 x13_3)) = false := decide_eq_false c23
             clear c23
             by_cases c31 : x12_3.length < 17592186044416
             ·rw [if_pos c31] at H
              have LMc31 := Aside0.mk c31
              clear c31
              obtain ⟨y372, hy372⟩ : ∃ y_ : List Int, y_ = (x12_3 ++ [t363]) := ⟨_, rfl⟩
              replace H : (prebendref16_Take.l1 k3 l0 a1 x2_5 a3 t356 y372 (wrap64 (x13_3 + 1))) = some r := mH hy372 H
              have Ny372 := Aside0.mk hy372
              clear hy372
              have H' := Aside0.mk H
              clear H
              obtain ⟨Ao32, co32, eo32⟩ := Kd.R_slice HO_11.out
              subst eo32
              have p362 : 0 ≤ (x13_3 : Int) := oda
              have q362 : x13_3 < (t356.length : Int) := oda
              obtain ⟨ad362, e362, hx362_0⟩ := Kd.at_int (Kd.R_reads' HO_11.out).2.2 x13_3 p362 q362
              cases e362
              replace p362 := eq_true p362
              replace q362 := eq_true q362
              go_wp2_with (first | ((with_reducible refine gate_callee (f := 21) rfl ?_); refine goesL_ (some 57) rfl rfl Try.func21 (by kernel_rfl) rfl #[.slice (some ad355) l0.length c0, .int .i64 (rd t356 x13_3)] rfl mt ?_; (with_reducible refine (prebendref16_At.calls k3 _ _ l0 (rd t356 x13_3) t363 _ ?side1 ?side2 A22.out).mono ?_); (case side1 => repeat (first | exact (Kd.C_below HR0.out HB.out) | (with_reducible refine Kd.C_alloc ?_ _) | (with_reducible refine Kd.C_drewN ?_ _) | (with_reducible refine Kd.C_drew ?_))); (case side2 => exact HC0.out); rintro e w' ⟨rfl, ⟨nd, rfl⟩⟩; refine ⟨_, rfl, ?_⟩; have p364 : 0 ≤ (x13_3 : Int) := oda; have q364 : x13_3 < (t356.length : Int) := oda; obtain ⟨ad364, e364, hx364_0⟩ := Kd.at_int (Kd.R_reads' HO_11.out).2.2 x13_3 p364 q364; obtain rfl : ad362 = ad364 := (by injection e364); replace p364 := eq_true p364; replace q364 := eq_true q364) | ((with_reducible refine gate_builtin (b := .append) (xs := #[.tmp 77, .tmp 79]) rfl ?_); at_builtin; refine Kd.R_append (Kd.int .i64) (w0 := w) w.heap.size rfl (.tmp 77) (.tmp 79) 55 3 (.int .i64 0) 8 rfl Try.underlying55 info3 rfl (by decide) (by omega) u12 x12_3 t363 [.int .i64 t363] (fun k_ => some k_ ≠ (.slice (some ad362) t356.length co32 : Value).ownBlock) (fun _ => False) rfl rfl ?aP (fun _ hk => hk.elim) ?aF ?aO ?aB ?aS ?aL ?_; (case aP => exact rfl); (case aB => exact (mB HB.out)); (case aF => exact (fun k_ hk => Kd.fresh' (Kd.R_lt (mR HO_11.out)) k_ hk)); (case aO => exact (mR HO_12.out)); (case aS => exact (below_size (mB HB.out))); (case aL => have := LMc31.out; omega); intro v373 w33 ho hb hg hat; rw [← Ny372.out] at ho; have n0_ := Aside0.mk (Kd.R_after (ok := (fun _ => True)) (by (with_reducible repeat (first | apply Kd.R_alloc | apply Kd.R_drewN | apply Kd.R_drew)); exact Kd.R_mono HO_11.out (fun _ hk => ⟨trivial, hk⟩)) hg hat); have n1_ := Aside0.mk (hb); have n2_ := Aside0.mk (ho); clear HO_11; clear HB; clear HO_12; have HO_11 := n0_; have HB := n1_; have HO374 := n2_; clear n0_ n1_ n2_; clear ho hb hg hat))
              go_roundg k3
              case measure => have := HJ5.out; have := HK2.out; have := HK3.out; omega
              case rel => exact ⟨(y372), (wrap64 (x13_3 + 1)), ez, H', ⟨by have := HJ5.out; have := HK2.out; have := HK3.out; omega⟩, ⟨by (with_reducible repeat (first | apply Kd.R_alloc | apply Kd.R_drewN | apply Kd.R_drew)); exact Kd.R_mono HO_11.out (fun _ hk => hk.2)⟩, ⟨mR HO374.out⟩, ⟨mB HB.out⟩⟩
             ·rw [if_neg c31] at H
              exact absurd H (by simp)
           ·rw [if_neg c21] at H
            exact absurd H (by simp)
          ·rw [if_neg c20] at H
           have c20b0 : decide (x13_3 < (t356.length : Int)) = false := decide_eq_false c20
           clear c20
           replace H := Option.bind_eq_some_iff.mp H
           obtain ⟨t375, A340, H⟩ := H
           replace H : (some t375) = some r := H
           have A34 := Aside0.mk A340
           clear A340
           obtain rfl := Option.some.inj H
           obtain ⟨Ao35, co35, eo35⟩ := Kd.R_slice HO_11.out
           subst eo35
           obtain ⟨Ao36, co36, eo36⟩ := Kd.R_slice HO_12.out
           subst eo36
           go_wp2_with (first | ((with_reducible refine gate_callee (f := 45) rfl ?_); refine goesL_ (some 83) rfl rfl Try.func45 (by kernel_rfl) rfl #[.slice Ao35 t356.length co35, .slice Ao36 x12_3.length co36] rfl mt ?_; (with_reducible refine (prebendref16_made.calls k3 _ _ t356 _ _ x12_3 t375 _ ?side1 ?side2 ?side3 ?side4 A34.out).mono ?_); (case side1 => exact mC (Kd.R_reads' HO_11.out).2.2); (case side2 => exact (Kd.R_reads' HO_11.out).2.1); (case side3 => exact mC (Kd.R_reads' HO_12.out).2.2); (case side4 => exact (Kd.R_reads' HO_12.out).2.1); rintro e w37 ⟨v376, rfl, ho0, hb⟩; refine ⟨_, rfl, ?_⟩; have n0_ := Aside0.mk (Kd.R_below (mR HO_11.out) hb); have n1_ := Aside0.mk (Kd.R_below (mR HO_12.out) hb); have n2_ := Aside0.mk (Kd.R_lower ho0 (below_size (mB HB.out))); have n3_ := Aside0.mk (below_step (mB HB.out) hb); clear HO_11; clear HO_12; clear HB; have HO_11 := n0_; have HO_12 := n1_; have HO377 := n2_; have HB := n3_; clear n0_ n1_ n2_ n3_; (try clear hb); (try clear hb2); (try clear hk); (try clear hi); (try clear ho0)))
           go_ret
           exact ⟨_, by first | rfl | (simp [errW_none, errW_some] <;> rfl) | (simp [*, errW_none, errW_some] <;> rfl), mR HO377.out, by repeat (first | (with_reducible first | exact HB.out | apply below_alloc | apply pw_below_drewN | apply below_drew1) | exact HB.out)⟩
       ·rw [if_neg c14] at H
        exact absurd H (by simp)

end Go.Proofs.Ytedpoahndddgfaa.PAll
end
section
namespace Go.Proofs.Ytedpoahndddgfaa.PAll
open Go.RowKit Go.Proofs.YtedpoahndddgfaaW.PrintWords Go.Proofs.YtedpoahndddgfaaW.PrintLast Go.Proofs.YtedpoahndddgfaaW.PrintMore
attribute [local go_sem] max2_int min2_int max_two min_two max_three min_three max_four min_four   -- for this text's walks alone
set_option linter.unusedVariables false
set_option linter.unusedSimpArgs false

/-! ### prebendlaw16_awake: function 24 -/
def prebendlaw16_awake.f (k : Nat)  : Option (Bool) := (profile_New.f k 0 4 (([(⟨5, 3⟩ : S38)] : List (S38)))).bind fun t381 => ((profile_Fit.f k t381 2 9).bind fun bt384 => ((prebendref16_Same.f k t381 (([(⟨0, 1⟩ : S40), (⟨5, 4⟩ : S40)] : List (S40)))).bind fun t389 => (if t389 = true then (if bt384.1 = 5 then (if bt384.2 = true then ((profile_Take.f k t381 0 5 1).bind fun t390 => ((prebendref16_Same.f k t390 (([(⟨0, 0⟩ : S40), (⟨5, 4⟩ : S40)] : List (S40)))).bind fun t396 => (if t396 = true then ((profile_At.f k t381 4).bind fun t397 => (some (t397 == 1))) else (some false)))) else (some false)) else (some false)) else (some false))))
theorem prebendlaw16_awake.mono : ∀ k, LeO (prebendlaw16_awake.f k ) (prebendlaw16_awake.f (k + 1) ) := by
 intro  k
 unfold prebendlaw16_awake.f
 repeat' first
   | (with_reducible exact prebendref16_Same.mono _ _ _)
   | (with_reducible exact profile_At.mono _ _ _)
   | (with_reducible exact profile_Fit.mono _ _ _ _)
   | (with_reducible exact profile_New.mono _ _ _ _)
   | (with_reducible exact profile_Take.mono _ _ _ _ _)
   | (with_reducible exact LeO.refl _)
   | (with_reducible exact LeO.none _)
   | (with_reducible refine LeO.ite ?_ ?_)
   | (with_reducible refine LeO.bind ?_ (fun _ => ?_))
   | exact prebendref16_Same.mono _ _ _
   | exact profile_At.mono _ _ _
   | exact profile_Fit.mono _ _ _ _
   | exact profile_New.mono _ _ _ _
   | exact profile_Take.mono _ _ _ _ _
   | exact LeO.none _
   | refine LeO.ite ?_ ?_
   | refine LeO.bind ?_ (fun _ => ?_)
set_option maxHeartbeats 8000000 in
set_option maxRecDepth 100000 in
theorem prebendlaw16_awake.calls (k : Nat)  (r : Bool) (w : World) (h : prebendlaw16_awake.f k  = some r) :
  Calls Try.prog 24 #[] w fun e w' => e = .returned (.bool r) ∧ Below w.heap.size w w' := by
 have hu38 := Try.underlying38
 have hu40 := Try.underlying40
 have HB := Aside0.mk (Below.refl w.heap.size w)
 have H : ((profile_New.f k 0 4 (([(⟨5, 3⟩ : S38)] : List (S38)))).bind fun t381 => ((profile_Fit.f k t381 2 9).bind fun bt384 => ((prebendref16_Same.f k t381 (([(⟨0, 1⟩ : S40), (⟨5, 4⟩ : S40)] : List (S40)))).bind fun t389 => (if t389 = true then (if bt384.1 = 5 then (if bt384.2 = true then ((profile_Take.f k t381 0 5 1).bind fun t390 => ((prebendref16_Same.f k t390 (([(⟨0, 0⟩ : S40), (⟨5, 4⟩ : S40)] : List (S40)))).bind fun t396 => (if t396 = true then ((profile_At.f k t381 4).bind fun t397 => (some (t397 == 1))) else (some false)))) else (some false)) else (some false)) else (some false))))) = some r := h
 clear h
 obtain ⟨y378, hy378⟩ : ∃ y_ : List (S38), y_ = (([(⟨5, 3⟩ : S38)] : List (S38))) := ⟨_, rfl⟩
 replace H : ((profile_New.f k 0 4 y378).bind fun t381 => ((profile_Fit.f k t381 2 9).bind fun bt384 => ((prebendref16_Same.f k t381 (([(⟨0, 1⟩ : S40), (⟨5, 4⟩ : S40)] : List (S40)))).bind fun t389 => (if t389 = true then (if bt384.1 = 5 then (if bt384.2 = true then ((profile_Take.f k t381 0 5 1).bind fun t390 => ((prebendref16_Same.f k t390 (([(⟨0, 0⟩ : S40), (⟨5, 4⟩ : S40)] : List (S40)))).bind fun t396 => (if t396 = true then ((profile_At.f k t381 4).bind fun t397 => (some (t397 == 1))) else (some false)))) else (some false)) else (some false)) else (some false))))) = some r := mH hy378 H
 have Ny378 := Aside0.mk hy378
 clear hy378
 replace H := Option.bind_eq_some_iff.mp H
 obtain ⟨t381, A10, H⟩ := H
 replace H : ((profile_Fit.f k t381 2 9).bind fun bt384 => ((prebendref16_Same.f k t381 (([(⟨0, 1⟩ : S40), (⟨5, 4⟩ : S40)] : List (S40)))).bind fun t389 => (if t389 = true then (if bt384.1 = 5 then (if bt384.2 = true then ((profile_Take.f k t381 0 5 1).bind fun t390 => ((prebendref16_Same.f k t390 (([(⟨0, 0⟩ : S40), (⟨5, 4⟩ : S40)] : List (S40)))).bind fun t396 => (if t396 = true then ((profile_At.f k t381 4).bind fun t397 => (some (t397 == 1))) else (some false)))) else (some false)) else (some false)) else (some false)))) = some r := H
 have A1 := Aside0.mk A10
 clear A10
 replace H := Option.bind_eq_some_iff.mp H
 obtain ⟨⟨t384, t385⟩, A20, H⟩ := H
 replace H : ((prebendref16_Same.f k t381 (([(⟨0, 1⟩ : S40), (⟨5, 4⟩ : S40)] : List (S40)))).bind fun t389 => (if t389 = true then (if t384 = 5 then (if t385 = true then ((profile_Take.f k t381 0 5 1).bind fun t390 => ((prebendref16_Same.f k t390 (([(⟨0, 0⟩ : S40), (⟨5, 4⟩ : S40)] : List (S40)))).bind fun t396 => (if t396 = true then ((profile_At.f k t381 4).bind fun t397 => (some (t397 == 1))) else (some false)))) else (some false)) else (some false)) else (some false))) = some r := H
 have A2 := Aside0.mk A20
 clear A20
 obtain ⟨y386, hy386⟩ : ∃ y_ : List (S40), y_ = (([(⟨0, 1⟩ : S40), (⟨5, 4⟩ : S40)] : List (S40))) := ⟨_, rfl⟩
 replace H : ((prebendref16_Same.f k t381 y386).bind fun t389 => (if t389 = true then (if t384 = 5 then (if t385 = true then ((profile_Take.f k t381 0 5 1).bind fun t390 => ((prebendref16_Same.f k t390 (([(⟨0, 0⟩ : S40), (⟨5, 4⟩ : S40)] : List (S40)))).bind fun t396 => (if t396 = true then ((profile_At.f k t381 4).bind fun t397 => (some (t397 == 1))) else (some false)))) else (some false)) else (some false)) else (some false))) = some r := mH hy386 H
 have Ny386 := Aside0.mk hy386
 clear hy386
 replace H := Option.bind_eq_some_iff.mp H
 obtain ⟨t389, A30, H⟩ := H
 replace H : (if t389 = true then (if t384 = 5 then (if t385 = true then ((profile_Take.f k t381 0 5 1).bind fun t390 => ((prebendref16_Same.f k t390 (([(⟨0, 0⟩ : S40), (⟨5, 4⟩ : S40)] : List (S40)))).bind fun t396 => (if t396 = true then ((profile_At.f k t381 4).bind fun t397 => (some (t397 == 1))) else (some false)))) else (some false)) else (some false)) else (some false)) = some r := H
 have A3 := Aside0.mk A30
 clear A30
 by_cases c4 : t389 = true
 ·subst c4
  have H1 : (if t384 = 5 then (if t385 = true then ((profile_Take.f k t381 0 5 1).bind fun t390 => ((prebendref16_Same.f k t390 (([(⟨0, 0⟩ : S40), (⟨5, 4⟩ : S40)] : List (S40)))).bind fun t396 => (if t396 = true then ((profile_At.f k t381 4).bind fun t397 => (some (t397 == 1))) else (some false)))) else (some false)) else (some false)) = some r := by rw [if_pos rfl] at H; exact H
  clear H
  have H := H1
  clear H1
  by_cases c5 : t384 = 5
  ·rw [if_pos c5] at H
   have c5b0 : (t384 == 5) = true := beq_iff_eq.mpr c5
   have c5b1 : (t384 != 5) = false := bne_eq_false_iff_eq.mpr c5
   clear c5
   by_cases c6 : t385 = true
   ·subst c6
    have H1 : ((profile_Take.f k t381 0 5 1).bind fun t390 => ((prebendref16_Same.f k t390 (([(⟨0, 0⟩ : S40), (⟨5, 4⟩ : S40)] : List (S40)))).bind fun t396 => (if t396 = true then ((profile_At.f k t381 4).bind fun t397 => (some (t397 == 1))) else (some false)))) = some r := by rw [if_pos rfl] at H; exact H
    clear H
    have H := H1
    clear H1
    replace H := Option.bind_eq_some_iff.mp H
    obtain ⟨t390, A70, H⟩ := H
    replace H : ((prebendref16_Same.f k t390 (([(⟨0, 0⟩ : S40), (⟨5, 4⟩ : S40)] : List (S40)))).bind fun t396 => (if t396 = true then ((profile_At.f k t381 4).bind fun t397 => (some (t397 == 1))) else (some false))) = some r := H
    have A7 := Aside0.mk A70
    clear A70
    obtain ⟨y393, hy393⟩ : ∃ y_ : List (S40), y_ = (([(⟨0, 0⟩ : S40), (⟨5, 4⟩ : S40)] : List (S40))) := ⟨_, rfl⟩
    replace H : ((prebendref16_Same.f k t390 y393).bind fun t396 => (if t396 = true then ((profile_At.f k t381 4).bind fun t397 => (some (t397 == 1))) else (some false))) = some r := mH hy393 H
    have Ny393 := Aside0.mk hy393
    clear hy393
    replace H := Option.bind_eq_some_iff.mp H
    obtain ⟨t396, A80, H⟩ := H
    replace H : (if t396 = true then ((profile_At.f k t381 4).bind fun t397 => (some (t397 == 1))) else (some false)) = some r := H
    have A8 := Aside0.mk A80
    clear A80
    by_cases c9 : t396 = true
    ·subst c9
     have H1 : ((profile_At.f k t381 4).bind fun t397 => (some (t397 == 1))) = some r := by rw [if_pos rfl] at H; exact H
     clear H
     have H := H1
     clear H1
     replace H := Option.bind_eq_some_iff.mp H
     obtain ⟨t397, A100, H⟩ := H
     replace H : (some (t397 == 1)) = some r := H
     have A10 := Aside0.mk A100
     clear A100
     obtain rfl := Option.some.inj H
     go_enter Try.func24, Try.ntmps24
     go_wp2_with (first | ((with_reducible refine gate_dst (N := 5) rfl ?_); (try (refine gate_guard (by rfl) ?_; dsimp only)); refine Kd.R_lit k38 _ 38 ?hg (N := 5) ?hd (xs := ([(⟨5, 3⟩ : S38)] : List (S38))) (inner := [.int .i64 5, .int .i64 3]) (ok := fun _ => True) (okp := fun _ => True) ?hr ?hp (fun _ hk => hk) trivial (Below.refl _ _) (Nat.le_refl _) (by simp) ?_; (case hd => rfl); (case hg => rfl); (case hr => first | (go_simp; done) | (go_simp; rfl)); (case hp => exact (Reps.c2 (show Kd.M k38 _ _ _ (⟨5, 3⟩ : S38) [.int .i64 5, .int .i64 3] from (k38_mkM _ _ _ (⟨5, 3⟩ : S38) )) (Reps.none _ _))); intro v379 w11 ho12 hb hg_ hnew_; clear hg_ hnew_; (first | rw [← Ny378.out] at ho12 | (simp only [Int.reduceToNat] at ho12; rw [← Ny378.out] at ho12)); have n0_ := Aside0.mk (Kd.R_lower ho12 (below_size (mB HB.out))); have n1_ := Aside0.mk (below_step (mB HB.out) hb); clear HB; have HO380 := n0_; have HB := n1_; clear n0_ n1_; clear hb ho12; obtain ⟨Ao13, co13, eo13⟩ := Kd.R_slice HO380.out; subst eo13) | ((with_reducible refine gate_callee (f := 14) rfl ?_); refine goesL_ (some 6) rfl rfl Try.func14 (by kernel_rfl) rfl #[.int .i64 0, .int .i64 4, .slice Ao13 y378.length co13] rfl mt ?_; (with_reducible refine (profile_New.calls k 0 4 _ _ y378 t381 _ ?side1 ?side2 A1.out).mono ?_); (case side1 => exact mC (Kd.R_reads' HO380.out).2.2); (case side2 => exact (Kd.R_reads' HO380.out).2.1); rintro e w14 ⟨v382, rfl, ho0, hb⟩; refine ⟨_, rfl, ?_⟩; have n0_ := Aside0.mk (Kd.R_below (mR HO380.out) hb); have n1_ := Aside0.mk (Kd.V_lower (Kd.V_mono (ok' := fun k_ => some k_ ≠ (.slice Ao13 y378.length co13 : Value).ownBlock) ho0 (fun k_ hk_ => (Kd.fresh' (Kd.R_lt (mR HO380.out)) k_ hk_))) (below_size (mB HB.out))); have n2_ := Aside0.mk (below_step (mB HB.out) hb); clear HO380; clear HB; have HO380 := n0_; have HO383 := n1_; have HB := n2_; clear n0_ n1_ n2_; (try clear hb); (try clear hb2); (try clear hk); (try clear hi); (try clear ho0); obtain ⟨Ao15, co15, eo15⟩ := Kd.V_slice HO383.out; subst eo15) | ((with_reducible refine gate_callee (f := 17) rfl ?_); refine goesL_ (some 9) rfl rfl Try.func17 (by kernel_rfl) rfl #[.slice Ao15 t381.length co15, .int .i64 2, .int .i64 9] rfl mt ?_; (with_reducible refine (profile_Fit.calls k _ _ t381 2 9 t384 true _ ?side1 ?side2 A2.out).mono ?_); (case side1 => exact mC (Kd.V_reads' HO383.out).2.2); (case side2 => exact (Kd.V_reads' HO383.out).2.1); rintro e w16 ⟨rfl, hb⟩; refine ⟨_, rfl, ?_⟩; have n0_ := Aside0.mk (Kd.R_below (mR HO380.out) hb); have n1_ := Aside0.mk (Kd.V_below (mV HO383.out) hb); have n2_ := Aside0.mk (below_step (mB HB.out) hb); clear HO380; clear HO383; clear HB; have HO380 := n0_; have HO383 := n1_; have HB := n2_; clear n0_ n1_ n2_; (try clear hb); (try clear hb2); (try clear hk); (try clear hi)) | ((with_reducible refine gate_dst (N := 15) rfl ?_); (try (refine gate_guard (by rfl) ?_; dsimp only)); refine Kd.R_lit k40 _ 40 ?hg (N := 15) ?hd (xs := ([(⟨0, 1⟩ : S40), (⟨5, 4⟩ : S40)] : List (S40))) (inner := [.int .i64 0, .int .i64 1, .int .i64 5, .int .i64 4]) (ok := fun _ => True) (okp := fun _ => True) ?hr ?hp (fun _ hk => hk) trivial (Below.refl _ _) (Nat.le_refl _) (by simp) ?_; (case hd => rfl); (case hg => rfl); (case hr => first | (go_simp; done) | (go_simp; rfl)); (case hp => exact (Reps.c2 (show Kd.M k40 _ _ _ (⟨0, 1⟩ : S40) [.int .i64 0, .int .i64 1] from (k40_mkM _ _ _ (⟨0, 1⟩ : S40) )) (Reps.c2 (show Kd.M k40 _ _ _ (⟨5, 4⟩ : S40) [.int .i64 5, .int .i64 4] from (k40_mkM _ _ _ (⟨5, 4⟩ : S40) )) (Reps.none _ _)))); intro v387 w17 ho18 hb hg_ hnew_; clear hg_ hnew_; (first | rw [← Ny386.out] at ho18 | (simp only [Int.reduceToNat] at ho18; rw [← Ny386.out] at ho18)); have n0_ := Aside0.mk (Kd.R_below (mR HO380.out) hb); have n1_ := Aside0.mk (Kd.V_elder' (mV HO383.out) (Kd.R_base ho18) hb); have n2_ := Aside0.mk (Kd.R_lower ho18 (below_size (mB HB.out))); have n3_ := Aside0.mk (below_step (mB HB.out) hb); clear HO380; clear HO383; clear HB; have HO380 := n0_; have HO383 := n1_; have HO388 := n2_; have HB := n3_; clear n0_ n1_ n2_ n3_; clear hb ho18; obtain ⟨Ao19, co19, eo19⟩ := Kd.R_slice HO388.out; subst eo19) | ((with_reducible refine gate_callee (f := 19) rfl ?_); refine goesL_ (some 16) rfl rfl Try.func19 (by kernel_rfl) rfl #[.slice Ao15 t381.length co15, .slice Ao19 y386.length co19] rfl mt ?_; (with_reducible refine (prebendref16_Same.calls k _ _ t381 _ _ y386 true _ ?side1 ?side2 ?side3 ?side4 A3.out).mono ?_); (case side1 => exact mC (Kd.V_reads' HO383.out).2.2); (case side2 => exact (Kd.V_reads' HO383.out).2.1); (case side3 => exact mC (Kd.R_reads' HO388.out).2.2); (case side4 => exact (Kd.R_reads' HO388.out).2.1); rintro e w' ⟨rfl, ⟨nd, rfl⟩⟩; refine ⟨_, rfl, ?_⟩) | (go_at_call 22; (with_reducible refine (profile_Take.calls k _ _ t381 0 5 1 t390 _ ?side1 ?side2 A7.out).mono ?_); (case side1 => exact mC (Kd.V_reads' HO383.out).2.2); (case side2 => exact (Kd.V_reads' HO383.out).2.1); rintro e w20 ⟨v391, rfl, ho0, hb⟩; have n0_ := Aside0.mk (Kd.R_below (mR HO380.out) hb); have n1_ := Aside0.mk (Kd.V_below (mV HO383.out) hb); have n2_ := Aside0.mk (Kd.R_below (mR HO388.out) hb); have n3_ := Aside0.mk (Kd.V_lower (Kd.V_mono (ok' := fun k_ => some k_ ≠ (.slice Ao13 y378.length co13 : Value).ownBlock ∧ some k_ ≠ (.slice Ao19 y386.length co19 : Value).ownBlock) ho0 (fun k_ hk_ => ⟨(Kd.fresh' (Kd.R_lt (mR HO380.out)) k_ hk_), (Kd.fresh' (Kd.R_lt (mR HO388.out)) k_ hk_)⟩)) (below_size (mB HB.out))); have n4_ := Aside0.mk (below_step (mB HB.out) hb); clear HO380; clear HO383; clear HO388; clear HB; have HO380 := n0_; have HO383 := n1_; have HO388 := n2_; have HO392 := n3_; have HB := n4_; clear n0_ n1_ n2_ n3_ n4_; (try clear hb); (try clear hb2); (try clear hk); (try clear hi); (try clear ho0)) | ((with_reducible refine gate_dst (N := 29) rfl ?_); (try (refine gate_guard (by rfl) ?_; dsimp only)); refine Kd.R_lit k40 _ 40 ?hg (N := 29) ?hd (xs := ([(⟨0, 0⟩ : S40), (⟨5, 4⟩ : S40)] : List (S40))) (inner := [.int .i64 0, .int .i64 0, .int .i64 5, .int .i64 4]) (ok := fun _ => True) (okp := fun _ => True) ?hr ?hp (fun _ hk => hk) trivial (Below.refl _ _) (Nat.le_refl _) (by simp) ?_; (case hd => rfl); (case hg => rfl); (case hr => first | (go_simp; done) | (go_simp; rfl)); (case hp => exact (Reps.c2 (show Kd.M k40 _ _ _ (⟨0, 0⟩ : S40) [.int .i64 0, .int .i64 0] from (k40_mkM _ _ _ (⟨0, 0⟩ : S40) )) (Reps.c2 (show Kd.M k40 _ _ _ (⟨5, 4⟩ : S40) [.int .i64 5, .int .i64 4] from (k40_mkM _ _ _ (⟨5, 4⟩ : S40) )) (Reps.none _ _)))); intro v394 w21 ho22 hb hg_ hnew_; clear hg_ hnew_; (first | rw [← Ny393.out] at ho22 | (simp only [Int.reduceToNat] at ho22; rw [← Ny393.out] at ho22)); have n0_ := Aside0.mk (Kd.R_below (mR HO380.out) hb); have n1_ := Aside0.mk (Kd.V_elder' (mV HO383.out) (Kd.R_base ho22) hb); have n2_ := Aside0.mk (Kd.R_elder' (mR HO388.out) (Kd.R_base ho22) hb); have n3_ := Aside0.mk (Kd.V_elder' (mV HO392.out) (Kd.R_base ho22) hb); have n4_ := Aside0.mk (Kd.R_lower (Kd.R_new' ho22 (Kd.R_lt (mR HO388.out))) (below_size (mB HB.out))); have n5_ := Aside0.mk (below_step (mB HB.out) hb); clear HO380; clear HO383; clear HO388; clear HO392; clear HB; have HO380 := n0_; have HO383 := n1_; have HO388 := n2_; have HO392 := n3_; have HO395 := n4_; have HB := n5_; clear n0_ n1_ n2_ n3_ n4_ n5_; clear hb ho22; obtain ⟨Ao23, co23, eo23⟩ := Kd.V_slice HO392.out; subst eo23; obtain ⟨Ao24, co24, eo24⟩ := Kd.R_slice HO395.out; subst eo24) | (go_at_call 19; (with_reducible refine (prebendref16_Same.calls k _ _ t390 _ _ y393 true _ ?side1 ?side2 ?side3 ?side4 A8.out).mono ?_); (case side1 => exact mC (Kd.V_reads' HO392.out).2.2); (case side2 => exact (Kd.V_reads' HO392.out).2.1); (case side3 => exact mC (Kd.R_reads' HO395.out).2.2); (case side4 => exact (Kd.R_reads' HO395.out).2.1); rintro e w' ⟨rfl, ⟨nd, rfl⟩⟩) | (go_at_call 20; (with_reducible refine (profile_At.calls k _ _ t381 4 t397 _ ?side1 ?side2 A10.out).mono ?_); (case side1 => exact mC (Kd.V_reads' HO383.out).2.2); (case side2 => exact (Kd.V_reads' HO383.out).2.1); rintro e w25 ⟨rfl, hb⟩; have n0_ := Aside0.mk (Kd.R_below (mR HO380.out) hb); have n1_ := Aside0.mk (Kd.V_below (mV HO383.out) hb); have n2_ := Aside0.mk (Kd.R_below (mR HO388.out) hb); have n3_ := Aside0.mk (Kd.V_below (mV HO392.out) hb); have n4_ := Aside0.mk (Kd.R_below (mR HO395.out) hb); have n5_ := Aside0.mk (below_step (mB HB.out) hb); clear HO380; clear HO383; clear HO388; clear HO392; clear HO395; clear HB; have HO380 := n0_; have HO383 := n1_; have HO388 := n2_; have HO392 := n3_; have HO395 := n4_; have HB := n5_; clear n0_ n1_ n2_ n3_ n4_ n5_; (try clear hb); (try clear hb2); (try clear hk); (try clear hi)))
     go_ret
     exact ⟨by first | rfl | (simp [errW_none, errW_some] <;> rfl) | (simp [*, errW_none, errW_some] <;> rfl), by repeat (first | (with_reducible first | exact HB.out | apply below_alloc | apply pw_below_drewN | apply below_drew1) | exact HB.out)⟩
    ·replace c9 := Bool.eq_false_iff.mpr c9
     subst c9
     have H1 : (some false) = some r := by rw [if_neg (show ¬ (false = true) by decide)] at H; exact H
     clear H
     have H := H1
     clear H1
     obtain rfl := Option.some.inj H
     go_enter Try.func24, Try.ntmps24
     go_wp2_with (first | ((with_reducible refine gate_dst (N := 5) rfl ?_); (try (refine gate_guard (by rfl) ?_; dsimp only)); refine Kd.R_lit k38 _ 38 ?hg (N := 5) ?hd (xs := ([(⟨5, 3⟩ : S38)] : List (S38))) (inner := [.int .i64 5, .int .i64 3]) (ok := fun _ => True) (okp := fun _ => True) ?hr ?hp (fun _ hk => hk) trivial (Below.refl _ _) (Nat.le_refl _) (by simp) ?_; (case hd => rfl); (case hg => rfl); (case hr => first | (go_simp; done) | (go_simp; rfl)); (case hp => exact (Reps.c2 (show Kd.M k38 _ _ _ (⟨5, 3⟩ : S38) [.int .i64 5, .int .i64 3] from (k38_mkM _ _ _ (⟨5, 3⟩ : S38) )) (Reps.none _ _))); intro v379 w26 ho27 hb hg_ hnew_; clear hg_ hnew_; (first | rw [← Ny378.out] at ho27 | (simp only [Int.reduceToNat] at ho27; rw [← Ny378.out] at ho27)); have n0_ := Aside0.mk (Kd.R_lower ho27 (below_size (mB HB.out))); have n1_ := Aside0.mk (below_step (mB HB.out) hb); clear HB; have HO380 := n0_; have HB := n1_; clear n0_ n1_; clear hb ho27; obtain ⟨Ao28, co28, eo28⟩ := Kd.R_slice HO380.out; subst eo28) | ((with_reducible refine gate_callee (f := 14) rfl ?_); refine goesL_ (some 6) rfl rfl Try.func14 (by kernel_rfl) rfl #[.int .i64 0, .int .i64 4, .slice Ao28 y378.length co28] rfl mt ?_; (with_reducible refine (profile_New.calls k 0 4 _ _ y378 t381 _ ?side1 ?side2 A1.out).mono ?_); (case side1 => exact mC (Kd.R_reads' HO380.out).2.2); (case side2 => exact (Kd.R_reads' HO380.out).2.1); rintro e w29 ⟨v382, rfl, ho0, hb⟩; refine ⟨_, rfl, ?_⟩; have n0_ := Aside0.mk (Kd.R_below (mR HO380.out) hb); have n1_ := Aside0.mk (Kd.V_lower (Kd.V_mono (ok' := fun k_ => some k_ ≠ (.slice Ao28 y378.length co28 : Value).ownBlock) ho0 (fun k_ hk_ => (Kd.fresh' (Kd.R_lt (mR HO380.out)) k_ hk_))) (below_size (mB HB.out))); have n2_ := Aside0.mk (below_step (mB HB.out) hb); clear HO380; clear HB; have HO380 := n0_; have HO383 := n1_; have HB := n2_; clear n0_ n1_ n2_; (try clear hb); (try clear hb2); (try clear hk); (try clear hi); (try clear ho0); obtain ⟨Ao30, co30, eo30⟩ := Kd.V_slice HO383.out; subst eo30) | ((with_reducible refine gate_callee (f := 17) rfl ?_); refine goesL_ (some 9) rfl rfl Try.func17 (by kernel_rfl) rfl #[.slice Ao30 t381.length co30, .int .i64 2, .int .i64 9] rfl mt ?_; (with_reducible refine (profile_Fit.calls k _ _ t381 2 9 t384 true _ ?side1 ?side2 A2.out).mono ?_); (case side1 => exact mC (Kd.V_reads' HO383.out).2.2); (case side2 => exact (Kd.V_reads' HO383.out).2.1); rintro e w31 ⟨rfl, hb⟩; refine ⟨_, rfl, ?_⟩; have n0_ := Aside0.mk (Kd.R_below (mR HO380.out) hb); have n1_ := Aside0.mk (Kd.V_below (mV HO383.out) hb); have n2_ := Aside0.mk (below_step (mB HB.out) hb); clear HO380; clear HO383; clear HB; have HO380 := n0_; have HO383 := n1_; have HB := n2_; clear n0_ n1_ n2_; (try clear hb); (try clear hb2); (try clear hk); (try clear hi)) | ((with_reducible refine gate_dst (N := 15) rfl ?_); (try (refine gate_guard (by rfl) ?_; dsimp only)); refine Kd.R_lit k40 _ 40 ?hg (N := 15) ?hd (xs := ([(⟨0, 1⟩ : S40), (⟨5, 4⟩ : S40)] : List (S40))) (inner := [.int .i64 0, .int .i64 1, .int .i64 5, .int .i64 4]) (ok := fun _ => True) (okp := fun _ => True) ?hr ?hp (fun _ hk => hk) trivial (Below.refl _ _) (Nat.le_refl _) (by simp) ?_; (case hd => rfl); (case hg => rfl); (case hr => first | (go_simp; done) | (go_simp; rfl)); (case hp => exact (Reps.c2 (show Kd.M k40 _ _ _ (⟨0, 1⟩ : S40) [.int .i64 0, .int .i64 1] from (k40_mkM _ _ _ (⟨0, 1⟩ : S40) )) (Reps.c2 (show Kd.M k40 _ _ _ (⟨5, 4⟩ : S40) [.int .i64 5, .int .i64 4] from (k40_mkM _ _ _ (⟨5, 4⟩ : S40) )) (Reps.none _ _)))); intro v387 w32 ho33 hb hg_ hnew_; clear hg_ hnew_; (first | rw [← Ny386.out] at ho33 | (simp only [Int.reduceToNat] at ho33; rw [← Ny386.out] at ho33)); have n0_ := Aside0.mk (Kd.R_below (mR HO380.out) hb); have n1_ := Aside0.mk (Kd.V_elder' (mV HO383.out) (Kd.R_base ho33) hb); have n2_ := Aside0.mk (Kd.R_lower ho33 (below_size (mB HB.out))); have n3_ := Aside0.mk (below_step (mB HB.out) hb); clear HO380; clear HO383; clear HB; have HO380 := n0_; have HO383 := n1_; have HO388 := n2_; have HB := n3_; clear n0_ n1_ n2_ n3_; clear hb ho33; obtain ⟨Ao34, co34, eo34⟩ := Kd.R_slice HO388.out; subst eo34) | ((with_reducible refine gate_callee (f := 19) rfl ?_); refine goesL_ (some 16) rfl rfl Try.func19 (by kernel_rfl) rfl #[.slice Ao30 t381.length co30, .slice Ao34 y386.length co34] rfl mt ?_; (with_reducible refine (prebendref16_Same.calls k _ _ t381 _ _ y386 true _ ?side1 ?side2 ?side3 ?side4 A3.out).mono ?_); (case side1 => exact mC (Kd.V_reads' HO383.out).2.2); (case side2 => exact (Kd.V_reads' HO383.out).2.1); (case side3 => exact mC (Kd.R_reads' HO388.out).2.2); (case side4 => exact (Kd.R_reads' HO388.out).2.1); rintro e w' ⟨rfl, ⟨nd, rfl⟩⟩; refine ⟨_, rfl, ?_⟩) | (go_at_call 22; (with_reducible refine (profile_Take.calls k _ _ t381 0 5 1 t390 _ ?side1 ?side2 A7.out).mono ?_); (case side1 => exact mC (Kd.V_reads' HO383.out).2.2); (case side2 => exact (Kd.V_reads' HO383.out).2.1); rintro e w35 ⟨v391, rfl, ho0, hb⟩; have n0_ := Aside0.mk (Kd.R_below (mR HO380.out) hb); have n1_ := Aside0.mk (Kd.V_below (mV HO383.out) hb); have n2_ := Aside0.mk (Kd.R_below (mR HO388.out) hb); have n3_ := Aside0.mk (Kd.V_lower (Kd.V_mono (ok' := fun k_ => some k_ ≠ (.slice Ao28 y378.length co28 : Value).ownBlock ∧ some k_ ≠ (.slice Ao34 y386.length co34 : Value).ownBlock) ho0 (fun k_ hk_ => ⟨(Kd.fresh' (Kd.R_lt (mR HO380.out)) k_ hk_), (Kd.fresh' (Kd.R_lt (mR HO388.out)) k_ hk_)⟩)) (below_size (mB HB.out))); have n4_ := Aside0.mk (below_step (mB HB.out) hb); clear HO380; clear HO383; clear HO388; clear HB; have HO380 := n0_; have HO383 := n1_; have HO388 := n2_; have HO392 := n3_; have HB := n4_; clear n0_ n1_ n2_ n3_ n4_; (try clear hb); (try clear hb2); (try clear hk); (try clear hi); (try clear ho0)) | ((with_reducible refine gate_dst (N := 29) rfl ?_); (try (refine gate_guard (by rfl) ?_; dsimp only)); refine Kd.R_lit k40 _ 40 ?hg (N := 29) ?hd (xs := ([(⟨0, 0⟩ : S40), (⟨5, 4⟩ : S40)] : List (S40))) (inner := [.int .i64 0, .int .i64 0, .int .i64 5, .int .i64 4]) (ok := fun _ => True) (okp := fun _ => True) ?hr ?hp (fun _ hk => hk) trivial (Below.refl _ _) (Nat.le_refl _) (by simp) ?_; (case hd => rfl); (case hg => rfl); (case hr => first | (go_simp; done) | (go_simp; rfl)); (case hp => exact (Reps.c2 (show Kd.M k40 _ _ _ (⟨0, 0⟩ : S40) [.int .i64 0, .int .i64 0] from (k40_mkM _ _ _ (⟨0, 0⟩ : S40) )) (Reps.c2 (show Kd.M k40 _ _ _ (⟨5, 4⟩ : S40) [.int .i64 5, .int .i64 4] from (k40_mkM _ _ _ (⟨5, 4⟩ : S40) )) (Reps.none _ _)))); intro v394 w36 ho37 hb hg_ hnew_; clear hg_ hnew_; (first | rw [← Ny393.out] at ho37 | (simp only [Int.reduceToNat] at ho37; rw [← Ny393.out] at ho37)); have n0_ := Aside0.mk (Kd.R_below (mR HO380.out) hb); have n1_ := Aside0.mk (Kd.V_elder' (mV HO383.out) (Kd.R_base ho37) hb); have n2_ := Aside0.mk (Kd.R_elder' (mR HO388.out) (Kd.R_base ho37) hb); have n3_ := Aside0.mk (Kd.V_elder' (mV HO392.out) (Kd.R_base ho37) hb); have n4_ := Aside0.mk (Kd.R_lower (Kd.R_new' ho37 (Kd.R_lt (mR HO388.out))) (below_size (mB HB.out))); have n5_ := Aside0.mk (below_step (mB HB.out) hb); clear HO380; clear HO383; clear HO388; clear HO392; clear HB; have HO380 := n0_; have HO383 := n1_; have HO388 := n2_; have HO392 := n3_; have HO395 := n4_; have HB := n5_; clear n0_ n1_ n2_ n3_ n4_ n5_; clear hb ho37; obtain ⟨Ao38, co38, eo38⟩ := Kd.V_slice HO392.out; subst eo38; obtain ⟨Ao39, co39, eo39⟩ := Kd.R_slice HO395.out; subst eo39) | (go_at_call 19; (with_reducible refine (prebendref16_Same.calls k _ _ t390 _ _ y393 false _ ?side1 ?side2 ?side3 ?side4 A8.out).mono ?_); (case side1 => exact mC (Kd.V_reads' HO392.out).2.2); (case side2 => exact (Kd.V_reads' HO392.out).2.1); (case side3 => exact mC (Kd.R_reads' HO395.out).2.2); (case side4 => exact (Kd.R_reads' HO395.out).2.1); rintro e w' ⟨rfl, ⟨nd, rfl⟩⟩))
     go_ret
     exact ⟨by first | rfl | (simp [errW_none, errW_some] <;> rfl) | (simp [*, errW_none, errW_some] <;> rfl), by repeat (first | (with_reducible first | exact HB.out | apply below_alloc | apply pw_below_drewN | apply below_drew1) | exact HB.out)⟩
   ·replace c6 := Bool.eq_false_iff.mpr c6
    subst c6
    have H1 : (some false) = some r := by rw [if_neg (show ¬ (false = true) by decide)] at H; exact H
    clear H
    have H := H1
    clear H1
    obtain rfl := Option.some.inj H
    go_enter Try.func24, Try.ntmps24
    go_wp2_with (first | ((with_reducible refine gate_dst (N := 5) rfl ?_); (try (refine gate_guard (by rfl) ?_; dsimp only)); refine Kd.R_lit k38 _ 38 ?hg (N := 5) ?hd (xs := ([(⟨5, 3⟩ : S38)] : List (S38))) (inner := [.int .i64 5, .int .i64 3]) (ok := fun _ => True) (okp := fun _ => True) ?hr ?hp (fun _ hk => hk) trivial (Below.refl _ _) (Nat.le_refl _) (by simp) ?_; (case hd => rfl); (case hg => rfl); (case hr => first | (go_simp; done) | (go_simp; rfl)); (case hp => exact (Reps.c2 (show Kd.M k38 _ _ _ (⟨5, 3⟩ : S38) [.int .i64 5, .int .i64 3] from (k38_mkM _ _ _ (⟨5, 3⟩ : S38) )) (Reps.none _ _))); intro v379 w40 ho41 hb hg_ hnew_; clear hg_ hnew_; (first | rw [← Ny378.out] at ho41 | (simp only [Int.reduceToNat] at ho41; rw [← Ny378.out] at ho41)); have n0_ := Aside0.mk (Kd.R_lower ho41 (below_size (mB HB.out))); have n1_ := Aside0.mk (below_step (mB HB.out) hb); clear HB; have HO380 := n0_; have HB := n1_; clear n0_ n1_; clear hb ho41; obtain ⟨Ao42, co42, eo42⟩ := Kd.R_slice HO380.out; subst eo42) | ((with_reducible refine gate_callee (f := 14) rfl ?_); refine goesL_ (some 6) rfl rfl Try.func14 (by kernel_rfl) rfl #[.int .i64 0, .int .i64 4, .slice Ao42 y378.length co42] rfl mt ?_; (with_reducible refine (profile_New.calls k 0 4 _ _ y378 t381 _ ?side1 ?side2 A1.out).mono ?_); (case side1 => exact mC (Kd.R_reads' HO380.out).2.2); (case side2 => exact (Kd.R_reads' HO380.out).2.1); rintro e w43 ⟨v382, rfl, ho0, hb⟩; refine ⟨_, rfl, ?_⟩; have n0_ := Aside0.mk (Kd.R_below (mR HO380.out) hb); have n1_ := Aside0.mk (Kd.V_lower (Kd.V_mono (ok' := fun k_ => some k_ ≠ (.slice Ao42 y378.length co42 : Value).ownBlock) ho0 (fun k_ hk_ => (Kd.fresh' (Kd.R_lt (mR HO380.out)) k_ hk_))) (below_size (mB HB.out))); have n2_ := Aside0.mk (below_step (mB HB.out) hb); clear HO380; clear HB; have HO380 := n0_; have HO383 := n1_; have HB := n2_; clear n0_ n1_ n2_; (try clear hb); (try clear hb2); (try clear hk); (try clear hi); (try clear ho0); obtain ⟨Ao44, co44, eo44⟩ := Kd.V_slice HO383.out; subst eo44) | ((with_reducible refine gate_callee (f := 17) rfl ?_); refine goesL_ (some 9) rfl rfl Try.func17 (by kernel_rfl) rfl #[.slice Ao44 t381.length co44, .int .i64 2, .int .i64 9] rfl mt ?_; (with_reducible refine (profile_Fit.calls k _ _ t381 2 9 t384 false _ ?side1 ?side2 A2.out).mono ?_); (case side1 => exact mC (Kd.V_reads' HO383.out).2.2); (case side2 => exact (Kd.V_reads' HO383.out).2.1); rintro e w45 ⟨rfl, hb⟩; refine ⟨_, rfl, ?_⟩; have n0_ := Aside0.mk (Kd.R_below (mR HO380.out) hb); have n1_ := Aside0.mk (Kd.V_below (mV HO383.out) hb); have n2_ := Aside0.mk (below_step (mB HB.out) hb); clear HO380; clear HO383; clear HB; have HO380 := n0_; have HO383 := n1_; have HB := n2_; clear n0_ n1_ n2_; (try clear hb); (try clear hb2); (try clear hk); (try clear hi)) | ((with_reducible refine gate_dst (N := 15) rfl ?_); (try (refine gate_guard (by rfl) ?_; dsimp only)); refine Kd.R_lit k40 _ 40 ?hg (N := 15) ?hd (xs := ([(⟨0, 1⟩ : S40), (⟨5, 4⟩ : S40)] : List (S40))) (inner := [.int .i64 0, .int .i64 1, .int .i64 5, .int .i64 4]) (ok := fun _ => True) (okp := fun _ => True) ?hr ?hp (fun _ hk => hk) trivial (Below.refl _ _) (Nat.le_refl _) (by simp) ?_; (case hd => rfl); (case hg => rfl); (case hr => first | (go_simp; done) | (go_simp; rfl)); (case hp => exact (Reps.c2 (show Kd.M k40 _ _ _ (⟨0, 1⟩ : S40) [.int .i64 0, .int .i64 1] from (k40_mkM _ _ _ (⟨0, 1⟩ : S40) )) (Reps.c2 (show Kd.M k40 _ _ _ (⟨5, 4⟩ : S40) [.int .i64 5, .int .i64 4] from (k40_mkM _ _ _ (⟨5, 4⟩ : S40) )) (Reps.none _ _)))); intro v387 w46 ho47 hb hg_ hnew_; clear hg_ hnew_; (first | rw [← Ny386.out] at ho47 | (simp only [Int.reduceToNat] at ho47; rw [← Ny386.out] at ho47)); have n0_ := Aside0.mk (Kd.R_below (mR HO380.out) hb); have n1_ := Aside0.mk (Kd.V_elder' (mV HO383.out) (Kd.R_base ho47) hb); have n2_ := Aside0.mk (Kd.R_lower ho47 (below_size (mB HB.out))); have n3_ := Aside0.mk (below_step (mB HB.out) hb); clear HO380; clear HO383; clear HB; have HO380 := n0_; have HO383 := n1_; have HO388 := n2_; have HB := n3_; clear n0_ n1_ n2_ n3_; clear hb ho47; obtain ⟨Ao48, co48, eo48⟩ := Kd.R_slice HO388.out; subst eo48) | ((with_reducible refine gate_callee (f := 19) rfl ?_); refine goesL_ (some 16) rfl rfl Try.func19 (by kernel_rfl) rfl #[.slice Ao44 t381.length co44, .slice Ao48 y386.length co48] rfl mt ?_; (with_reducible refine (prebendref16_Same.calls k _ _ t381 _ _ y386 true _ ?side1 ?side2 ?side3 ?side4 A3.out).mono ?_); (case side1 => exact mC (Kd.V_reads' HO383.out).2.2); (case side2 => exact (Kd.V_reads' HO383.out).2.1); (case side3 => exact mC (Kd.R_reads' HO388.out).2.2); (case side4 => exact (Kd.R_reads' HO388.out).2.1); rintro e w' ⟨rfl, ⟨nd, rfl⟩⟩; refine ⟨_, rfl, ?_⟩))
    go_ret
    exact ⟨by first | rfl | (simp [errW_none, errW_some] <;> rfl) | (simp [*, errW_none, errW_some] <;> rfl), by repeat (first | (with_reducible first | exact HB.out | apply below_alloc | apply pw_below_drewN | apply below_drew1) | exact HB.out)⟩
  ·rw [if_neg c5] at H
   have c5b0 : (t384 == 5) = false := beq_eq_false_iff_ne.mpr c5
   have c5b1 : (t384 != 5) = true := bne_iff_ne.mpr c5
   obtain rfl := Option.some.inj H
   go_enter Try.func24, Try.ntmps24
   go_wp2_with (first | ((with_reducible refine gate_dst (N := 5) rfl ?_); (try (refine gate_guard (by rfl) ?_; dsimp only)); refine Kd.R_lit k38 _ 38 ?hg (N := 5) ?hd (xs := ([(⟨5, 3⟩ : S38)] : List (S38))) (inner := [.int .i64 5, .int .i64 3]) (ok := fun _ => True) (okp := fun _ => True) ?hr ?hp (fun _ hk => hk) trivial (Below.refl _ _) (Nat.le_refl _) (by simp) ?_; (case hd => rfl); (case hg => rfl); (case hr => first | (go_simp; done) | (go_simp; rfl)); (case hp => exact (Reps.c2 (show Kd.M k38 _ _ _ (⟨5, 3⟩ : S38) [.int .i64 5, .int .i64 3] from (k38_mkM _ _ _ (⟨5, 3⟩ : S38) )) (Reps.none _ _))); intro v379 w49 ho50 hb hg_ hnew_; clear hg_ hnew_; (first | rw [← Ny378.out] at ho50 | (simp only [Int.reduceToNat] at ho50; rw [← Ny378.out] at ho50)); have n0_ := Aside0.mk (Kd.R_lower ho50 (below_size (mB HB.out))); have n1_ := Aside0.mk (below_step (mB HB.out) hb); clear HB; have HO380 := n0_; have HB := n1_; clear n0_ n1_; clear hb ho50; obtain ⟨Ao51, co51, eo51⟩ := Kd.R_slice HO380.out; subst eo51) | ((with_reducible refine gate_callee (f := 14) rfl ?_); refine goesL_ (some 6) rfl rfl Try.func14 (by kernel_rfl) rfl #[.int .i64 0, .int .i64 4, .slice Ao51 y378.length co51] rfl mt ?_; (with_reducible refine (profile_New.calls k 0 4 _ _ y378 t381 _ ?side1 ?side2 A1.out).mono ?_); (case side1 => exact mC (Kd.R_reads' HO380.out).2.2); (case side2 => exact (Kd.R_reads' HO380.out).2.1); rintro e w52 ⟨v382, rfl, ho0, hb⟩; refine ⟨_, rfl, ?_⟩; have n0_ := Aside0.mk (Kd.R_below (mR HO380.out) hb); have n1_ := Aside0.mk (Kd.V_lower (Kd.V_mono (ok' := fun k_ => some k_ ≠ (.slice Ao51 y378.length co51 : Value).ownBlock) ho0 (fun k_ hk_ => (Kd.fresh' (Kd.R_lt (mR HO380.out)) k_ hk_))) (below_size (mB HB.out))); have n2_ := Aside0.mk (below_step (mB HB.out) hb); clear HO380; clear HB; have HO380 := n0_; have HO383 := n1_; have HB := n2_; clear n0_ n1_ n2_; (try clear hb); (try clear hb2); (try clear hk); (try clear hi); (try clear ho0); obtain ⟨Ao53, co53, eo53⟩ := Kd.V_slice HO383.out; subst eo53) | ((with_reducible refine gate_callee (f := 17) rfl ?_); refine goesL_ (some 9) rfl rfl Try.func17 (by kernel_rfl) rfl #[.slice Ao53 t381.length co53, .int .i64 2, .int .i64 9] rfl mt ?_; (with_reducible refine (profile_Fit.calls k _ _ t381 2 9 t384 t385 _ ?side1 ?side2 A2.out).mono ?_); (case side1 => exact mC (Kd.V_reads' HO383.out).2.2); (case side2 => exact (Kd.V_reads' HO383.out).2.1); rintro e w54 ⟨rfl, hb⟩; refine ⟨_, rfl, ?_⟩; have n0_ := Aside0.mk (Kd.R_below (mR HO380.out) hb); have n1_ := Aside0.mk (Kd.V_below (mV HO383.out) hb); have n2_ := Aside0.mk (below_step (mB HB.out) hb); clear HO380; clear HO383; clear HB; have HO380 := n0_; have HO383 := n1_; have HB := n2_; clear n0_ n1_ n2_; (try clear hb); (try clear hb2); (try clear hk); (try clear hi)) | ((with_reducible refine gate_dst (N := 15) rfl ?_); (try (refine gate_guard (by rfl) ?_; dsimp only)); refine Kd.R_lit k40 _ 40 ?hg (N := 15) ?hd (xs := ([(⟨0, 1⟩ : S40), (⟨5, 4⟩ : S40)] : List (S40))) (inner := [.int .i64 0, .int .i64 1, .int .i64 5, .int .i64 4]) (ok := fun _ => True) (okp := fun _ => True) ?hr ?hp (fun _ hk => hk) trivial (Below.refl _ _) (Nat.le_refl _) (by simp) ?_; (case hd => rfl); (case hg => rfl); (case hr => first | (go_simp; done) | (go_simp; rfl)); (case hp => exact (Reps.c2 (show Kd.M k40 _ _ _ (⟨0, 1⟩ : S40) [.int .i64 0, .int .i64 1] from (k40_mkM _ _ _ (⟨0, 1⟩ : S40) )) (Reps.c2 (show Kd.M k40 _ _ _ (⟨5, 4⟩ : S40) [.int .i64 5, .int .i64 4] from (k40_mkM _ _ _ (⟨5, 4⟩ : S40) )) (Reps.none _ _)))); intro v387 w55 ho56 hb hg_ hnew_; clear hg_ hnew_; (first | rw [← Ny386.out] at ho56 | (simp only [Int.reduceToNat] at ho56; rw [← Ny386.out] at ho56)); have n0_ := Aside0.mk (Kd.R_below (mR HO380.out) hb); have n1_ := Aside0.mk (Kd.V_elder' (mV HO383.out) (Kd.R_base ho56) hb); have n2_ := Aside0.mk (Kd.R_lower ho56 (below_size (mB HB.out))); have n3_ := Aside0.mk (below_step (mB HB.out) hb); clear HO380; clear HO383; clear HB; have HO380 := n0_; have HO383 := n1_; have HO388 := n2_; have HB := n3_; clear n0_ n1_ n2_ n3_; clear hb ho56; obtain ⟨Ao57, co57, eo57⟩ := Kd.R_slice HO388.out; subst eo57) | ((with_reducible refine gate_callee (f := 19) rfl ?_); refine goesL_ (some 16) rfl rfl Try.func19 (by kernel_rfl) rfl #[.slice Ao53 t381.length co53, .slice Ao57 y386.length co57] rfl mt ?_; (with_reducible refine (prebendref16_Same.calls k _ _ t381 _ _ y386 true _ ?side1 ?side2 ?side3 ?side4 A3.out).mono ?_); (case side1 => exact mC (Kd.V_reads' HO383.out).2.2); (case side2 => exact (Kd.V_reads' HO383.out).2.1); (case side3 => exact mC (Kd.R_reads' HO388.out).2.2); (case side4 => exact (Kd.R_reads' HO388.out).2.1); rintro e w' ⟨rfl, ⟨nd, rfl⟩⟩; refine ⟨_, rfl, ?_⟩))
   go_ret
   exact ⟨by first | rfl | (simp [errW_none, errW_some] <;> rfl) | (simp [*, errW_none, errW_some] <;> rfl), by repeat (first | (with_reducible first | exact HB.out | apply below_alloc | apply pw_below_drewN | apply below_drew1) | exact HB.out)⟩
 ·replace c4 := Bool.eq_false_iff.mpr c4
  subst c4
  have H1 : (some false) = some r := by rw [if_neg (show ¬ (false = true) by decide)] at H; exact H
  clear H
  have H := H1
  clear H1
  obtain rfl := Option.some.inj H
  go_enter Try.func24, Try.ntmps24
  go_wp2_with (first | ((with_reducible refine gate_dst (N := 5) rfl ?_); (try (refine gate_guard (by rfl) ?_; dsimp only)); refine Kd.R_lit k38 _ 38 ?hg (N := 5) ?hd (xs := ([(⟨5, 3⟩ : S38)] : List (S38))) (inner := [.int .i64 5, .int .i64 3]) (ok := fun _ => True) (okp := fun _ => True) ?hr ?hp (fun _ hk => hk) trivial (Below.refl _ _) (Nat.le_refl _) (by simp) ?_; (case hd => rfl); (case hg => rfl); (case hr => first | (go_simp; done) | (go_simp; rfl)); (case hp => exact (Reps.c2 (show Kd.M k38 _ _ _ (⟨5, 3⟩ : S38) [.int .i64 5, .int .i64 3] from (k38_mkM _ _ _ (⟨5, 3⟩ : S38) )) (Reps.none _ _))); intro v379 w58 ho59 hb hg_ hnew_; clear hg_ hnew_; (first | rw [← Ny378.out] at ho59 | (simp only [Int.reduceToNat] at ho59; rw [← Ny378.out] at ho59)); have n0_ := Aside0.mk (Kd.R_lower ho59 (below_size (mB HB.out))); have n1_ := Aside0.mk (below_step (mB HB.out) hb); clear HB; have HO380 := n0_; have HB := n1_; clear n0_ n1_; clear hb ho59; obtain ⟨Ao60, co60, eo60⟩ := Kd.R_slice HO380.out; subst eo60) | ((with_reducible refine gate_callee (f := 14) rfl ?_); refine goesL_ (some 6) rfl rfl Try.func14 (by kernel_rfl) rfl #[.int .i64 0, .int .i64 4, .slice Ao60 y378.length co60] rfl mt ?_; (with_reducible refine (profile_New.calls k 0 4 _ _ y378 t381 _ ?side1 ?side2 A1.out).mono ?_); (case side1 => exact mC (Kd.R_reads' HO380.out).2.2); (case side2 => exact (Kd.R_reads' HO380.out).2.1); rintro e w61 ⟨v382, rfl, ho0, hb⟩; refine ⟨_, rfl, ?_⟩; have n0_ := Aside0.mk (Kd.R_below (mR HO380.out) hb); have n1_ := Aside0.mk (Kd.V_lower (Kd.V_mono (ok' := fun k_ => some k_ ≠ (.slice Ao60 y378.length co60 : Value).ownBlock) ho0 (fun k_ hk_ => (Kd.fresh' (Kd.R_lt (mR HO380.out)) k_ hk_))) (below_size (mB HB.out))); have n2_ := Aside0.mk (below_step (mB HB.out) hb); clear HO380; clear HB; have HO380 := n0_; have HO383 := n1_; have HB := n2_; clear n0_ n1_ n2_; (try clear hb); (try clear hb2); (try clear hk); (try clear hi); (try clear ho0); obtain ⟨Ao62, co62, eo62⟩ := Kd.V_slice HO383.out; subst eo62) | ((with_reducible refine gate_callee (f := 17) rfl ?_); refine goesL_ (some 9) rfl rfl Try.func17 (by kernel_rfl) rfl #[.slice Ao62 t381.length co62, .int .i64 2, .int .i64 9] rfl mt ?_; (with_reducible refine (profile_Fit.calls k _ _ t381 2 9 t384 t385 _ ?side1 ?side2 A2.out).mono ?_); (case side1 => exact mC (Kd.V_reads' HO383.out).2.2); (case side2 => exact (Kd.V_reads' HO383.out).2.1); rintro e w63 ⟨rfl, hb⟩; refine ⟨_, rfl, ?_⟩; have n0_ := Aside0.mk (Kd.R_below (mR HO380.out) hb); have n1_ := Aside0.mk (Kd.V_below (mV HO383.out) hb); have n2_ := Aside0.mk (below_step (mB HB.out) hb); clear HO380; clear HO383; clear HB; have HO380 := n0_; have HO383 := n1_; have HB := n2_; clear n0_ n1_ n2_; (try clear hb); (try clear hb2); (try clear hk); (try clear hi)) | ((with_reducible refine gate_dst (N := 15) rfl ?_); (try (refine gate_guard (by rfl) ?_; dsimp only)); refine Kd.R_lit k40 _ 40 ?hg (N := 15) ?hd (xs := ([(⟨0, 1⟩ : S40), (⟨5, 4⟩ : S40)] : List (S40))) (inner := [.int .i64 0, .int .i64 1, .int .i64 5, .int .i64 4]) (ok := fun _ => True) (okp := fun _ => True) ?hr ?hp (fun _ hk => hk) trivial (Below.refl _ _) (Nat.le_refl _) (by simp) ?_; (case hd => rfl); (case hg => rfl); (case hr => first | (go_simp; done) | (go_simp; rfl)); (case hp => exact (Reps.c2 (show Kd.M k40 _ _ _ (⟨0, 1⟩ : S40) [.int .i64 0, .int .i64 1] from (k40_mkM _ _ _ (⟨0, 1⟩ : S40) )) (Reps.c2 (show Kd.M k40 _ _ _ (⟨5, 4⟩ : S40) [.int .i64 5, .int .i64 4] from (k40_mkM _ _ _ (⟨5, 4⟩ : S40) )) (Reps.none _ _)))); intro v387 w64 ho65 hb hg_ hnew_; clear hg_ hnew_; (first | rw [← Ny386.out] at ho65 | (simp only [Int.reduceToNat] at ho65; rw [← Ny386.out] at ho65)); have n0_ := Aside0.mk (Kd.R_below (mR HO380.out) hb); have n1_ := Aside0.mk (Kd.V_elder' (mV HO383.out) (Kd.R_base ho65) hb); have n2_ := Aside0.mk (Kd.R_lower ho65 (below_size (mB HB.out))); have n3_ := Aside0.mk (below_step (mB HB.out) hb); clear HO380; clear HO383; clear HB; have HO380 := n0_; have HO383 := n1_; have HO388 := n2_; have HB := n3_; clear n0_ n1_ n2_ n3_; clear hb ho65; obtain ⟨Ao66, co66, eo66⟩ := Kd.R_slice HO388.out; subst eo66) | ((with_reducible refine gate_callee (f := 19) rfl ?_); refine goesL_ (some 16) rfl rfl Try.func19 (by kernel_rfl) rfl #[.slice Ao62 t381.length co62, .slice Ao66 y386.length co66] rfl mt ?_; (with_reducible refine (prebendref16_Same.calls k _ _ t381 _ _ y386 false _ ?side1 ?side2 ?side3 ?side4 A3.out).mono ?_); (case side1 => exact mC (Kd.V_reads' HO383.out).2.2); (case side2 => exact (Kd.V_reads' HO383.out).2.1); (case side3 => exact mC (Kd.R_reads' HO388.out).2.2); (case side4 => exact (Kd.R_reads' HO388.out).2.1); rintro e w' ⟨rfl, ⟨nd, rfl⟩⟩; refine ⟨_, rfl, ?_⟩))
  go_ret
  exact ⟨by first | rfl | (simp [errW_none, errW_some] <;> rfl) | (simp [*, errW_none, errW_some] <;> rfl), by repeat (first | (with_reducible first | exact HB.out | apply below_alloc | apply pw_below_drewN | apply below_drew1) | exact HB.out)⟩

end Go.Proofs.Ytedpoahndddgfaa.PAll
end
