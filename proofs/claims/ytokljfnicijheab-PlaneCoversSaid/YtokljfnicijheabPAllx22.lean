/- Contracts of functions of the program, each with a plain function of the same answers; written by a program of this workplace. -/
import Derived.Test.YtokljfnicijheabPAllx0
import Derived.Test.YtokljfnicijheabPAllx5
import Derived.Test.YtokljfnicijheabPAllx8
import Derived.Test.YtokljfnicijheabPAllx9
import Derived.Test.YtokljfnicijheabPAllx11
import Derived.Test.YtokljfnicijheabPAllx12
namespace Go.Proofs.Ytokljfnicijheab.PAll
open Go.RowKit Go.Proofs.YtokljfnicijheabW.PrintWords Go.Proofs.YtokljfnicijheabW.PrintLast Go.Proofs.YtokljfnicijheabW.PrintMore
attribute [local go_sem] max2_int min2_int max_two min_two max_three min_three max_four min_four   -- for this text's walks alone
set_option linter.unusedVariables false
set_option linter.unusedSimpArgs false

/-! ### prebendlaw02_PlaneCovers: function 6 -/
mutual
def prebendlaw02_PlaneCovers.l0 : Nat → Int → Int → Int → Int → List (S23) → List (S23) → Int → Int → Bool → Int → Option (Bool)
  | 0, _, _, _, _, _, _, _, _, _, _ => none
  | k + 1, x1, x2, x3, x4, x11, x12, x13, x14, x15, x16 => if x16 < (x11.length : Int) then (prebendlaw02_PlaneCovers.l1 k x1 x2 x3 x4 x11 x12 x13 x14 x15 x16 0) else (prebendlaw02_PlaneCovers.l3 k x1 x2 x3 x4 x11 x13 x14 x15 0 0)
def prebendlaw02_PlaneCovers.l1 : Nat → Int → Int → Int → Int → List (S23) → List (S23) → Int → Int → Bool → Int → Int → Option (Bool)
  | 0, _, _, _, _, _, _, _, _, _, _, _ => none
  | k + 1, x1, x2, x3, x4, x11, x12, x13, x14, x15, x16, x17 => if 0 ≤ x16 then (if x16 < (x11.length : Int) then (if x17 < ((rd_T23 x11 x16).f3) then (if 0 ≤ (IntKind.u64.wrap (wrap64 (((rd_T23 x11 x16).f1) + x17))) then (prebendlaw02_PlaneCovers.l1 k x1 x2 x3 x4 x11 x12 (Go.bits .or .i64 x13 (shl .i64 1 (IntKind.u64.wrap (wrap64 (((rd_T23 x11 x16).f1) + x17))))) x14 x15 x16 (wrap64 (x17 + 1))) else (none)) else ((plane_Area.f ((rd_T23 x11 x16).f0) ((rd_T23 x11 x16).f1) ((rd_T23 x11 x16).f2) ((rd_T23 x11 x16).f3)).bind fun t208 => (prebendlaw02_PlaneCovers.l2 k x1 x2 x3 x4 x11 x12 x13 (wrap64 (x14 + t208)) x15 x16 0))) else (none)) else (none)
def prebendlaw02_PlaneCovers.l2 : Nat → Int → Int → Int → Int → List (S23) → List (S23) → Int → Int → Bool → Int → Int → Option (Bool)
  | 0, _, _, _, _, _, _, _, _, _, _, _ => none
  | k + 1, x1, x2, x3, x4, x11, x12, x13, x14, x15, x16, x18 => if x18 < (x12.length : Int) then (if x15 = true then (prebendlaw02_PlaneCovers.l2 k x1 x2 x3 x4 x11 x12 x13 x14 true x16 (wrap64 (x18 + 1))) else (if 0 ≤ x16 then (if x16 < (x11.length : Int) then (if 0 ≤ x18 then ((plane_Meets.f ((rd_T23 x11 x16).f0) ((rd_T23 x11 x16).f1) ((rd_T23 x11 x16).f2) ((rd_T23 x11 x16).f3) ((rd_T23 x12 x18).f0) ((rd_T23 x12 x18).f1) ((rd_T23 x12 x18).f2) ((rd_T23 x12 x18).f3)).bind fun t211 => (prebendlaw02_PlaneCovers.l2 k x1 x2 x3 x4 x11 x12 x13 x14 t211 x16 (wrap64 (x18 + 1)))) else (none)) else (none)) else (none))) else (prebendlaw02_PlaneCovers.l0 k x1 x2 x3 x4 x11 x12 x13 x14 x15 (wrap64 (x16 + 1)))
def prebendlaw02_PlaneCovers.l3 : Nat → Int → Int → Int → Int → List (S23) → Int → Int → Bool → Int → Int → Option (Bool)
  | 0, _, _, _, _, _, _, _, _, _, _ => none
  | k + 1, x1, x2, x3, x4, x11, x13, x14, x15, x19, x20 => if x20 < 16 then (if 0 ≤ (IntKind.u64.wrap (x20)) then (prebendlaw02_PlaneCovers.l3 k x1 x2 x3 x4 x11 x13 x14 x15 (wrap64 (x19 + (wrap64 (Go.bits .and .u16 (shr .u16 x2 (IntKind.u64.wrap (x20))) 1)))) (wrap64 (x20 + 1))) else (none)) else ((prebendlaw02_awake.f k).bind fun t212 => (if t212 = true then ((plane_Apart.f k x11).bind fun t213 => (if t213 = true then (if x13 = (wrap64 (x2)) then (if x14 = (wrap64 (x19 * (wrap64 (1 + (wrap64 (Int.tmod x1 500)))))) then (if (Go.bits .and .u16 x2 x4) = 0 then (some (x15 == false)) else (some (x15 == (decide ((wrap64 (Int.tmod x3 600)) < (wrap64 (1 + (wrap64 (Int.tmod x1 500))))))))) else (some false)) else (some false)) else (some false))) else (some false)))
end
def prebendlaw02_PlaneCovers.f (k : Nat) (a0 : Int) (a1 : Int) (a2 : Int) (a3 : Int) (a4 : Int) : Option (Bool) := (plane_Rows.f (wrap64 (a0)) (wrap64 (1 + (wrap64 (Int.tmod a1 500)))) (wrap64 (a2))).bind fun t199 => ((plane_Rows.f (wrap64 ((wrap64 (a0)) + (wrap64 (Int.tmod a3 600)))) 5 (wrap64 (a4))).bind fun t202 => (prebendlaw02_PlaneCovers.l0 k a1 a2 a3 a4 t199 t202 0 0 false 0))
theorem prebendlaw02_PlaneCovers.mono_l : ∀ k, (∀ y0 y1 y2 y3 y4 y5 y6 y7 y8 y9, LeO (prebendlaw02_PlaneCovers.l0 k y0 y1 y2 y3 y4 y5 y6 y7 y8 y9) (prebendlaw02_PlaneCovers.l0 (k + 1) y0 y1 y2 y3 y4 y5 y6 y7 y8 y9)) ∧ (∀ y0 y1 y2 y3 y4 y5 y6 y7 y8 y9 y10, LeO (prebendlaw02_PlaneCovers.l1 k y0 y1 y2 y3 y4 y5 y6 y7 y8 y9 y10) (prebendlaw02_PlaneCovers.l1 (k + 1) y0 y1 y2 y3 y4 y5 y6 y7 y8 y9 y10)) ∧ (∀ y0 y1 y2 y3 y4 y5 y6 y7 y8 y9 y10, LeO (prebendlaw02_PlaneCovers.l2 k y0 y1 y2 y3 y4 y5 y6 y7 y8 y9 y10) (prebendlaw02_PlaneCovers.l2 (k + 1) y0 y1 y2 y3 y4 y5 y6 y7 y8 y9 y10)) ∧ (∀ y0 y1 y2 y3 y4 y5 y6 y7 y8 y9, LeO (prebendlaw02_PlaneCovers.l3 k y0 y1 y2 y3 y4 y5 y6 y7 y8 y9) (prebendlaw02_PlaneCovers.l3 (k + 1) y0 y1 y2 y3 y4 y5 y6 y7 y8 y9))
  | 0 => ⟨fun _ _ _ _ _ _ _ _ _ _ r h => by simp [prebendlaw02_PlaneCovers.l0] at h, fun _ _ _ _ _ _ _ _ _ _ _ r h => by simp [prebendlaw02_PlaneCovers.l1] at h, fun _ _ _ _ _ _ _ _ _ _ _ r h => by simp [prebendlaw02_PlaneCovers.l2] at h, fun _ _ _ _ _ _ _ _ _ _ r h => by simp [prebendlaw02_PlaneCovers.l3] at h⟩
  | k + 1 => by
    obtain ⟨ih0, ih1, ih2, ih3⟩ := prebendlaw02_PlaneCovers.mono_l k
    refine ⟨?_, ?_, ?_, ?_⟩
    · intro y0 y1 y2 y3 y4 y5 y6 y7 y8 y9
      unfold prebendlaw02_PlaneCovers.l0
      repeat' first
      | (with_reducible exact ih0 _ _ _ _ _ _ _ _ _ _)
      | (with_reducible exact ih1 _ _ _ _ _ _ _ _ _ _ _)
      | (with_reducible exact ih2 _ _ _ _ _ _ _ _ _ _ _)
      | (with_reducible exact ih3 _ _ _ _ _ _ _ _ _ _)
      | (with_reducible exact plane_Apart.mono _ _)
      | (with_reducible exact prebendlaw02_awake.mono _)
      | (with_reducible exact LeO.refl _)
      | (with_reducible exact LeO.none _)
      | (with_reducible refine LeO.ite ?_ ?_)
      | (with_reducible refine LeO.bind ?_ (fun _ => ?_))
      | exact ih0 _ _ _ _ _ _ _ _ _ _
      | exact ih1 _ _ _ _ _ _ _ _ _ _ _
      | exact ih2 _ _ _ _ _ _ _ _ _ _ _
      | exact ih3 _ _ _ _ _ _ _ _ _ _
      | exact plane_Apart.mono _ _
      | exact prebendlaw02_awake.mono _
      | exact LeO.none _
      | refine LeO.ite ?_ ?_
      | refine LeO.bind ?_ (fun _ => ?_)
    · intro y0 y1 y2 y3 y4 y5 y6 y7 y8 y9 y10
      unfold prebendlaw02_PlaneCovers.l1
      repeat' first
      | (with_reducible exact ih0 _ _ _ _ _ _ _ _ _ _)
      | (with_reducible exact ih1 _ _ _ _ _ _ _ _ _ _ _)
      | (with_reducible exact ih2 _ _ _ _ _ _ _ _ _ _ _)
      | (with_reducible exact ih3 _ _ _ _ _ _ _ _ _ _)
      | (with_reducible exact plane_Apart.mono _ _)
      | (with_reducible exact prebendlaw02_awake.mono _)
      | (with_reducible exact LeO.refl _)
      | (with_reducible exact LeO.none _)
      | (with_reducible refine LeO.ite ?_ ?_)
      | (with_reducible refine LeO.bind ?_ (fun _ => ?_))
      | exact ih0 _ _ _ _ _ _ _ _ _ _
      | exact ih1 _ _ _ _ _ _ _ _ _ _ _
      | exact ih2 _ _ _ _ _ _ _ _ _ _ _
      | exact ih3 _ _ _ _ _ _ _ _ _ _
      | exact plane_Apart.mono _ _
      | exact prebendlaw02_awake.mono _
      | exact LeO.none _
      | refine LeO.ite ?_ ?_
      | refine LeO.bind ?_ (fun _ => ?_)
    · intro y0 y1 y2 y3 y4 y5 y6 y7 y8 y9 y10
      unfold prebendlaw02_PlaneCovers.l2
      repeat' first
      | (with_reducible exact ih0 _ _ _ _ _ _ _ _ _ _)
      | (with_reducible exact ih1 _ _ _ _ _ _ _ _ _ _ _)
      | (with_reducible exact ih2 _ _ _ _ _ _ _ _ _ _ _)
      | (with_reducible exact ih3 _ _ _ _ _ _ _ _ _ _)
      | (with_reducible exact plane_Apart.mono _ _)
      | (with_reducible exact prebendlaw02_awake.mono _)
      | (with_reducible exact LeO.refl _)
      | (with_reducible exact LeO.none _)
      | (with_reducible refine LeO.ite ?_ ?_)
      | (with_reducible refine LeO.bind ?_ (fun _ => ?_))
      | exact ih0 _ _ _ _ _ _ _ _ _ _
      | exact ih1 _ _ _ _ _ _ _ _ _ _ _
      | exact ih2 _ _ _ _ _ _ _ _ _ _ _
      | exact ih3 _ _ _ _ _ _ _ _ _ _
      | exact plane_Apart.mono _ _
      | exact prebendlaw02_awake.mono _
      | exact LeO.none _
      | refine LeO.ite ?_ ?_
      | refine LeO.bind ?_ (fun _ => ?_)
    · intro y0 y1 y2 y3 y4 y5 y6 y7 y8 y9
      unfold prebendlaw02_PlaneCovers.l3
      repeat' first
      | (with_reducible exact ih0 _ _ _ _ _ _ _ _ _ _)
      | (with_reducible exact ih1 _ _ _ _ _ _ _ _ _ _ _)
      | (with_reducible exact ih2 _ _ _ _ _ _ _ _ _ _ _)
      | (with_reducible exact ih3 _ _ _ _ _ _ _ _ _ _)
      | (with_reducible exact plane_Apart.mono _ _)
      | (with_reducible exact prebendlaw02_awake.mono _)
      | (with_reducible exact LeO.refl _)
      | (with_reducible exact LeO.none _)
      | (with_reducible refine LeO.ite ?_ ?_)
      | (with_reducible refine LeO.bind ?_ (fun _ => ?_))
      | exact ih0 _ _ _ _ _ _ _ _ _ _
      | exact ih1 _ _ _ _ _ _ _ _ _ _ _
      | exact ih2 _ _ _ _ _ _ _ _ _ _ _
      | exact ih3 _ _ _ _ _ _ _ _ _ _
      | exact plane_Apart.mono _ _
      | exact prebendlaw02_awake.mono _
      | exact LeO.none _
      | refine LeO.ite ?_ ?_
      | refine LeO.bind ?_ (fun _ => ?_)
theorem prebendlaw02_PlaneCovers.mono : ∀ a0 a1 a2 a3 a4 k, LeO (prebendlaw02_PlaneCovers.f k a0 a1 a2 a3 a4) (prebendlaw02_PlaneCovers.f (k + 1) a0 a1 a2 a3 a4) := by
  intro a0 a1 a2 a3 a4 k
  obtain ⟨ih0, ih1, ih2, ih3⟩ := prebendlaw02_PlaneCovers.mono_l k
  unfold prebendlaw02_PlaneCovers.f
  repeat' first
      | (with_reducible exact ih0 _ _ _ _ _ _ _ _ _ _)
      | (with_reducible exact ih1 _ _ _ _ _ _ _ _ _ _ _)
      | (with_reducible exact ih2 _ _ _ _ _ _ _ _ _ _ _)
      | (with_reducible exact ih3 _ _ _ _ _ _ _ _ _ _)
      | (with_reducible exact plane_Apart.mono _ _)
      | (with_reducible exact prebendlaw02_awake.mono _)
      | (with_reducible exact LeO.refl _)
      | (with_reducible exact LeO.none _)
      | (with_reducible refine LeO.ite ?_ ?_)
      | (with_reducible refine LeO.bind ?_ (fun _ => ?_))
      | exact ih0 _ _ _ _ _ _ _ _ _ _
      | exact ih1 _ _ _ _ _ _ _ _ _ _ _
      | exact ih2 _ _ _ _ _ _ _ _ _ _ _
      | exact ih3 _ _ _ _ _ _ _ _ _ _
      | exact plane_Apart.mono _ _
      | exact prebendlaw02_awake.mono _
      | exact LeO.none _
      | refine LeO.ite ?_ ?_
      | refine LeO.bind ?_ (fun _ => ?_)
def prebendlaw02_PlaneCovers.T15 : Bool × List (List Nat × List Nat) := (true, [([], []), ([0], [0]), ([1], [1]), ([1], [1]), ([2, 3, 1], [1, 2, 3]), ([4, 1], [1, 4]), ([1], [1]), ([1], [1]), ([6, 7, 1], [1, 6, 7]), ([8, 1], [1, 8]), ([5, 9, 1, 1], [1, 5, 9]), ([1, 10], [1, 10]), ([11, 10, 0, 1, 2, 3, 4, 5, 6, 7, 8, 9, 10, 11], [0, 11])])
def prebendlaw02_PlaneCovers.B15 : List Nat := [0, 1, 3, 3, 15, 31, 3, 3, 195, 451, 1023, 2047, 4095]
theorem prebendlaw02_PlaneCovers.tab15 : rtab .any (opsOf Try.f6 15) = prebendlaw02_PlaneCovers.T15 := by kernel_rfl
theorem prebendlaw02_PlaneCovers.bits15 : waitsOk prebendlaw02_PlaneCovers.T15.2 prebendlaw02_PlaneCovers.B15 = true := by kernel_rfl
set_option maxHeartbeats 8000000 in
set_option maxRecDepth 100000 in
theorem prebendlaw02_PlaneCovers.calls (k : Nat) (a0 : Int) (a1 : Int) (a2 : Int) (a3 : Int) (a4 : Int) (r : Bool) (w : World) (h : prebendlaw02_PlaneCovers.f k a0 a1 a2 a3 a4 = some r) :
    Calls Try.prog 6 #[.int .u16 a0, .int .u16 a1, .int .u16 a2, .int .u16 a3, .int .u16 a4] w fun e w' => e = .returned (.bool r) ∧ Below w.heap.size w w' := by
  have hu23 := Try.underlying23
  have HB := Aside0.mk (Below.refl w.heap.size w)
  have H : ((plane_Rows.f (wrap64 (a0)) (wrap64 (1 + (wrap64 (Int.tmod a1 500)))) (wrap64 (a2))).bind fun t199 => ((plane_Rows.f (wrap64 ((wrap64 (a0)) + (wrap64 (Int.tmod a3 600)))) 5 (wrap64 (a4))).bind fun t202 => (prebendlaw02_PlaneCovers.l0 k a1 a2 a3 a4 t199 t202 0 0 false 0))) = some r := h
  clear h
  replace H := Option.bind_eq_some_iff.mp H
  obtain ⟨t199, A60, H⟩ := H
  replace H : ((plane_Rows.f (wrap64 ((wrap64 (a0)) + (wrap64 (Int.tmod a3 600)))) 5 (wrap64 (a4))).bind fun t202 => (prebendlaw02_PlaneCovers.l0 k a1 a2 a3 a4 t199 t202 0 0 false 0)) = some r := H
  have A6 := Aside0.mk A60
  clear A60
  replace H := Option.bind_eq_some_iff.mp H
  obtain ⟨t202, A70, H⟩ := H
  replace H : (prebendlaw02_PlaneCovers.l0 k a1 a2 a3 a4 t199 t202 0 0 false 0) = some r := H
  have A7 := Aside0.mk A70
  clear A70
  have H' := Aside0.mk H
  clear H
  go_enter Try.func6, Try.ntmps6
  go_wp2_with (first | ((with_reducible refine gate_callee (f := 18) rfl ?_); refine goesL_ (some 29) rfl rfl Try.func18 (by kernel_rfl) rfl #[.int .i64 (wrap64 (a0)), .int .i64 (wrap64 (1 + (wrap64 (Int.tmod a1 500)))), .int .i64 (wrap64 (a2))] rfl (by (try simp only [List.map_toArray, List.map_cons, List.map_nil]); first | done | rfl | (simp only [List.length_drop, List.length_take]; rfl)) ?_; (with_reducible refine (plane_Rows.calls (wrap64 (a0)) (wrap64 (1 + (wrap64 (Int.tmod a1 500)))) (wrap64 (a2)) t199 _ A6.out).mono ?_); rintro e w8 ⟨v200, rfl, ho0, hb⟩; refine ⟨_, rfl, ?_⟩; have n0_ := Aside0.mk (Kd.R_lower ho0 (below_size (by repeat (first | (with_reducible first | exact HB.out | apply below_alloc | apply pw_below_drewN | apply below_drew1) | exact HB.out)))); have n1_ := Aside0.mk (below_step (by repeat (first | (with_reducible first | exact HB.out | apply below_alloc | apply pw_below_drewN | apply below_drew1) | exact HB.out)) hb); clear HB; have HO201 := n0_; have HB := n1_; clear n0_ n1_; (try clear hb); (try clear hb2); (try clear hk); (try clear hi); (try clear ho0)) | ((with_reducible refine gate_callee (f := 18) rfl ?_); refine goesL_ (some 38) rfl rfl Try.func18 (by kernel_rfl) rfl #[.int .i64 (wrap64 ((wrap64 (a0)) + (wrap64 (Int.tmod a3 600)))), .int .i64 5, .int .i64 (wrap64 (a4))] rfl (by (try simp only [List.map_toArray, List.map_cons, List.map_nil]); first | done | rfl | (simp only [List.length_drop, List.length_take]; rfl)) ?_; (with_reducible refine (plane_Rows.calls (wrap64 ((wrap64 (a0)) + (wrap64 (Int.tmod a3 600)))) 5 (wrap64 (a4)) t202 _ A7.out).mono ?_); rintro e w9 ⟨v203, rfl, ho0, hb⟩; refine ⟨_, rfl, ?_⟩; have n0_ := Aside0.mk (Kd.R_elder' (by (with_reducible repeat (first | apply Kd.R_alloc | apply Kd.R_drewN | apply Kd.R_drew)); exact HO201.out) (Kd.R_base ho0) hb); have n1_ := Aside0.mk (Kd.R_lower (Kd.R_new' ho0 (Kd.R_lt (by (with_reducible repeat (first | apply Kd.R_alloc | apply Kd.R_drewN | apply Kd.R_drew)); exact HO201.out))) (below_size (by repeat (first | (with_reducible first | exact HB.out | apply below_alloc | apply pw_below_drewN | apply below_drew1) | exact HB.out)))); have n2_ := Aside0.mk (below_step (by repeat (first | (with_reducible first | exact HB.out | apply below_alloc | apply pw_below_drewN | apply below_drew1) | exact HB.out)) hb); clear HO201; clear HB; have HO201 := n0_; have HO204 := n1_; have HB := n2_; clear n0_ n1_ n2_; (try clear hb); (try clear hb2); (try clear hk); (try clear hi); (try clear ho0)))
  go_loopg [13, 14, 15, 16] k (fun kq v13 v14 v15 v16 w' => ∃ (x13_1 : Int) (x14_1 : Int) (x15_1 : Bool) (x16_1 : Int), v13 = .int .i64 x13_1 ∧ v14 = .int .i64 x14_1 ∧ v15 = .bool x15_1 ∧ v16 = .int .i64 x16_1 ∧ Aside0 (prebendlaw02_PlaneCovers.l0 kq a1 a2 a3 a4 t199 t202 x13_1 x14_1 x15_1 x16_1 = some r) ∧ Aside0 (kq ≤ k) ∧ Aside0 (Kd.R k23 23 w' w.heap.size (fun k_ => some k_ ≠ (v203 : Value).ownBlock) v200 t199) ∧ Aside0 (Kd.R k23 23 w' w.heap.size (fun k_ => some k_ ≠ (v200 : Value).ownBlock) v203 t202) ∧ Aside0 (Below w.heap.size w w'))
  case atStart => exact ⟨(0), (0), (false), (0), (by first | rfl | (simp; done) | (simp [*]; done)), (by first | rfl | (simp; done) | (simp [*]; done)), (by first | rfl | (simp; done) | (simp [*]; done)), (by first | rfl | (simp; done) | (simp [*]; done)), H', ⟨Nat.le_refl _⟩, ⟨by (with_reducible repeat (first | apply Kd.R_alloc | apply Kd.R_drewN | apply Kd.R_drew)); exact Kd.R_mono HO201.out (fun _ hk => hk.2)⟩, ⟨by (with_reducible repeat (first | apply Kd.R_alloc | apply Kd.R_drewN | apply Kd.R_drew)); exact Kd.R_mono HO204.out (fun _ hk => hk.2)⟩, ⟨by repeat (first | (with_reducible first | exact HB.out | apply below_alloc | apply pw_below_drewN | apply below_drew1) | exact HB.out)⟩⟩
  case round =>
    clear H'
    try clear c1
    try clear p2
    try clear c6
    try clear p6
    obtain ⟨x13_1, x14_1, x15_1, x16_1, rfl, rfl, rfl, rfl, HA, HK1, HO_11, HO_12, HB⟩ := hrel
    cases gk with
    | zero => exact absurd HA.out (by simp [prebendlaw02_PlaneCovers.l0])
    | succ k1 =>
      have H := HA.out
      clear HA
      simp only [prebendlaw02_PlaneCovers.l0] at H
      by_cases c10 : x16_1 < (t199.length : Int)
      · rw [if_pos c10] at H
        have c10b0 : decide (x16_1 < (t199.length : Int)) = true := decide_eq_true c10
        clear c10
        have H' := Aside0.mk H
        clear H
        obtain ⟨Ao11, co11, eo11⟩ := Kd.R_slice HO_11.out
        subst eo11
        go_wp2
        go_loopg [13, 17] k1 (fun kq v13 v17 w' => ∃ (x13_2 : Int) (x17_2 : Int), v13 = .int .i64 x13_2 ∧ v17 = .int .i64 x17_2 ∧ Aside0 (prebendlaw02_PlaneCovers.l1 kq a1 a2 a3 a4 t199 t202 x13_2 x14_1 x15_1 x16_1 x17_2 = some r) ∧ Aside0 (kq ≤ k1) ∧ Aside0 (Kd.R k23 23 w' w.heap.size (fun k_ => some k_ ≠ (v203 : Value).ownBlock) (.slice Ao11 t199.length co11) t199) ∧ Aside0 (Kd.R k23 23 w' w.heap.size (fun k_ => some k_ ≠ ((.slice Ao11 t199.length co11) : Value).ownBlock) v203 t202) ∧ Aside0 (Below w.heap.size w w'))
        case atStart => exact ⟨(x13_1), (0), (by first | rfl | (simp; done) | (simp [*]; done)), (by first | rfl | (simp; done) | (simp [*]; done)), H', ⟨Nat.le_refl _⟩, ⟨by (with_reducible repeat (first | apply Kd.R_alloc | apply Kd.R_drewN | apply Kd.R_drew)); exact HO_11.out⟩, ⟨by (with_reducible repeat (first | apply Kd.R_alloc | apply Kd.R_drewN | apply Kd.R_drew)); exact HO_12.out⟩, ⟨by repeat (first | (with_reducible first | exact HB.out | apply below_alloc | apply pw_below_drewN | apply below_drew1) | exact HB.out)⟩⟩
        case round =>
          clear H'
          try clear c1
          try clear p2
          try clear c6
          try clear p6
          try clear c10
          try clear c10b0
          try clear p2
          try clear p6
          obtain ⟨x13_2, x17_2, rfl, rfl, HA, HK2, HO_11, HO_12, HB⟩ := hrel
          cases gk with
          | zero => exact absurd HA.out (by simp [prebendlaw02_PlaneCovers.l1])
          | succ k2 =>
            have H := HA.out
            clear HA
            simp only [prebendlaw02_PlaneCovers.l1] at H
            by_cases c12 : 0 ≤ x16_1
            · rw [if_pos c12] at H
              have c12b0 : decide (0 ≤ x16_1) = true := decide_eq_true c12
              clear c12
              by_cases c13 : x16_1 < (t199.length : Int)
              · rw [if_pos c13] at H
                have c13b0 : decide (x16_1 < (t199.length : Int)) = true := decide_eq_true c13
                clear c13
                by_cases c14 : x17_2 < ((rd_T23 t199 x16_1).f3)
                · rw [if_pos c14] at H
                  have c14b0 : decide (x17_2 < ((rd_T23 t199 x16_1).f3)) = true := decide_eq_true c14
                  clear c14
                  obtain ⟨ji15, hji15⟩ : ∃ j_ : Int, (IntKind.u64.wrap (wrap64 (((rd_T23 t199 x16_1).f1) + x17_2))) = j_ := ⟨_, rfl⟩
                  replace H : (if 0 ≤ (ji15) then (prebendlaw02_PlaneCovers.l1 k2 a1 a2 a3 a4 t199 t202 (Go.bits .or .i64 x13_2 (shl .i64 1 (ji15))) x14_1 x15_1 x16_1 (wrap64 (x17_2 + 1))) else (none)) = some r := by first | (rw [hji15] at H; exact H) | (simp only [hji15] at H ⊢; exact H)
                  by_cases c16 : 0 ≤ (ji15)
                  · rw [if_pos c16] at H
                    have c16b0 := eq_true c16
                    have c16b1 : decide (0 ≤ (ji15)) = true := decide_eq_true c16
                    clear c16
                    obtain ⟨ji17, hji17⟩ : ∃ j_ : Int, (shl .i64 1 (ji15)) = j_ := ⟨_, rfl⟩
                    replace H : (prebendlaw02_PlaneCovers.l1 k2 a1 a2 a3 a4 t199 t202 (Go.bits .or .i64 x13_2 (ji17)) x14_1 x15_1 x16_1 (wrap64 (x17_2 + 1))) = some r := by first | (rw [hji17] at H; exact H) | (simp only [hji17] at H ⊢; exact H)
                    have hji17_ : (IntKind.i64.wrap (1 * 2 ^ min (ji15).toNat 64)) = ji17 := hji17
                    have hji17z : (ji15) ≤ 64 → (IntKind.i64.wrap (1 * 2 ^ (ji15).toNat)) = ji17 := shl_small hji17
                    have hji17u : (IntKind.i64.wrap (2 ^ min (ji15).toNat 64)) = ji17 := by have h_ := hji17_; rw [Int.one_mul] at h_; exact h_
                    have hji17v : (ji15) ≤ 64 → (IntKind.i64.wrap (2 ^ (ji15).toNat)) = ji17 := fun hle_ => by have h_ := hji17z hle_; rw [Int.one_mul] at h_; exact h_
                    have hji17y : (wrap64 (1 * 2 ^ min (ji15).toNat 64)) = ji17 := (i64_w _).symm.trans hji17_
                    have hji17x : (ji15) ≤ 64 → (wrap64 (1 * 2 ^ (ji15).toNat)) = ji17 := fun h_ => (i64_w _).symm.trans (hji17z h_)
                    have H' := Aside0.mk H
                    clear H
                    have p205 : 0 ≤ (x16_1 : Int) := of_decide_eq_true (by first | (with_reducible assumption) | assumption)
                    have q205 : x16_1 < (t199.length : Int) := of_decide_eq_true (by first | (with_reducible assumption) | assumption)
                    obtain ⟨ad205, e205, hx205_0, hx205_1, hx205_2, hx205_3⟩ := at_T23 (Kd.R_reads' HO_11.out).2.2 x16_1 p205 q205
                    cases e205
                    replace p205 := eq_true p205
                    replace q205 := eq_true q205
                    have p206 : 0 ≤ (x16_1 : Int) := of_decide_eq_true (by first | (with_reducible assumption) | assumption)
                    have q206 : x16_1 < (t199.length : Int) := of_decide_eq_true (by first | (with_reducible assumption) | assumption)
                    obtain ⟨ad206, e206, hx206_0, hx206_1, hx206_2, hx206_3⟩ := at_T23 (Kd.R_reads' HO_11.out).2.2 x16_1 p206 q206
                    obtain rfl : ad205 = ad206 := (by injection e206)
                    replace p206 := eq_true p206
                    replace q206 := eq_true q206
                    go_wp2
                    go_roundg k2
                    case measure => have := HK1.out; have := HK2.out; omega
                    case rel => exact ⟨(Go.bits .or .i64 x13_2 (ji17)), (wrap64 (x17_2 + 1)), (by first | rfl | (simp; done) | (simp only [← hji17] <;> (first | rfl | simp)) | (simp [*]; done)), (by first | rfl | (simp; done) | (simp [*]; done)), H', ⟨by have := HK1.out; have := HK2.out; omega⟩, ⟨by (with_reducible repeat (first | apply Kd.R_alloc | apply Kd.R_drewN | apply Kd.R_drew)); exact HO_11.out⟩, ⟨by (with_reducible repeat (first | apply Kd.R_alloc | apply Kd.R_drewN | apply Kd.R_drew)); exact HO_12.out⟩, ⟨by repeat (first | (with_reducible first | exact HB.out | apply below_alloc | apply pw_below_drewN | apply below_drew1) | exact HB.out)⟩⟩
                  · rw [if_neg c16] at H
                    exact absurd H (by simp)
                · rw [if_neg c14] at H
                  have c14b0 : decide (x17_2 < ((rd_T23 t199 x16_1).f3)) = false := decide_eq_false c14
                  clear c14
                  replace H := Option.bind_eq_some_iff.mp H
                  obtain ⟨t208, A180, H⟩ := H
                  replace H : (prebendlaw02_PlaneCovers.l2 k2 a1 a2 a3 a4 t199 t202 x13_2 (wrap64 (x14_1 + t208)) x15_1 x16_1 0) = some r := H
                  have A18 := Aside0.mk A180
                  clear A180
                  have H' := Aside0.mk H
                  clear H
                  have p205 : 0 ≤ (x16_1 : Int) := of_decide_eq_true (by first | (with_reducible assumption) | assumption)
                  have q205 : x16_1 < (t199.length : Int) := of_decide_eq_true (by first | (with_reducible assumption) | assumption)
                  obtain ⟨ad205, e205, hx205_0, hx205_1, hx205_2, hx205_3⟩ := at_T23 (Kd.R_reads' HO_11.out).2.2 x16_1 p205 q205
                  cases e205
                  replace p205 := eq_true p205
                  replace q205 := eq_true q205
                  have p207 : 0 ≤ (x16_1 : Int) := of_decide_eq_true (by first | (with_reducible assumption) | assumption)
                  have q207 : x16_1 < (t199.length : Int) := of_decide_eq_true (by first | (with_reducible assumption) | assumption)
                  obtain ⟨ad207, e207, hx207_0, hx207_1, hx207_2, hx207_3⟩ := at_T23 (Kd.R_reads' HO_11.out).2.2 x16_1 p207 q207
                  obtain rfl : ad205 = ad207 := (by injection e207)
                  replace p207 := eq_true p207
                  replace q207 := eq_true q207
                  go_wp2_with (first | ((with_reducible refine gate_callee (f := 11) rfl ?_); refine goesL_ (some 70) rfl rfl Try.func11 (by kernel_rfl) rfl #[.agg #[.int .i64 ((rd_T23 t199 x16_1).f0), .int .i64 ((rd_T23 t199 x16_1).f1), .int .i64 ((rd_T23 t199 x16_1).f2), .int .i64 ((rd_T23 t199 x16_1).f3)]] rfl (by (try simp only [List.map_toArray, List.map_cons, List.map_nil]); first | done | rfl | (simp only [List.length_drop, List.length_take]; rfl)) ?_; (with_reducible refine (plane_Area.calls ((rd_T23 t199 x16_1).f0) ((rd_T23 t199 x16_1).f1) ((rd_T23 t199 x16_1).f2) ((rd_T23 t199 x16_1).f3) t208 _ A18.out).mono ?_); rintro e w19 ⟨rfl, hb⟩; refine ⟨_, rfl, ?_⟩; have n0_ := Aside0.mk (Kd.R_below (by (with_reducible repeat (first | apply Kd.R_alloc | apply Kd.R_drewN | apply Kd.R_drew)); exact HO_11.out) hb); have n1_ := Aside0.mk (Kd.R_below (by (with_reducible repeat (first | apply Kd.R_alloc | apply Kd.R_drewN | apply Kd.R_drew)); exact HO_12.out) hb); have n2_ := Aside0.mk (below_step (by repeat (first | (with_reducible first | exact HB.out | apply below_alloc | apply pw_below_drewN | apply below_drew1) | exact HB.out)) hb); clear HO_11; clear HO_12; clear HB; have HO_11 := n0_; have HO_12 := n1_; have HB := n2_; clear n0_ n1_ n2_; (try clear hb); (try clear hb2); (try clear hk); (try clear hi)))
                  go_loopg [15, 18] k2 (fun kq v15 v18 w' => ∃ (x15_3 : Bool) (x18_3 : Int), v15 = .bool x15_3 ∧ v18 = .int .i64 x18_3 ∧ Aside0 (prebendlaw02_PlaneCovers.l2 kq a1 a2 a3 a4 t199 t202 x13_2 (wrap64 (x14_1 + t208)) x15_3 x16_1 x18_3 = some r) ∧ Aside0 (kq ≤ k2) ∧ Aside0 (Kd.R k23 23 w' w.heap.size (fun k_ => some k_ ≠ (v203 : Value).ownBlock) (.slice (some ad205) t199.length co11) t199) ∧ Aside0 (Kd.R k23 23 w' w.heap.size (fun k_ => some k_ ≠ ((.slice (some ad205) t199.length co11) : Value).ownBlock) v203 t202) ∧ Aside0 (Below w.heap.size w w'))
                  case atStart => exact ⟨(x15_1), (0), (by first | rfl | (simp; done) | (simp [*]; done)), (by first | rfl | (simp; done) | (simp [*]; done)), H', ⟨Nat.le_refl _⟩, ⟨by (with_reducible repeat (first | apply Kd.R_alloc | apply Kd.R_drewN | apply Kd.R_drew)); exact HO_11.out⟩, ⟨by (with_reducible repeat (first | apply Kd.R_alloc | apply Kd.R_drewN | apply Kd.R_drew)); exact HO_12.out⟩, ⟨by repeat (first | (with_reducible first | exact HB.out | apply below_alloc | apply pw_below_drewN | apply below_drew1) | exact HB.out)⟩⟩
                  case round =>
                    clear H'
                    try clear c1
                    try clear p2
                    try clear q2
                    try clear hx2
                    try clear c6
                    try clear p6
                    try clear c10
                    try clear c10b0
                    try clear c11
                    try clear c12
                    try clear c12b0
                    try clear c13
                    try clear c13b0
                    try clear c14
                    try clear c14b0
                    try clear c16
                    try clear c16b0
                    try clear c16b1
                    try clear c18
                    try clear hx205_0
                    try clear hx205_1
                    try clear hx205_2
                    try clear hx205_3
                    try clear hx206_0
                    try clear hx206_1
                    try clear hx206_2
                    try clear hx206_3
                    try clear hx207_0
                    try clear hx207_1
                    try clear hx207_2
                    try clear hx207_3
                    try clear p2
                    try clear p205
                    try clear p206
                    try clear p207
                    try clear p6
                    try clear q205
                    try clear q206
                    try clear q207
                    obtain ⟨x15_3, x18_3, rfl, rfl, HA, HK3, HO_11, HO_12, HB⟩ := hrel
                    cases gk with
                    | zero => exact absurd HA.out (by simp [prebendlaw02_PlaneCovers.l2])
                    | succ k3 =>
                      have H := HA.out
                      clear HA
                      simp only [prebendlaw02_PlaneCovers.l2] at H
                      by_cases c20 : x18_3 < (t202.length : Int)
                      · rw [if_pos c20] at H
                        have c20b0 : decide (x18_3 < (t202.length : Int)) = true := decide_eq_true c20
                        clear c20
                        by_cases c21 : x15_3 = true
                        · subst c21
                          have H1 : (prebendlaw02_PlaneCovers.l2 k3 a1 a2 a3 a4 t199 t202 x13_2 (wrap64 (x14_1 + t208)) true x16_1 (wrap64 (x18_3 + 1))) = some r := by rw [if_pos rfl] at H; exact H
                          clear H
                          have H := H1
                          clear H1
                          have H' := Aside0.mk H
                          clear H
                          obtain ⟨Ao22, co22, eo22⟩ := Kd.R_slice HO_12.out
                          subst eo22
                          try go_wp2
                          have n0_ := Aside0.mk (Kd.R_drew HO_11.out)
                          have n1_ := Aside0.mk (Kd.R_drew HO_12.out)
                          have n2_ := Aside0.mk (below_drew1 HB.out)
                          clear HO_11
                          clear HO_12
                          clear HB
                          have HO_11 := n0_
                          have HO_12 := n1_
                          have HB := n2_
                          clear n0_ n1_ n2_
                          refine start_ (n := 13) (S := fun w' => True) (ds := []) #[false, false, false, false, false, false, false, false, false, false, false, false, false] (by kernel_rfl) rfl rfl trivial (fun hHeld => ?_); refine with_tabW prebendlaw02_PlaneCovers.tab15 prebendlaw02_PlaneCovers.bits15 (fun HT_ HW_ => ?_)
                          generalize wr.drew = w23 at HO_11 HO_12 HB hHeld ⊢
                          refine pure_ (i := 0) (N := some 78) (v := ?_) (a' := ?_) #[true, false, false, false, false, false, false, false, false, false, false, false, false] rfl rfl (any_of HT_.out (by kernel_rfl)) (fun _ _ _ h => h) (Or.inl ⟨by rfl, ?_⟩) ?_ ?_
                          rotate_left
                          · intro w'
                            go_simp
                            with_reducible rfl
                          rotate_left
                          · simp only [Act.put, List.setIfInBounds_toArray, List.set_cons_zero, List.set_cons_succ, i64_w, i32_w]
                            rfl
                          refine pure_ (i := 1) (N := some 79) (v := ?_) (a' := ?_) #[true, true, false, false, false, false, false, false, false, false, false, false, false] rfl rfl (any_of HT_.out (by kernel_rfl)) (fun _ _ _ h => h) (Or.inl ⟨by rfl, ?_⟩) ?_ ?_
                          rotate_left
                          · intro w'
                            go_simp
                            with_reducible rfl
                          rotate_left
                          · simp only [Act.put, List.setIfInBounds_toArray, List.set_cons_zero, List.set_cons_succ, i64_w, i32_w]
                            rfl
                          refine pure_ (i := 2) (N := some 80) (v := undef) (a' := ?_) #[true, true, true, false, false, false, false, false, false, false, false, false, false] rfl rfl (any_of HT_.out (by kernel_rfl)) (fun _ _ _ h => h) (Or.inr ⟨by rfl, rfl⟩) ?_ ?_
                          rotate_left
                          · simp only [Act.put, List.setIfInBounds_toArray, List.set_cons_zero, List.set_cons_succ, i64_w, i32_w]
                            rfl
                          refine pure_ (i := 3) (N := some 81) (v := undef) (a' := ?_) #[true, true, true, true, false, false, false, false, false, false, false, false, false] rfl rfl (any_of HT_.out (by kernel_rfl)) (fun _ _ _ h => h) (Or.inr ⟨by rfl, rfl⟩) ?_ ?_
                          rotate_left
                          · simp only [Act.put, List.setIfInBounds_toArray, List.set_cons_zero, List.set_cons_succ, i64_w, i32_w]
                            rfl
                          refine pure_ (i := 4) (N := some 82) (v := undef) (a' := ?_) #[true, true, true, true, true, false, false, false, false, false, false, false, false] rfl rfl (any_of HT_.out (by kernel_rfl)) (fun _ _ _ h => h) (Or.inr ⟨by rfl, rfl⟩) ?_ ?_
                          rotate_left
                          · simp only [Act.put, List.setIfInBounds_toArray, List.set_cons_zero, List.set_cons_succ, i64_w, i32_w]
                            rfl
                          refine pure_ (i := 5) (N := some 83) (v := undef) (a' := ?_) #[true, true, true, true, true, true, false, false, false, false, false, false, false] rfl rfl (any_of HT_.out (by kernel_rfl)) (fun _ _ _ h => h) (Or.inr ⟨by rfl, rfl⟩) ?_ ?_
                          rotate_left
                          · simp only [Act.put, List.setIfInBounds_toArray, List.set_cons_zero, List.set_cons_succ, i64_w, i32_w]
                            rfl
                          refine pure_ (i := 6) (N := some 84) (v := undef) (a' := ?_) #[true, true, true, true, true, true, true, false, false, false, false, false, false] rfl rfl (any_of HT_.out (by kernel_rfl)) (fun _ _ _ h => h) (Or.inr ⟨by rfl, rfl⟩) ?_ ?_
                          rotate_left
                          · simp only [Act.put, List.setIfInBounds_toArray, List.set_cons_zero, List.set_cons_succ, i64_w, i32_w]
                            rfl
                          refine pure_ (i := 7) (N := some 85) (v := undef) (a' := ?_) #[true, true, true, true, true, true, true, true, false, false, false, false, false] rfl rfl (any_of HT_.out (by kernel_rfl)) (fun _ _ _ h => h) (Or.inr ⟨by rfl, rfl⟩) ?_ ?_
                          rotate_left
                          · simp only [Act.put, List.setIfInBounds_toArray, List.set_cons_zero, List.set_cons_succ, i64_w, i32_w]
                            rfl
                          refine pure_ (i := 8) (N := some 86) (v := undef) (a' := ?_) #[true, true, true, true, true, true, true, true, true, false, false, false, false] rfl rfl (any_of HT_.out (by kernel_rfl)) (fun _ _ _ h => h) (Or.inr ⟨by rfl, rfl⟩) ?_ ?_
                          rotate_left
                          · simp only [Act.put, List.setIfInBounds_toArray, List.set_cons_zero, List.set_cons_succ, i64_w, i32_w]
                            rfl
                          refine pure_ (i := 9) (N := some 87) (v := undef) (a' := ?_) #[true, true, true, true, true, true, true, true, true, true, false, false, false] rfl rfl (any_of HT_.out (by kernel_rfl)) (fun _ _ _ h => h) (Or.inr ⟨by rfl, rfl⟩) ?_ ?_
                          rotate_left
                          · simp only [Act.put, List.setIfInBounds_toArray, List.set_cons_zero, List.set_cons_succ, i64_w, i32_w]
                            rfl
                          refine pure_ (i := 10) (N := some 88) (v := undef) (a' := ?_) #[true, true, true, true, true, true, true, true, true, true, true, false, false] rfl rfl (any_of HT_.out (by kernel_rfl)) (fun _ _ _ h => h) (Or.inr ⟨by rfl, rfl⟩) ?_ ?_
                          rotate_left
                          · simp only [Act.put, List.setIfInBounds_toArray, List.set_cons_zero, List.set_cons_succ, i64_w, i32_w]
                            rfl
                          refine pure_ (i := 11) (N := some 89) (v := ?_) (a' := ?_) #[true, true, true, true, true, true, true, true, true, true, true, true, false] rfl rfl (any_of HT_.out (by kernel_rfl)) (fun _ _ _ h => h) (Or.inl ⟨by rfl, ?_⟩) ?_ ?_
                          rotate_left
                          · intro w'
                            go_simp
                            with_reducible rfl
                          rotate_left
                          · simp only [Act.put, List.setIfInBounds_toArray, List.set_cons_zero, List.set_cons_succ, i64_w, i32_w]
                            rfl
                          refine pure_ (i := 12) (N := some 15) (v := ?_) (a' := ?_) #[true, true, true, true, true, true, true, true, true, true, true, true, true] rfl rfl (any_of HT_.out (by kernel_rfl)) (fun _ _ _ h => h) (Or.inl ⟨by rfl, ?_⟩) ?_ ?_
                          rotate_left
                          · intro w'
                            go_simp
                            with_reducible rfl
                          rotate_left
                          · simp only [Act.put, List.setIfInBounds_toArray, List.set_cons_zero, List.set_cons_succ, i64_w, i32_w]
                            rfl
                          refine done_ (done_of HT_.out (by kernel_rfl)) ?_
                          try go_wp2
                          go_roundg k3
                          case measure => have := HK1.out; have := HK2.out; have := HK3.out; omega
                          case rel => exact ⟨(true), (wrap64 (x18_3 + 1)), (by first | rfl | (simp; done) | (simp [*]; done)), (by first | rfl | (simp; done) | (simp [*]; done)), H', ⟨by have := HK1.out; have := HK2.out; have := HK3.out; omega⟩, ⟨by (with_reducible repeat (first | apply Kd.R_alloc | apply Kd.R_drewN | apply Kd.R_drew)); exact HO_11.out⟩, ⟨by (with_reducible repeat (first | apply Kd.R_alloc | apply Kd.R_drewN | apply Kd.R_drew)); exact HO_12.out⟩, ⟨by repeat (first | (with_reducible first | exact HB.out | apply below_alloc | apply pw_below_drewN | apply below_drew1) | exact HB.out)⟩⟩
                        · replace c21 := Bool.eq_false_iff.mpr c21
                          subst c21
                          have H1 : (if 0 ≤ x16_1 then (if x16_1 < (t199.length : Int) then (if 0 ≤ x18_3 then ((plane_Meets.f ((rd_T23 t199 x16_1).f0) ((rd_T23 t199 x16_1).f1) ((rd_T23 t199 x16_1).f2) ((rd_T23 t199 x16_1).f3) ((rd_T23 t202 x18_3).f0) ((rd_T23 t202 x18_3).f1) ((rd_T23 t202 x18_3).f2) ((rd_T23 t202 x18_3).f3)).bind fun t211 => (prebendlaw02_PlaneCovers.l2 k3 a1 a2 a3 a4 t199 t202 x13_2 (wrap64 (x14_1 + t208)) t211 x16_1 (wrap64 (x18_3 + 1)))) else (none)) else (none)) else (none)) = some r := by rw [if_neg (show ¬ (false = true) by decide)] at H; exact H
                          clear H
                          have H := H1
                          clear H1
                          by_cases c24 : 0 ≤ x16_1
                          · rw [if_pos c24] at H
                            have c24b0 : decide (0 ≤ x16_1) = true := decide_eq_true c24
                            clear c24
                            by_cases c25 : x16_1 < (t199.length : Int)
                            · rw [if_pos c25] at H
                              have c25b0 : decide (x16_1 < (t199.length : Int)) = true := decide_eq_true c25
                              clear c25
                              by_cases c26 : 0 ≤ x18_3
                              · rw [if_pos c26] at H
                                have c26b0 : decide (0 ≤ x18_3) = true := decide_eq_true c26
                                clear c26
                                replace H := Option.bind_eq_some_iff.mp H
                                obtain ⟨t211, A270, H⟩ := H
                                replace H : (prebendlaw02_PlaneCovers.l2 k3 a1 a2 a3 a4 t199 t202 x13_2 (wrap64 (x14_1 + t208)) t211 x16_1 (wrap64 (x18_3 + 1))) = some r := H
                                have A27 := Aside0.mk A270
                                clear A270
                                have H' := Aside0.mk H
                                clear H
                                obtain ⟨Ao28, co28, eo28⟩ := Kd.R_slice HO_12.out
                                subst eo28
                                try go_wp2
                                have n0_ := Aside0.mk (Kd.R_drew HO_11.out)
                                have n1_ := Aside0.mk (Kd.R_drew HO_12.out)
                                have n2_ := Aside0.mk (below_drew1 HB.out)
                                clear HO_11
                                clear HO_12
                                clear HB
                                have HO_11 := n0_
                                have HO_12 := n1_
                                have HB := n2_
                                clear n0_ n1_ n2_
                                have p209 : 0 ≤ (x16_1 : Int) := of_decide_eq_true (by first | (with_reducible assumption) | assumption)
                                have q209 : x16_1 < (t199.length : Int) := of_decide_eq_true (by first | (with_reducible assumption) | assumption)
                                obtain ⟨ad209, e209, hx209_0, hx209_1, hx209_2, hx209_3⟩ := at_T23 (Kd.R_reads' HO_11.out).2.2 x16_1 p209 q209
                                obtain rfl : ad205 = ad209 := (by injection e209)
                                replace p209 := eq_true p209
                                replace q209 := eq_true q209
                                have p210 : 0 ≤ (x18_3 : Int) := of_decide_eq_true (by first | (with_reducible assumption) | assumption)
                                have q210 : x18_3 < (t202.length : Int) := of_decide_eq_true (by first | (with_reducible assumption) | assumption)
                                obtain ⟨ad210, e210, hx210_0, hx210_1, hx210_2, hx210_3⟩ := at_T23 (Kd.R_reads' HO_12.out).2.2 x18_3 p210 q210
                                cases e210
                                replace p210 := eq_true p210
                                replace q210 := eq_true q210
                                refine start_ (n := 13) (S := fun w' => w'.cell? (ad205.add ((x16_1).toNat * 4)) = some (.int .i64 ((rd_T23 t199 x16_1).f0)) ∧ w'.cell? ⟨(ad205.add ((x16_1).toNat * 4)).block, (ad205.add ((x16_1).toNat * 4)).off + 1, none⟩ = some (.int .i64 ((rd_T23 t199 x16_1).f1)) ∧ w'.cell? ⟨(ad205.add ((x16_1).toNat * 4)).block, (ad205.add ((x16_1).toNat * 4)).off + 2, none⟩ = some (.int .i64 ((rd_T23 t199 x16_1).f2)) ∧ w'.cell? ⟨(ad205.add ((x16_1).toNat * 4)).block, (ad205.add ((x16_1).toNat * 4)).off + 3, none⟩ = some (.int .i64 ((rd_T23 t199 x16_1).f3)) ∧ w'.cell? (ad210.add ((x18_3).toNat * 4)) = some (.int .i64 ((rd_T23 t202 x18_3).f0)) ∧ w'.cell? ⟨(ad210.add ((x18_3).toNat * 4)).block, (ad210.add ((x18_3).toNat * 4)).off + 1, none⟩ = some (.int .i64 ((rd_T23 t202 x18_3).f1)) ∧ w'.cell? ⟨(ad210.add ((x18_3).toNat * 4)).block, (ad210.add ((x18_3).toNat * 4)).off + 2, none⟩ = some (.int .i64 ((rd_T23 t202 x18_3).f2)) ∧ w'.cell? ⟨(ad210.add ((x18_3).toNat * 4)).block, (ad210.add ((x18_3).toNat * 4)).off + 3, none⟩ = some (.int .i64 ((rd_T23 t202 x18_3).f3))) (ds := []) #[false, false, false, false, false, false, false, false, false, false, false, false, false] (by kernel_rfl) rfl rfl ⟨hx209_0, hx209_1, hx209_2, hx209_3, hx210_0, hx210_1, hx210_2, hx210_3⟩ (fun hHeld => ?_); refine with_tabW prebendlaw02_PlaneCovers.tab15 prebendlaw02_PlaneCovers.bits15 (fun HT_ HW_ => ?_)
                                generalize wr.drew = w29 at HO_11 HO_12 HB hx209_0 hx209_1 hx209_2 hx209_3 hx210_0 hx210_1 hx210_2 hx210_3 hHeld ⊢
                                refine pure_ (i := 0) (N := some 78) (v := ?_) (a' := ?_) #[true, false, false, false, false, false, false, false, false, false, false, false, false] rfl rfl (any_of HT_.out (by kernel_rfl)) (fun _ _ _ h => h) (Or.inl ⟨by rfl, ?_⟩) ?_ ?_
                                rotate_left
                                · intro w'
                                  go_simp
                                  with_reducible rfl
                                rotate_left
                                · simp only [Act.put, List.setIfInBounds_toArray, List.set_cons_zero, List.set_cons_succ, i64_w, i32_w]
                                  rfl
                                refine pure_ (i := 1) (N := some 79) (v := ?_) (a' := ?_) #[true, true, false, false, false, false, false, false, false, false, false, false, false] rfl rfl (any_of HT_.out (by kernel_rfl)) (fun _ _ _ h => h) (Or.inl ⟨by rfl, ?_⟩) ?_ ?_
                                rotate_left
                                · intro w'
                                  go_simp
                                  with_reducible rfl
                                rotate_left
                                · simp only [Act.put, List.setIfInBounds_toArray, List.set_cons_zero, List.set_cons_succ, i64_w, i32_w]
                                  rfl
                                refine pure_ (i := 2) (N := some 80) (v := ?_) (a' := ?_) #[true, true, true, false, false, false, false, false, false, false, false, false, false] rfl rfl (any_of HT_.out (by kernel_rfl)) (fun _ _ _ h => h) (Or.inl ⟨by rfl, ?_⟩) ?_ ?_
                                rotate_left
                                · intro w'
                                  go_simp
                                  with_reducible rfl
                                rotate_left
                                · simp only [Act.put, List.setIfInBounds_toArray, List.set_cons_zero, List.set_cons_succ, i64_w, i32_w]
                                  rfl
                                refine pure_ (i := 3) (N := some 81) (v := ?_) (a' := ?_) #[true, true, true, true, false, false, false, false, false, false, false, false, false] rfl rfl (any_of HT_.out (by kernel_rfl)) (fun _ _ _ h => h) (Or.inl ⟨by rfl, ?_⟩) ?_ ?_
                                rotate_left
                                · intro w'
                                  go_simp
                                  with_reducible rfl
                                rotate_left
                                · simp only [Act.put, List.setIfInBounds_toArray, List.set_cons_zero, List.set_cons_succ, i64_w, i32_w]
                                  rfl
                                refine pure_ (i := 4) (N := some 82) (v := ?_) (a' := ?_) #[true, true, true, true, true, false, false, false, false, false, false, false, false] rfl rfl (any_of HT_.out (by kernel_rfl)) (fun _ _ _ h => h) (Or.inl ⟨by rfl, ?_⟩) ?_ ?_
                                rotate_left
                                · intro w'
                                  go_simp
                                  with_reducible rfl
                                rotate_left
                                · simp only [Act.put, List.setIfInBounds_toArray, List.set_cons_zero, List.set_cons_succ, i64_w, i32_w]
                                  rfl
                                refine pure_ (i := 6) (N := some 84) (v := ?_) (a' := ?_) #[true, true, true, true, true, false, true, false, false, false, false, false, false] rfl rfl (any_of HT_.out (by kernel_rfl)) (fun _ _ _ h => h) (Or.inl ⟨by rfl, ?_⟩) ?_ ?_
                                rotate_left
                                · intro w'
                                  go_simp
                                  with_reducible rfl
                                rotate_left
                                · simp only [Act.put, List.setIfInBounds_toArray, List.set_cons_zero, List.set_cons_succ, i64_w, i32_w]
                                  rfl
                                refine pure_ (i := 7) (N := some 85) (v := ?_) (a' := ?_) #[true, true, true, true, true, false, true, true, false, false, false, false, false] rfl rfl (any_of HT_.out (by kernel_rfl)) (fun _ _ _ h => h) (Or.inl ⟨by rfl, ?_⟩) ?_ ?_
                                rotate_left
                                · intro w'
                                  go_simp
                                  with_reducible rfl
                                rotate_left
                                · simp only [Act.put, List.setIfInBounds_toArray, List.set_cons_zero, List.set_cons_succ, i64_w, i32_w]
                                  rfl
                                refine pure_ (i := 8) (N := some 86) (v := ?_) (a' := ?_) #[true, true, true, true, true, false, true, true, true, false, false, false, false] rfl rfl (any_of HT_.out (by kernel_rfl)) (fun _ _ _ h => h) (Or.inl ⟨by rfl, ?_⟩) ?_ ?_
                                rotate_left
                                · intro w'
                                  go_simp
                                  with_reducible rfl
                                rotate_left
                                · simp only [Act.put, List.setIfInBounds_toArray, List.set_cons_zero, List.set_cons_succ, i64_w, i32_w]
                                  rfl
                                refine take_ (i := 5) (N := some 83) (v := ?_) (a' := ?_) #[true, true, true, true, true, true, true, true, true, false, false, false, false] rfl rfl (take_ofW HT_.out HW_.out (by kernel_rfl)) (fun _ _ _ h => h) (Or.inl ⟨by rfl, ?_⟩) hHeld ?_ ?_
                                rotate_left
                                · rintro w' ⟨s0, s1, s2, s3, s4, s5, s6, s7⟩
                                  go_simp
                                  with_reducible rfl
                                rotate_left
                                · simp only [Act.put, List.setIfInBounds_toArray, List.set_cons_zero, List.set_cons_succ, i64_w, i32_w]
                                  rfl
                                refine take_ (i := 9) (N := some 87) (v := ?_) (a' := ?_) #[true, true, true, true, true, true, true, true, true, true, false, false, false] rfl rfl (take_ofW HT_.out HW_.out (by kernel_rfl)) (fun _ _ _ h => h) (Or.inl ⟨by rfl, ?_⟩) hHeld ?_ ?_
                                rotate_left
                                · rintro w' ⟨s0, s1, s2, s3, s4, s5, s6, s7⟩
                                  go_simp
                                  with_reducible rfl
                                rotate_left
                                · simp only [Act.put, List.setIfInBounds_toArray, List.set_cons_zero, List.set_cons_succ, i64_w, i32_w]
                                  rfl
                                refine one_ (i := 10) (N := some 88) #[true, true, true, true, true, true, true, true, true, true, true, false, false] rfl rfl (one_of HT_.out (by kernel_rfl)) (by decide) (fun K hK => ?_)
                                refine goes_ Try.func13 (by kernel_rfl) rfl #[.agg #[.int .i64 ((rd_T23 t199 x16_1).f0), .int .i64 ((rd_T23 t199 x16_1).f1), .int .i64 ((rd_T23 t199 x16_1).f2), .int .i64 ((rd_T23 t199 x16_1).f3)], .agg #[.int .i64 ((rd_T23 t202 x18_3).f0), .int .i64 ((rd_T23 t202 x18_3).f1), .int .i64 ((rd_T23 t202 x18_3).f2), .int .i64 ((rd_T23 t202 x18_3).f3)]] (by rfl) rfl rfl (by (try simp only [List.map_toArray, List.map_cons, List.map_nil]); first | done | rfl | (simp only [List.length_drop, List.length_take]; rfl)) ?_
                                with_reducible refine (plane_Meets.calls ((rd_T23 t199 x16_1).f0) ((rd_T23 t199 x16_1).f1) ((rd_T23 t199 x16_1).f2) ((rd_T23 t199 x16_1).f3) ((rd_T23 t202 x18_3).f0) ((rd_T23 t202 x18_3).f1) ((rd_T23 t202 x18_3).f2) ((rd_T23 t202 x18_3).f3) t211 _ A27.out).mono ?_
                                rintro e w30 ⟨rfl, hb⟩
                                have HS0_ := (hb.cell (World.block_lt_of_cell? _ _ (hHeld.1))).trans (hHeld.1)
                                have HS1_ := (hb.cell (World.block_lt_of_cell? _ _ (hHeld.2.1))).trans (hHeld.2.1)
                                have HS2_ := (hb.cell (World.block_lt_of_cell? _ _ (hHeld.2.2.1))).trans (hHeld.2.2.1)
                                have HS3_ := (hb.cell (World.block_lt_of_cell? _ _ (hHeld.2.2.2.1))).trans (hHeld.2.2.2.1)
                                have HS4_ := (hb.cell (World.block_lt_of_cell? _ _ (hHeld.2.2.2.2.1))).trans (hHeld.2.2.2.2.1)
                                have HS5_ := (hb.cell (World.block_lt_of_cell? _ _ (hHeld.2.2.2.2.2.1))).trans (hHeld.2.2.2.2.2.1)
                                have HS6_ := (hb.cell (World.block_lt_of_cell? _ _ (hHeld.2.2.2.2.2.2.1))).trans (hHeld.2.2.2.2.2.2.1)
                                have HS7_ := (hb.cell (World.block_lt_of_cell? _ _ (hHeld.2.2.2.2.2.2.2))).trans (hHeld.2.2.2.2.2.2.2)
                                refine ⟨_, rfl, ?_⟩
                                have n0_ := Aside0.mk (Kd.R_below (by (with_reducible repeat (first | apply Kd.R_alloc | apply Kd.R_drewN | apply Kd.R_drew)); exact HO_11.out) hb)
                                have n1_ := Aside0.mk (Kd.R_below (by (with_reducible repeat (first | apply Kd.R_alloc | apply Kd.R_drewN | apply Kd.R_drew)); exact HO_12.out) hb)
                                have n2_ := Aside0.mk (below_step (by repeat (first | (with_reducible first | exact HB.out | apply below_alloc | apply pw_below_drewN | apply below_drew1) | exact HB.out)) hb)
                                clear HO_11
                                clear HO_12
                                clear HB
                                have HO_11 := n0_
                                have HO_12 := n1_
                                have HB := n2_
                                clear n0_ n1_ n2_
                                (try clear hb)
                                (try clear hb2)
                                (try clear hk)
                                (try clear hi)
                                refine hK.out _ _ ⟨HS0_, HS1_, HS2_, HS3_, HS4_, HS5_, HS6_, HS7_⟩ (fun hHeld => ?_)
                                clear hK K
                                refine norm_ (a' := ?_) ?_ ?_
                                rotate_left
                                · show Act.put _ (some 88) _ = _
                                  simp only [Act.put, List.setIfInBounds_toArray, List.set_cons_zero, List.set_cons_succ, i64_w, i32_w]
                                  rfl
                                refine pure_ (i := 11) (N := some 89) (v := ?_) (a' := ?_) #[true, true, true, true, true, true, true, true, true, true, true, true, false] rfl rfl (any_of HT_.out (by kernel_rfl)) (fun _ _ _ h => h) (Or.inl ⟨by rfl, ?_⟩) ?_ ?_
                                rotate_left
                                · intro w'
                                  go_simp
                                  with_reducible rfl
                                rotate_left
                                · simp only [Act.put, List.setIfInBounds_toArray, List.set_cons_zero, List.set_cons_succ, i64_w, i32_w]
                                  rfl
                                refine pure_ (i := 12) (N := some 15) (v := ?_) (a' := ?_) #[true, true, true, true, true, true, true, true, true, true, true, true, true] rfl rfl (any_of HT_.out (by kernel_rfl)) (fun _ _ _ h => h) (Or.inl ⟨by rfl, ?_⟩) ?_ ?_
                                rotate_left
                                · intro w'
                                  go_simp
                                  with_reducible rfl
                                rotate_left
                                · simp only [Act.put, List.setIfInBounds_toArray, List.set_cons_zero, List.set_cons_succ, i64_w, i32_w]
                                  rfl
                                refine done_ (done_of HT_.out (by kernel_rfl)) ?_
                                try go_wp2
                                go_roundg k3
                                case measure => have := HK1.out; have := HK2.out; have := HK3.out; omega
                                case rel => exact ⟨(t211), (wrap64 (x18_3 + 1)), (by first | rfl | (simp; done) | (simp [*]; done)), (by first | rfl | (simp; done) | (simp [*]; done)), H', ⟨by have := HK1.out; have := HK2.out; have := HK3.out; omega⟩, ⟨by (with_reducible repeat (first | apply Kd.R_alloc | apply Kd.R_drewN | apply Kd.R_drew)); exact HO_11.out⟩, ⟨by (with_reducible repeat (first | apply Kd.R_alloc | apply Kd.R_drewN | apply Kd.R_drew)); exact HO_12.out⟩, ⟨by repeat (first | (with_reducible first | exact HB.out | apply below_alloc | apply pw_below_drewN | apply below_drew1) | exact HB.out)⟩⟩
                              · rw [if_neg c26] at H
                                exact absurd H (by simp)
                            · rw [if_neg c25] at H
                              exact absurd H (by simp)
                          · rw [if_neg c24] at H
                            exact absurd H (by simp)
                      · rw [if_neg c20] at H
                        have c20b0 : decide (x18_3 < (t202.length : Int)) = false := decide_eq_false c20
                        clear c20
                        have H' := Aside0.mk H
                        clear H
                        obtain ⟨Ao31, co31, eo31⟩ := Kd.R_slice HO_12.out
                        subst eo31
                        go_wp2
                        go_roundg k3
                        case measure => have := HK1.out; have := HK2.out; have := HK3.out; omega
                        case rel => exact ⟨(x13_2), ((wrap64 (x14_1 + t208))), (x15_3), (wrap64 (x16_1 + 1)), (by first | rfl | (simp; done) | (simp [*]; done)), (by first | rfl | (simp; done) | (simp [*]; done)), (by first | rfl | (simp; done) | (simp [*]; done)), (by first | rfl | (simp; done) | (simp [*]; done)), H', ⟨by have := HK1.out; have := HK2.out; have := HK3.out; omega⟩, ⟨by (with_reducible repeat (first | apply Kd.R_alloc | apply Kd.R_drewN | apply Kd.R_drew)); exact HO_11.out⟩, ⟨by (with_reducible repeat (first | apply Kd.R_alloc | apply Kd.R_drewN | apply Kd.R_drew)); exact HO_12.out⟩, ⟨by repeat (first | (with_reducible first | exact HB.out | apply below_alloc | apply pw_below_drewN | apply below_drew1) | exact HB.out)⟩⟩
              · rw [if_neg c13] at H
                exact absurd H (by simp)
            · rw [if_neg c12] at H
              exact absurd H (by simp)
      · rw [if_neg c10] at H
        have c10b0 : decide (x16_1 < (t199.length : Int)) = false := decide_eq_false c10
        clear c10
        have H' := Aside0.mk H
        clear H
        obtain ⟨Ao32, co32, eo32⟩ := Kd.R_slice HO_11.out
        subst eo32
        go_wp2
        go_loopg [19, 20] k1 (fun kq v19 v20 w' => ∃ (x19_2 : Int) (x20_2 : Int), v19 = .int .i64 x19_2 ∧ v20 = .int .i64 x20_2 ∧ Aside0 (prebendlaw02_PlaneCovers.l3 kq a1 a2 a3 a4 t199 x13_1 x14_1 x15_1 x19_2 x20_2 = some r) ∧ Aside0 (kq ≤ k1) ∧ Aside0 (Kd.R k23 23 w' w.heap.size (fun _ => True) (.slice Ao32 t199.length co32) t199) ∧ Aside0 (Below w.heap.size w w'))
        case atStart => exact ⟨(0), (0), (by first | rfl | (simp; done) | (simp [*]; done)), (by first | rfl | (simp; done) | (simp [*]; done)), H', ⟨Nat.le_refl _⟩, ⟨by (with_reducible repeat (first | apply Kd.R_alloc | apply Kd.R_drewN | apply Kd.R_drew)); exact Kd.R_mono HO_11.out (fun _ hk => trivial)⟩, ⟨by repeat (first | (with_reducible first | exact HB.out | apply below_alloc | apply pw_below_drewN | apply below_drew1) | exact HB.out)⟩⟩
        case round =>
          clear H'
          try clear c1
          try clear c2
          try clear p2
          try clear q2
          try clear hx2
          try clear c6
          try clear p6
          try clear c10
          try clear c10b0
          try clear c11
          try clear c12
          try clear c12b0
          try clear c13
          try clear c13b0
          try clear c14
          try clear c14b0
          try clear c16
          try clear c16b0
          try clear c16b1
          try clear c18
          try clear c20
          try clear c20b0
          try clear p20
          try clear q20
          try clear hx20
          try clear c21
          try clear p21
          try clear q21
          try clear hx21
          try clear c24
          try clear c24b0
          try clear c25
          try clear c25b0
          try clear c26
          try clear c26b0
          try clear hx205_0
          try clear hx205_1
          try clear hx205_2
          try clear hx205_3
          try clear hx206_0
          try clear hx206_1
          try clear hx206_2
          try clear hx206_3
          try clear hx207_0
          try clear hx207_1
          try clear hx207_2
          try clear hx207_3
          try clear hx209_0
          try clear hx209_1
          try clear hx209_2
          try clear hx209_3
          try clear hx210_0
          try clear hx210_1
          try clear hx210_2
          try clear hx210_3
          try clear p2
          try clear p205
          try clear p206
          try clear p207
          try clear p209
          try clear p210
          try clear p6
          try clear q2
          try clear q205
          try clear q206
          try clear q207
          try clear q209
          try clear q210
          obtain ⟨x19_2, x20_2, rfl, rfl, HA, HK2, HO_11, HB⟩ := hrel
          cases gk with
          | zero => exact absurd HA.out (by simp [prebendlaw02_PlaneCovers.l3])
          | succ k2 =>
            have H := HA.out
            clear HA
            simp only [prebendlaw02_PlaneCovers.l3] at H
            by_cases c33 : x20_2 < 16
            · rw [if_pos c33] at H
              have c33b0 : decide (x20_2 < 16) = true := decide_eq_true c33
              clear c33
              obtain ⟨ji34, hji34⟩ : ∃ j_ : Int, (IntKind.u64.wrap (x20_2)) = j_ := ⟨_, rfl⟩
              replace H : (if 0 ≤ (ji34) then (prebendlaw02_PlaneCovers.l3 k2 a1 a2 a3 a4 t199 x13_1 x14_1 x15_1 (wrap64 (x19_2 + (wrap64 (Go.bits .and .u16 (shr .u16 a2 (ji34)) 1)))) (wrap64 (x20_2 + 1))) else (none)) = some r := by first | (rw [hji34] at H; exact H) | (simp only [hji34] at H ⊢; exact H)
              by_cases c35 : 0 ≤ (ji34)
              · rw [if_pos c35] at H
                have c35b0 := eq_true c35
                have c35b1 : decide (0 ≤ (ji34)) = true := decide_eq_true c35
                clear c35
                obtain ⟨ji36, hji36⟩ : ∃ j_ : Int, (shr .u16 a2 (ji34)) = j_ := ⟨_, rfl⟩
                replace H : (prebendlaw02_PlaneCovers.l3 k2 a1 a2 a3 a4 t199 x13_1 x14_1 x15_1 (wrap64 (x19_2 + (wrap64 (Go.bits .and .u16 (ji36) 1)))) (wrap64 (x20_2 + 1))) = some r := by first | (rw [hji36] at H; exact H) | (simp only [hji36] at H ⊢; exact H)
                have hji36_ : (a2 / 2 ^ min (ji34).toNat 16) = ji36 := hji36
                have hji36z : (ji34) ≤ 16 → (a2 / 2 ^ (ji34).toNat) = ji36 := shr_small hji36
                have H' := Aside0.mk H
                clear H
                go_wp2
                go_roundg k2
                case measure => have := HK1.out; have := HK2.out; omega
                case rel => exact ⟨(wrap64 (x19_2 + (wrap64 (Go.bits .and .u16 (ji36) 1)))), (wrap64 (x20_2 + 1)), (by first | rfl | (simp; done) | (simp only [← hji36] <;> (first | rfl | simp)) | (simp [*]; done)), (by first | rfl | (simp; done) | (simp [*]; done)), H', ⟨by have := HK1.out; have := HK2.out; omega⟩, ⟨by (with_reducible repeat (first | apply Kd.R_alloc | apply Kd.R_drewN | apply Kd.R_drew)); exact HO_11.out⟩, ⟨by repeat (first | (with_reducible first | exact HB.out | apply below_alloc | apply pw_below_drewN | apply below_drew1) | exact HB.out)⟩⟩
              · rw [if_neg c35] at H
                exact absurd H (by simp)
            · rw [if_neg c33] at H
              have c33b0 : decide (x20_2 < 16) = false := decide_eq_false c33
              clear c33
              replace H := Option.bind_eq_some_iff.mp H
              obtain ⟨t212, A370, H⟩ := H
              replace H : (if t212 = true then ((plane_Apart.f k2 t199).bind fun t213 => (if t213 = true then (if x13_1 = (wrap64 (a2)) then (if x14_1 = (wrap64 (x19_2 * (wrap64 (1 + (wrap64 (Int.tmod a1 500)))))) then (if (Go.bits .and .u16 a2 a4) = 0 then (some (x15_1 == false)) else (some (x15_1 == (decide ((wrap64 (Int.tmod a3 600)) < (wrap64 (1 + (wrap64 (Int.tmod a1 500))))))))) else (some false)) else (some false)) else (some false))) else (some false)) = some r := H
              have A37 := Aside0.mk A370
              clear A370
              by_cases c38 : t212 = true
              · subst c38
                have H1 : ((plane_Apart.f k2 t199).bind fun t213 => (if t213 = true then (if x13_1 = (wrap64 (a2)) then (if x14_1 = (wrap64 (x19_2 * (wrap64 (1 + (wrap64 (Int.tmod a1 500)))))) then (if (Go.bits .and .u16 a2 a4) = 0 then (some (x15_1 == false)) else (some (x15_1 == (decide ((wrap64 (Int.tmod a3 600)) < (wrap64 (1 + (wrap64 (Int.tmod a1 500))))))))) else (some false)) else (some false)) else (some false))) = some r := by rw [if_pos rfl] at H; exact H
                clear H
                have H := H1
                clear H1
                replace H := Option.bind_eq_some_iff.mp H
                obtain ⟨t213, A390, H⟩ := H
                replace H : (if t213 = true then (if x13_1 = (wrap64 (a2)) then (if x14_1 = (wrap64 (x19_2 * (wrap64 (1 + (wrap64 (Int.tmod a1 500)))))) then (if (Go.bits .and .u16 a2 a4) = 0 then (some (x15_1 == false)) else (some (x15_1 == (decide ((wrap64 (Int.tmod a3 600)) < (wrap64 (1 + (wrap64 (Int.tmod a1 500))))))))) else (some false)) else (some false)) else (some false)) = some r := H
                have A39 := Aside0.mk A390
                clear A390
                by_cases c40 : t213 = true
                · subst c40
                  have H1 : (if x13_1 = (wrap64 (a2)) then (if x14_1 = (wrap64 (x19_2 * (wrap64 (1 + (wrap64 (Int.tmod a1 500)))))) then (if (Go.bits .and .u16 a2 a4) = 0 then (some (x15_1 == false)) else (some (x15_1 == (decide ((wrap64 (Int.tmod a3 600)) < (wrap64 (1 + (wrap64 (Int.tmod a1 500))))))))) else (some false)) else (some false)) = some r := by rw [if_pos rfl] at H; exact H
                  clear H
                  have H := H1
                  clear H1
                  by_cases c41 : x13_1 = (wrap64 (a2))
                  · rw [if_pos c41] at H
                    have c41b0 : (x13_1 == (wrap64 (a2))) = true := beq_iff_eq.mpr c41
                    have c41b1 : (x13_1 != (wrap64 (a2))) = false := bne_eq_false_iff_eq.mpr c41
                    clear c41
                    by_cases c42 : x14_1 = (wrap64 (x19_2 * (wrap64 (1 + (wrap64 (Int.tmod a1 500))))))
                    · rw [if_pos c42] at H
                      have c42b0 : (x14_1 == (wrap64 (x19_2 * (wrap64 (1 + (wrap64 (Int.tmod a1 500))))))) = true := beq_iff_eq.mpr c42
                      have c42b1 : (x14_1 != (wrap64 (x19_2 * (wrap64 (1 + (wrap64 (Int.tmod a1 500))))))) = false := bne_eq_false_iff_eq.mpr c42
                      clear c42
                      by_cases c43 : (Go.bits .and .u16 a2 a4) = 0
                      · rw [if_pos c43] at H
                        have c43b0 : ((Go.bits .and .u16 a2 a4) == 0) = true := beq_iff_eq.mpr c43
                        have c43b1 : ((Go.bits .and .u16 a2 a4) != 0) = false := bne_eq_false_iff_eq.mpr c43
                        clear c43
                        obtain rfl := Option.some.inj H
                        go_wp2_with (first | ((with_reducible refine gate_callee (f := 8) rfl ?_); refine goesL_ (some 102) rfl rfl Try.func8 (by kernel_rfl) rfl #[] rfl (by (try simp only [List.map_toArray, List.map_cons, List.map_nil]); first | done | rfl | (simp only [List.length_drop, List.length_take]; rfl)) ?_; (with_reducible refine (prebendlaw02_awake.calls k2  true _ A37.out).mono ?_); rintro e w44 ⟨rfl, hb⟩; refine ⟨_, rfl, ?_⟩; have n0_ := Aside0.mk (Kd.R_below (by (with_reducible repeat (first | apply Kd.R_alloc | apply Kd.R_drewN | apply Kd.R_drew)); exact HO_11.out) hb); have n1_ := Aside0.mk (below_step (by repeat (first | (with_reducible first | exact HB.out | apply below_alloc | apply pw_below_drewN | apply below_drew1) | exact HB.out)) hb); clear HO_11; clear HB; have HO_11 := n0_; have HB := n1_; clear n0_ n1_; (try clear hb); (try clear hb2); (try clear hk); (try clear hi)) | (go_at_call 15; (with_reducible refine (plane_Apart.calls k2 _ _ t199 true _ ?side1 ?side2 A39.out).mono ?_); (case side1 => repeat (first | exact (Kd.R_reads' HO_11.out).2.2 | (with_reducible refine Kd.C_alloc ?_ _) | (with_reducible refine Kd.C_drewN ?_ _) | (with_reducible refine Kd.C_drew ?_))); (case side2 => exact (Kd.R_reads' HO_11.out).2.1); rintro e w45 ⟨rfl, hb⟩; have n0_ := Aside0.mk (Kd.R_below (by (with_reducible repeat (first | apply Kd.R_alloc | apply Kd.R_drewN | apply Kd.R_drew)); exact HO_11.out) hb); have n1_ := Aside0.mk (below_step (by repeat (first | (with_reducible first | exact HB.out | apply below_alloc | apply pw_below_drewN | apply below_drew1) | exact HB.out)) hb); clear HO_11; clear HB; have HO_11 := n0_; have HB := n1_; clear n0_ n1_; (try clear hb); (try clear hb2); (try clear hk); (try clear hi)))
                        go_ret
                        exact ⟨by first | rfl | (simp [errW_none, errW_some] <;> rfl) | (simp [*, errW_none, errW_some] <;> rfl), by repeat (first | (with_reducible first | exact HB.out | apply below_alloc | apply pw_below_drewN | apply below_drew1) | exact HB.out)⟩
                      · rw [if_neg c43] at H
                        have c43b0 : ((Go.bits .and .u16 a2 a4) == 0) = false := beq_eq_false_iff_ne.mpr c43
                        have c43b1 : ((Go.bits .and .u16 a2 a4) != 0) = true := bne_iff_ne.mpr c43
                        obtain rfl := Option.some.inj H
                        go_wp2_with (first | ((with_reducible refine gate_callee (f := 8) rfl ?_); refine goesL_ (some 102) rfl rfl Try.func8 (by kernel_rfl) rfl #[] rfl (by (try simp only [List.map_toArray, List.map_cons, List.map_nil]); first | done | rfl | (simp only [List.length_drop, List.length_take]; rfl)) ?_; (with_reducible refine (prebendlaw02_awake.calls k2  true _ A37.out).mono ?_); rintro e w46 ⟨rfl, hb⟩; refine ⟨_, rfl, ?_⟩; have n0_ := Aside0.mk (Kd.R_below (by (with_reducible repeat (first | apply Kd.R_alloc | apply Kd.R_drewN | apply Kd.R_drew)); exact HO_11.out) hb); have n1_ := Aside0.mk (below_step (by repeat (first | (with_reducible first | exact HB.out | apply below_alloc | apply pw_below_drewN | apply below_drew1) | exact HB.out)) hb); clear HO_11; clear HB; have HO_11 := n0_; have HB := n1_; clear n0_ n1_; (try clear hb); (try clear hb2); (try clear hk); (try clear hi)) | (go_at_call 15; (with_reducible refine (plane_Apart.calls k2 _ _ t199 true _ ?side1 ?side2 A39.out).mono ?_); (case side1 => repeat (first | exact (Kd.R_reads' HO_11.out).2.2 | (with_reducible refine Kd.C_alloc ?_ _) | (with_reducible refine Kd.C_drewN ?_ _) | (with_reducible refine Kd.C_drew ?_))); (case side2 => exact (Kd.R_reads' HO_11.out).2.1); rintro e w47 ⟨rfl, hb⟩; have n0_ := Aside0.mk (Kd.R_below (by (with_reducible repeat (first | apply Kd.R_alloc | apply Kd.R_drewN | apply Kd.R_drew)); exact HO_11.out) hb); have n1_ := Aside0.mk (below_step (by repeat (first | (with_reducible first | exact HB.out | apply below_alloc | apply pw_below_drewN | apply below_drew1) | exact HB.out)) hb); clear HO_11; clear HB; have HO_11 := n0_; have HB := n1_; clear n0_ n1_; (try clear hb); (try clear hb2); (try clear hk); (try clear hi)))
                        go_ret
                        exact ⟨by first | rfl | (simp [errW_none, errW_some] <;> rfl) | (simp [*, errW_none, errW_some] <;> rfl), by repeat (first | (with_reducible first | exact HB.out | apply below_alloc | apply pw_below_drewN | apply below_drew1) | exact HB.out)⟩
                    · rw [if_neg c42] at H
                      have c42b0 : (x14_1 == (wrap64 (x19_2 * (wrap64 (1 + (wrap64 (Int.tmod a1 500))))))) = false := beq_eq_false_iff_ne.mpr c42
                      have c42b1 : (x14_1 != (wrap64 (x19_2 * (wrap64 (1 + (wrap64 (Int.tmod a1 500))))))) = true := bne_iff_ne.mpr c42
                      obtain rfl := Option.some.inj H
                      go_wp2_with (first | ((with_reducible refine gate_callee (f := 8) rfl ?_); refine goesL_ (some 102) rfl rfl Try.func8 (by kernel_rfl) rfl #[] rfl (by (try simp only [List.map_toArray, List.map_cons, List.map_nil]); first | done | rfl | (simp only [List.length_drop, List.length_take]; rfl)) ?_; (with_reducible refine (prebendlaw02_awake.calls k2  true _ A37.out).mono ?_); rintro e w48 ⟨rfl, hb⟩; refine ⟨_, rfl, ?_⟩; have n0_ := Aside0.mk (Kd.R_below (by (with_reducible repeat (first | apply Kd.R_alloc | apply Kd.R_drewN | apply Kd.R_drew)); exact HO_11.out) hb); have n1_ := Aside0.mk (below_step (by repeat (first | (with_reducible first | exact HB.out | apply below_alloc | apply pw_below_drewN | apply below_drew1) | exact HB.out)) hb); clear HO_11; clear HB; have HO_11 := n0_; have HB := n1_; clear n0_ n1_; (try clear hb); (try clear hb2); (try clear hk); (try clear hi)) | (go_at_call 15; (with_reducible refine (plane_Apart.calls k2 _ _ t199 true _ ?side1 ?side2 A39.out).mono ?_); (case side1 => repeat (first | exact (Kd.R_reads' HO_11.out).2.2 | (with_reducible refine Kd.C_alloc ?_ _) | (with_reducible refine Kd.C_drewN ?_ _) | (with_reducible refine Kd.C_drew ?_))); (case side2 => exact (Kd.R_reads' HO_11.out).2.1); rintro e w49 ⟨rfl, hb⟩; have n0_ := Aside0.mk (Kd.R_below (by (with_reducible repeat (first | apply Kd.R_alloc | apply Kd.R_drewN | apply Kd.R_drew)); exact HO_11.out) hb); have n1_ := Aside0.mk (below_step (by repeat (first | (with_reducible first | exact HB.out | apply below_alloc | apply pw_below_drewN | apply below_drew1) | exact HB.out)) hb); clear HO_11; clear HB; have HO_11 := n0_; have HB := n1_; clear n0_ n1_; (try clear hb); (try clear hb2); (try clear hk); (try clear hi)))
                      go_ret
                      exact ⟨by first | rfl | (simp [errW_none, errW_some] <;> rfl) | (simp [*, errW_none, errW_some] <;> rfl), by repeat (first | (with_reducible first | exact HB.out | apply below_alloc | apply pw_below_drewN | apply below_drew1) | exact HB.out)⟩
                  · rw [if_neg c41] at H
                    have c41b0 : (x13_1 == (wrap64 (a2))) = false := beq_eq_false_iff_ne.mpr c41
                    have c41b1 : (x13_1 != (wrap64 (a2))) = true := bne_iff_ne.mpr c41
                    obtain rfl := Option.some.inj H
                    go_wp2_with (first | ((with_reducible refine gate_callee (f := 8) rfl ?_); refine goesL_ (some 102) rfl rfl Try.func8 (by kernel_rfl) rfl #[] rfl (by (try simp only [List.map_toArray, List.map_cons, List.map_nil]); first | done | rfl | (simp only [List.length_drop, List.length_take]; rfl)) ?_; (with_reducible refine (prebendlaw02_awake.calls k2  true _ A37.out).mono ?_); rintro e w50 ⟨rfl, hb⟩; refine ⟨_, rfl, ?_⟩; have n0_ := Aside0.mk (Kd.R_below (by (with_reducible repeat (first | apply Kd.R_alloc | apply Kd.R_drewN | apply Kd.R_drew)); exact HO_11.out) hb); have n1_ := Aside0.mk (below_step (by repeat (first | (with_reducible first | exact HB.out | apply below_alloc | apply pw_below_drewN | apply below_drew1) | exact HB.out)) hb); clear HO_11; clear HB; have HO_11 := n0_; have HB := n1_; clear n0_ n1_; (try clear hb); (try clear hb2); (try clear hk); (try clear hi)) | (go_at_call 15; (with_reducible refine (plane_Apart.calls k2 _ _ t199 true _ ?side1 ?side2 A39.out).mono ?_); (case side1 => repeat (first | exact (Kd.R_reads' HO_11.out).2.2 | (with_reducible refine Kd.C_alloc ?_ _) | (with_reducible refine Kd.C_drewN ?_ _) | (with_reducible refine Kd.C_drew ?_))); (case side2 => exact (Kd.R_reads' HO_11.out).2.1); rintro e w51 ⟨rfl, hb⟩; have n0_ := Aside0.mk (Kd.R_below (by (with_reducible repeat (first | apply Kd.R_alloc | apply Kd.R_drewN | apply Kd.R_drew)); exact HO_11.out) hb); have n1_ := Aside0.mk (below_step (by repeat (first | (with_reducible first | exact HB.out | apply below_alloc | apply pw_below_drewN | apply below_drew1) | exact HB.out)) hb); clear HO_11; clear HB; have HO_11 := n0_; have HB := n1_; clear n0_ n1_; (try clear hb); (try clear hb2); (try clear hk); (try clear hi)))
                    go_ret
                    exact ⟨by first | rfl | (simp [errW_none, errW_some] <;> rfl) | (simp [*, errW_none, errW_some] <;> rfl), by repeat (first | (with_reducible first | exact HB.out | apply below_alloc | apply pw_below_drewN | apply below_drew1) | exact HB.out)⟩
                · replace c40 := Bool.eq_false_iff.mpr c40
                  subst c40
                  have H1 : (some false) = some r := by rw [if_neg (show ¬ (false = true) by decide)] at H; exact H
                  clear H
                  have H := H1
                  clear H1
                  obtain rfl := Option.some.inj H
                  go_wp2_with (first | ((with_reducible refine gate_callee (f := 8) rfl ?_); refine goesL_ (some 102) rfl rfl Try.func8 (by kernel_rfl) rfl #[] rfl (by (try simp only [List.map_toArray, List.map_cons, List.map_nil]); first | done | rfl | (simp only [List.length_drop, List.length_take]; rfl)) ?_; (with_reducible refine (prebendlaw02_awake.calls k2  true _ A37.out).mono ?_); rintro e w52 ⟨rfl, hb⟩; refine ⟨_, rfl, ?_⟩; have n0_ := Aside0.mk (Kd.R_below (by (with_reducible repeat (first | apply Kd.R_alloc | apply Kd.R_drewN | apply Kd.R_drew)); exact HO_11.out) hb); have n1_ := Aside0.mk (below_step (by repeat (first | (with_reducible first | exact HB.out | apply below_alloc | apply pw_below_drewN | apply below_drew1) | exact HB.out)) hb); clear HO_11; clear HB; have HO_11 := n0_; have HB := n1_; clear n0_ n1_; (try clear hb); (try clear hb2); (try clear hk); (try clear hi)) | (go_at_call 15; (with_reducible refine (plane_Apart.calls k2 _ _ t199 false _ ?side1 ?side2 A39.out).mono ?_); (case side1 => repeat (first | exact (Kd.R_reads' HO_11.out).2.2 | (with_reducible refine Kd.C_alloc ?_ _) | (with_reducible refine Kd.C_drewN ?_ _) | (with_reducible refine Kd.C_drew ?_))); (case side2 => exact (Kd.R_reads' HO_11.out).2.1); rintro e w53 ⟨rfl, hb⟩; have n0_ := Aside0.mk (Kd.R_below (by (with_reducible repeat (first | apply Kd.R_alloc | apply Kd.R_drewN | apply Kd.R_drew)); exact HO_11.out) hb); have n1_ := Aside0.mk (below_step (by repeat (first | (with_reducible first | exact HB.out | apply below_alloc | apply pw_below_drewN | apply below_drew1) | exact HB.out)) hb); clear HO_11; clear HB; have HO_11 := n0_; have HB := n1_; clear n0_ n1_; (try clear hb); (try clear hb2); (try clear hk); (try clear hi)))
                  go_ret
                  exact ⟨by first | rfl | (simp [errW_none, errW_some] <;> rfl) | (simp [*, errW_none, errW_some] <;> rfl), by repeat (first | (with_reducible first | exact HB.out | apply below_alloc | apply pw_below_drewN | apply below_drew1) | exact HB.out)⟩
              · replace c38 := Bool.eq_false_iff.mpr c38
                subst c38
                have H1 : (some false) = some r := by rw [if_neg (show ¬ (false = true) by decide)] at H; exact H
                clear H
                have H := H1
                clear H1
                obtain rfl := Option.some.inj H
                go_wp2_with (first | ((with_reducible refine gate_callee (f := 8) rfl ?_); refine goesL_ (some 102) rfl rfl Try.func8 (by kernel_rfl) rfl #[] rfl (by (try simp only [List.map_toArray, List.map_cons, List.map_nil]); first | done | rfl | (simp only [List.length_drop, List.length_take]; rfl)) ?_; (with_reducible refine (prebendlaw02_awake.calls k2  false _ A37.out).mono ?_); rintro e w54 ⟨rfl, hb⟩; refine ⟨_, rfl, ?_⟩; have n0_ := Aside0.mk (Kd.R_below (by (with_reducible repeat (first | apply Kd.R_alloc | apply Kd.R_drewN | apply Kd.R_drew)); exact HO_11.out) hb); have n1_ := Aside0.mk (below_step (by repeat (first | (with_reducible first | exact HB.out | apply below_alloc | apply pw_below_drewN | apply below_drew1) | exact HB.out)) hb); clear HO_11; clear HB; have HO_11 := n0_; have HB := n1_; clear n0_ n1_; (try clear hb); (try clear hb2); (try clear hk); (try clear hi)))
                go_ret
                exact ⟨by first | rfl | (simp [errW_none, errW_some] <;> rfl) | (simp [*, errW_none, errW_some] <;> rfl), by repeat (first | (with_reducible first | exact HB.out | apply below_alloc | apply pw_below_drewN | apply below_drew1) | exact HB.out)⟩

/-- THE ONE PURE STATEMENT of prebendlaw02_PlaneCovers: yours. -/
def prebendlaw02_PlaneCovers.Pure : Prop := ∀ (a0 : Int) (a1 : Int) (a2 : Int) (a3 : Int) (a4 : Int), (Lit.int .u16 a0).wf = true → (Lit.int .u16 a1).wf = true → (Lit.int .u16 a2).wf = true → (Lit.int .u16 a3).wf = true → (Lit.int .u16 a4).wf = true → ∃ k, prebendlaw02_PlaneCovers.f k a0 a1 a2 a3 a4 = some true
theorem prebendlaw02_PlaneCovers.walk (P : prebendlaw02_PlaneCovers.Pure) (a0 : Int) (a1 : Int) (a2 : Int) (a3 : Int) (a4 : Int) (w : World) (w0 : (Lit.int .u16 a0).wf = true) (w1 : (Lit.int .u16 a1).wf = true) (w2 : (Lit.int .u16 a2).wf = true) (w3 : (Lit.int .u16 a3).wf = true) (w4 : (Lit.int .u16 a4).wf = true) :
    Calls Try.prog 6 #[.int .u16 a0, .int .u16 a1, .int .u16 a2, .int .u16 a3, .int .u16 a4] w fun e w' => e = .returned (.bool true) ∧ Below w.heap.size w w' := by
  obtain ⟨k, h⟩ := P a0 a1 a2 a3 a4 w0 w1 w2 w3 w4
  refine (prebendlaw02_PlaneCovers.calls k a0 a1 a2 a3 a4 true w h).mono ?_
  rintro e w' ⟨rfl, hd⟩
  exact ⟨rfl, hd⟩

end Go.Proofs.Ytokljfnicijheab.PAll
