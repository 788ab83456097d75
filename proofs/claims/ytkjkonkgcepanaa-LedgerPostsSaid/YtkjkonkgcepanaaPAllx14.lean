/- Contracts of functions of the program, each with a plain function of the same answers; written by a program of this workplace. -/
import Derived.Test.YtkjkonkgcepanaaPAllx0
namespace Go.Proofs.Ytkjkonkgcepanaa.PAll
open Go.RowKit Go.Proofs.YtkjkonkgcepanaaW.PrintWords Go.Proofs.YtkjkonkgcepanaaW.PrintLast Go.Proofs.YtkjkonkgcepanaaW.PrintMore
attribute [local go_sem] max2_int min2_int max_two min_two max_three min_three max_four min_four   -- for this text's walks alone
set_option linter.unusedVariables false
set_option linter.unusedSimpArgs false

/-! ### prebendref09_Flat: function 15 -/
def prebendref09_Flat.l0 : Nat → List (S39) → List Int → Int → Option (List Int)
  | 0, _, _, _ => none
  | k + 1, x1, x5, x6 => if x6 < (x1.length : Int) then (if 0 ≤ x6 then ((some (([(rd_T39 x1 x6).f3] : List Int) : List Int)).bind fun y132 => (if x5.length + y132.length < 17592186044416 then ((some (x5 ++ y132 : List Int)).bind fun y135 => ((some (([(rd_T39 x1 x6).f4] : List Int) : List Int)).bind fun y139 => (if y135.length + y139.length < 17592186044416 then ((some (y135 ++ y139 : List Int)).bind fun y142 => ((some (([(rd_T39 x1 x6).f5] : List Int) : List Int)).bind fun y146 => (if y142.length + y146.length < 17592186044416 then (prebendref09_Flat.l0 k x1 (y142 ++ y146) (wrap64 (x6 + 1))) else (none)))) else (none)))) else (none))) else (none)) else (some x5)
def prebendref09_Flat.f (k : Nat) (a0 : Int) (l1 : List (S39)) : Option (List Int) := prebendref09_Flat.l0 k l1 (([a0] : List Int)) 0
theorem prebendref09_Flat.mono_l : ∀ k, (∀ y0 y1 y2, LeO (prebendref09_Flat.l0 k y0 y1 y2) (prebendref09_Flat.l0 (k + 1) y0 y1 y2))
  | 0 => fun _ _ _ r h => by simp [prebendref09_Flat.l0] at h
  | k + 1 => by
    have ih0 := prebendref09_Flat.mono_l k
    · intro y0 y1 y2
      unfold prebendref09_Flat.l0
      repeat' first
      | (with_reducible exact ih0 _ _ _)
      | (with_reducible exact LeO.refl _)
      | (with_reducible exact LeO.none _)
      | (with_reducible refine LeO.ite ?_ ?_)
      | (with_reducible refine LeO.bind ?_ (fun _ => ?_))
      | exact ih0 _ _ _
      | exact LeO.none _
      | refine LeO.ite ?_ ?_
      | refine LeO.bind ?_ (fun _ => ?_)
theorem prebendref09_Flat.mono : ∀ a0 a1 k, LeO (prebendref09_Flat.f k a0 a1) (prebendref09_Flat.f (k + 1) a0 a1) := by
  intro a0 a1 k
  have ih0 := prebendref09_Flat.mono_l k
  unfold prebendref09_Flat.f
  repeat' first
      | (with_reducible exact ih0 _ _ _)
      | (with_reducible exact LeO.refl _)
      | (with_reducible exact LeO.none _)
      | (with_reducible refine LeO.ite ?_ ?_)
      | (with_reducible refine LeO.bind ?_ (fun _ => ?_))
      | exact ih0 _ _ _
      | exact LeO.none _
      | refine LeO.ite ?_ ?_
      | refine LeO.bind ?_ (fun _ => ?_)
def prebendref09_Flat.T5 : Bool × List (List Nat × List Nat) := (true, [([], []), ([], []), ([], []), ([1, 2], [1, 2]), ([3], [3]), ([4], [4]), ([5], [5]), ([0, 6], [0, 6]), ([], []), ([], []), ([8, 9], [8, 9]), ([10], [10]), ([11], [11]), ([12], [12]), ([7, 13, 7], [7, 13]), ([], []), ([], []), ([15, 16], [15, 16]), ([17], [17]), ([18], [18]), ([19], [19]), ([14, 20, 14], [14, 20]), ([21, 21, 0, 1, 2, 3, 4, 5, 6, 7, 8, 9, 10, 11, 12, 13, 14, 15, 16, 17, 18, 19, 20, 21], [0, 21])])
def prebendref09_Flat.B5 : List Nat := [0, 0, 0, 6, 14, 30, 62, 127, 0, 0, 768, 1792, 3840, 7936, 16383, 0, 0, 98304, 229376, 491520, 1015808, 2097151, 4194303]
theorem prebendref09_Flat.tab5 : rtab .any (opsOf Try.f15 5) = prebendref09_Flat.T5 := by kernel_rfl
theorem prebendref09_Flat.bits5 : waitsOk prebendref09_Flat.T5.2 prebendref09_Flat.B5 = true := by kernel_rfl
set_option maxHeartbeats 8000000 in
set_option maxRecDepth 100000 in
theorem prebendref09_Flat.calls (k : Nat) (a0 : Int) (A1 : Option Addr) (c1 : Nat) (l1 : List (S39)) (r : List Int) (w : World) (hr1 : Kd.C k39 w A1 l1.length l1) (hc1 : l1.length ≤ c1) (h : prebendref09_Flat.f k a0 l1 = some r) :
    Calls Try.prog 15 #[.int .i64 a0, .slice A1 l1.length c1] w fun e w' => ∃ v0_ : Value, e = .returned (v0_) ∧ Kd.R (Kd.int .i64) 3 w' w.heap.size (fun _ => True) v0_ r ∧ Below w.heap.size w w' := by
  have HR1 := Aside0.mk hr1
  have HC1 := Aside0.mk hc1
  clear hr1 hc1
  have HB := Aside0.mk (Below.refl w.heap.size w)
  have H : (prebendref09_Flat.l0 k l1 (([a0] : List Int)) 0) = some r := h
  clear h
  obtain ⟨y128, hy128⟩ : ∃ y_ : List Int, y_ = (([a0] : List Int)) := ⟨_, rfl⟩
  replace H : (prebendref09_Flat.l0 k l1 y128 0) = some r := by first | (rw [hy128]; with_reducible exact H) | (have H2_ := (Option.bind_some _ _).symm.trans H; rw [hy128]; with_reducible exact H2_) | (have H2_ := (Option.bind_some _ _).symm.trans H; with_reducible exact H2_) | with_reducible exact H | (rw [hy128]; exact H) | exact H
  have Ny128 := Aside0.mk hy128
  clear hy128
  have H' := Aside0.mk H
  clear H
  go_enter Try.func15, Try.ntmps15
  go_wp2_with (first | ((with_reducible refine gate_dst (N := 8) rfl ?_); refine Kd.R_lit (Kd.int .i64) _ 3 ?hg (N := 8) ?hd (xs := ([a0] : List Int)) (inner := [.int .i64 a0]) (ok := fun _ => True) (okp := fun _ => True) ?hr ?hp (fun _ hk => hk) trivial (Below.refl _ _) (Nat.le_refl _) (by simp) ?_; (case hd => rfl); (case hg => rfl); (case hr => first | (go_simp; done) | (go_simp; rfl)); (case hp => exact (Reps.one (show Kd.M (Kd.int .i64) _ _ _ a0 [.int .i64 a0] from rfl) (Reps.none _ _))); intro v129 w3 ho4 hb hg_ hnew_; clear hg_ hnew_; (first | rw [← Ny128.out] at ho4 | (simp only [Int.reduceToNat] at ho4; rw [← Ny128.out] at ho4)); have n0_ := Aside0.mk (Kd.R_lower ho4 (below_size (by repeat (first | (with_reducible first | exact HB.out | apply below_alloc | apply pw_below_drewN | apply below_drew1) | exact HB.out)))); have n1_ := Aside0.mk (below_step (by repeat (first | (with_reducible first | exact HB.out | apply below_alloc | apply pw_below_drewN | apply below_drew1) | exact HB.out)) hb); clear HB; have HO130 := n0_; have HB := n1_; clear n0_ n1_; clear hb ho4))
  go_loopg [5, 6] k (fun kq v5 v6 w' => ∃ (x5_1 : List Int) (x6_1 : Int), v6 = .int .i64 x6_1 ∧ Aside0 (prebendref09_Flat.l0 kq l1 x5_1 x6_1 = some r) ∧ Aside0 (kq ≤ k) ∧ Aside0 (Kd.R (Kd.int .i64) 3 w' w.heap.size (fun _ => True) v5 x5_1) ∧ Aside0 (Below w.heap.size w w'))
  case atStart => exact ⟨(y128), (0), (by first | rfl | (simp; done) | (simp [*]; done)), H', ⟨Nat.le_refl _⟩, ⟨by (with_reducible repeat (first | apply Kd.R_alloc | apply Kd.R_drewN | apply Kd.R_drew)); exact HO130.out⟩, ⟨by repeat (first | (with_reducible first | exact HB.out | apply below_alloc | apply pw_below_drewN | apply below_drew1) | exact HB.out)⟩⟩
  case round =>
    clear H'
    try clear c1
    try clear p2
    obtain ⟨x5_1, x6_1, rfl, HA, HK1, HO_5, HB⟩ := hrel
    cases gk with
    | zero => exact absurd HA.out (by simp [prebendref09_Flat.l0])
    | succ k1 =>
      have H := HA.out
      clear HA
      simp only [prebendref09_Flat.l0] at H
      by_cases c5 : x6_1 < (l1.length : Int)
      · rw [if_pos c5] at H
        have c5b0 : decide (x6_1 < (l1.length : Int)) = true := decide_eq_true c5
        clear c5
        by_cases c6 : 0 ≤ x6_1
        · rw [if_pos c6] at H
          have c6b0 : decide (0 ≤ x6_1) = true := decide_eq_true c6
          clear c6
          obtain ⟨y132, hy132⟩ : ∃ y_ : List Int, y_ = (([(rd_T39 l1 x6_1).f3] : List Int)) := ⟨_, rfl⟩
          replace H : (if x5_1.length + y132.length < 17592186044416 then ((some (x5_1 ++ y132 : List Int)).bind fun y135 => ((some (([(rd_T39 l1 x6_1).f4] : List Int) : List Int)).bind fun y139 => (if y135.length + y139.length < 17592186044416 then ((some (y135 ++ y139 : List Int)).bind fun y142 => ((some (([(rd_T39 l1 x6_1).f5] : List Int) : List Int)).bind fun y146 => (if y142.length + y146.length < 17592186044416 then (prebendref09_Flat.l0 k1 l1 (y142 ++ y146) (wrap64 (x6_1 + 1))) else (none)))) else (none)))) else (none)) = some r := by first | (rw [hy132]; with_reducible exact H) | (have H2_ := (Option.bind_some _ _).symm.trans H; rw [hy132]; with_reducible exact H2_) | (have H2_ := (Option.bind_some _ _).symm.trans H; with_reducible exact H2_) | with_reducible exact H | (rw [hy132]; exact H) | exact H
          have Ny132 := Aside0.mk hy132
          clear hy132
          by_cases c7 : x5_1.length + y132.length < 17592186044416
          · rw [if_pos c7] at H
            have LMc7 := Aside0.mk c7
            clear c7
            obtain ⟨y135, hy135⟩ : ∃ y_ : List Int, y_ = (x5_1 ++ y132) := ⟨_, rfl⟩
            replace H : ((some (([(rd_T39 l1 x6_1).f4] : List Int) : List Int)).bind fun y139 => (if y135.length + y139.length < 17592186044416 then ((some (y135 ++ y139 : List Int)).bind fun y142 => ((some (([(rd_T39 l1 x6_1).f5] : List Int) : List Int)).bind fun y146 => (if y142.length + y146.length < 17592186044416 then (prebendref09_Flat.l0 k1 l1 (y142 ++ y146) (wrap64 (x6_1 + 1))) else (none)))) else (none))) = some r := by first | (rw [hy135]; with_reducible exact H) | (have H2_ := (Option.bind_some _ _).symm.trans H; rw [hy135]; with_reducible exact H2_) | (have H2_ := (Option.bind_some _ _).symm.trans H; with_reducible exact H2_) | with_reducible exact H | (rw [hy135]; exact H) | exact H
            have Ny135 := Aside0.mk hy135
            clear hy135
            obtain ⟨y139, hy139⟩ : ∃ y_ : List Int, y_ = (([(rd_T39 l1 x6_1).f4] : List Int)) := ⟨_, rfl⟩
            replace H : (if y135.length + y139.length < 17592186044416 then ((some (y135 ++ y139 : List Int)).bind fun y142 => ((some (([(rd_T39 l1 x6_1).f5] : List Int) : List Int)).bind fun y146 => (if y142.length + y146.length < 17592186044416 then (prebendref09_Flat.l0 k1 l1 (y142 ++ y146) (wrap64 (x6_1 + 1))) else (none)))) else (none)) = some r := by first | (rw [hy139]; with_reducible exact H) | (have H2_ := (Option.bind_some _ _).symm.trans H; rw [hy139]; with_reducible exact H2_) | (have H2_ := (Option.bind_some _ _).symm.trans H; with_reducible exact H2_) | with_reducible exact H | (rw [hy139]; exact H) | exact H
            have Ny139 := Aside0.mk hy139
            clear hy139
            by_cases c8 : y135.length + y139.length < 17592186044416
            · rw [if_pos c8] at H
              have LMc8 := Aside0.mk c8
              clear c8
              obtain ⟨y142, hy142⟩ : ∃ y_ : List Int, y_ = (y135 ++ y139) := ⟨_, rfl⟩
              replace H : ((some (([(rd_T39 l1 x6_1).f5] : List Int) : List Int)).bind fun y146 => (if y142.length + y146.length < 17592186044416 then (prebendref09_Flat.l0 k1 l1 (y142 ++ y146) (wrap64 (x6_1 + 1))) else (none))) = some r := by first | (rw [hy142]; with_reducible exact H) | (have H2_ := (Option.bind_some _ _).symm.trans H; rw [hy142]; with_reducible exact H2_) | (have H2_ := (Option.bind_some _ _).symm.trans H; with_reducible exact H2_) | with_reducible exact H | (rw [hy142]; exact H) | exact H
              have Ny142 := Aside0.mk hy142
              clear hy142
              obtain ⟨y146, hy146⟩ : ∃ y_ : List Int, y_ = (([(rd_T39 l1 x6_1).f5] : List Int)) := ⟨_, rfl⟩
              replace H : (if y142.length + y146.length < 17592186044416 then (prebendref09_Flat.l0 k1 l1 (y142 ++ y146) (wrap64 (x6_1 + 1))) else (none)) = some r := by first | (rw [hy146]; with_reducible exact H) | (have H2_ := (Option.bind_some _ _).symm.trans H; rw [hy146]; with_reducible exact H2_) | (have H2_ := (Option.bind_some _ _).symm.trans H; with_reducible exact H2_) | with_reducible exact H | (rw [hy146]; exact H) | exact H
              have Ny146 := Aside0.mk hy146
              clear hy146
              by_cases c9 : y142.length + y146.length < 17592186044416
              · rw [if_pos c9] at H
                have LMc9 := Aside0.mk c9
                clear c9
                obtain ⟨y149, hy149⟩ : ∃ y_ : List Int, y_ = (y142 ++ y146) := ⟨_, rfl⟩
                replace H : (prebendref09_Flat.l0 k1 l1 y149 (wrap64 (x6_1 + 1))) = some r := by first | (rw [hy149]; with_reducible exact H) | (have H2_ := (Option.bind_some _ _).symm.trans H; rw [hy149]; with_reducible exact H2_) | (have H2_ := (Option.bind_some _ _).symm.trans H; with_reducible exact H2_) | with_reducible exact H | (rw [hy149]; exact H) | exact H
                have Ny149 := Aside0.mk hy149
                clear hy149
                have H' := Aside0.mk H
                clear H
                obtain ⟨Ao10, co10, eo10⟩ := Kd.R_slice HO_5.out
                subst eo10
                try go_wp2
                have n0_ := Aside0.mk (Kd.R_drew HO_5.out)
                have n1_ := Aside0.mk (below_drew1 HB.out)
                clear HO_5
                clear HB
                have HO_5 := n0_
                have HB := n1_
                clear n0_ n1_
                have p131 : 0 ≤ (x6_1 : Int) := of_decide_eq_true (by first | (with_reducible assumption) | assumption)
                have q131 : x6_1 < (l1.length : Int) := of_decide_eq_true (by first | (with_reducible assumption) | assumption)
                obtain ⟨ad131, e131, hx131_0, hx131_1, hx131_2, hx131_3, hx131_4, hx131_5⟩ := at_T39 HR1.out x6_1 p131 q131
                have hw131_5 := hx131_5
                have hw131_4 := hx131_4
                have hw131_3 := hx131_3
                have hw131_2 := hx131_2
                have hw131_1 := hx131_1
                have hw131_0 := hx131_0
                cases e131
                replace hx131_0 := (HB.out.cell (World.block_lt_of_cell? w _ hx131_0)).trans hx131_0
                replace hx131_1 := (HB.out.cell (World.block_lt_of_cell? w _ hx131_1)).trans hx131_1
                replace hx131_2 := (HB.out.cell (World.block_lt_of_cell? w _ hx131_2)).trans hx131_2
                replace hx131_3 := (HB.out.cell (World.block_lt_of_cell? w _ hx131_3)).trans hx131_3
                replace hx131_4 := (HB.out.cell (World.block_lt_of_cell? w _ hx131_4)).trans hx131_4
                replace hx131_5 := (HB.out.cell (World.block_lt_of_cell? w _ hx131_5)).trans hx131_5
                replace p131 := eq_true p131
                replace q131 := eq_true q131
                have p138 : 0 ≤ (x6_1 : Int) := of_decide_eq_true (by first | (with_reducible assumption) | assumption)
                have q138 : x6_1 < (l1.length : Int) := of_decide_eq_true (by first | (with_reducible assumption) | assumption)
                obtain ⟨ad138, e138, hx138_0, hx138_1, hx138_2, hx138_3, hx138_4, hx138_5⟩ := at_T39 HR1.out x6_1 p138 q138
                have hw138_5 := hx138_5
                have hw138_4 := hx138_4
                have hw138_3 := hx138_3
                have hw138_2 := hx138_2
                have hw138_1 := hx138_1
                have hw138_0 := hx138_0
                obtain rfl : ad131 = ad138 := (by injection e138)
                replace hx138_0 := (HB.out.cell (World.block_lt_of_cell? w _ hx138_0)).trans hx138_0
                replace hx138_1 := (HB.out.cell (World.block_lt_of_cell? w _ hx138_1)).trans hx138_1
                replace hx138_2 := (HB.out.cell (World.block_lt_of_cell? w _ hx138_2)).trans hx138_2
                replace hx138_3 := (HB.out.cell (World.block_lt_of_cell? w _ hx138_3)).trans hx138_3
                replace hx138_4 := (HB.out.cell (World.block_lt_of_cell? w _ hx138_4)).trans hx138_4
                replace hx138_5 := (HB.out.cell (World.block_lt_of_cell? w _ hx138_5)).trans hx138_5
                replace p138 := eq_true p138
                replace q138 := eq_true q138
                have p145 : 0 ≤ (x6_1 : Int) := of_decide_eq_true (by first | (with_reducible assumption) | assumption)
                have q145 : x6_1 < (l1.length : Int) := of_decide_eq_true (by first | (with_reducible assumption) | assumption)
                obtain ⟨ad145, e145, hx145_0, hx145_1, hx145_2, hx145_3, hx145_4, hx145_5⟩ := at_T39 HR1.out x6_1 p145 q145
                have hw145_5 := hx145_5
                have hw145_4 := hx145_4
                have hw145_3 := hx145_3
                have hw145_2 := hx145_2
                have hw145_1 := hx145_1
                have hw145_0 := hx145_0
                obtain rfl : ad131 = ad145 := (by injection e145)
                replace hx145_0 := (HB.out.cell (World.block_lt_of_cell? w _ hx145_0)).trans hx145_0
                replace hx145_1 := (HB.out.cell (World.block_lt_of_cell? w _ hx145_1)).trans hx145_1
                replace hx145_2 := (HB.out.cell (World.block_lt_of_cell? w _ hx145_2)).trans hx145_2
                replace hx145_3 := (HB.out.cell (World.block_lt_of_cell? w _ hx145_3)).trans hx145_3
                replace hx145_4 := (HB.out.cell (World.block_lt_of_cell? w _ hx145_4)).trans hx145_4
                replace hx145_5 := (HB.out.cell (World.block_lt_of_cell? w _ hx145_5)).trans hx145_5
                replace p145 := eq_true p145
                replace q145 := eq_true q145
                refine start_ (n := 23) (S := fun w' => w'.cell? (ad131.add ((x6_1).toNat * 6)) = some (.int .i64 ((rd_T39 l1 x6_1).f0)) ∧ w'.cell? ⟨(ad131.add ((x6_1).toNat * 6)).block, (ad131.add ((x6_1).toNat * 6)).off + 1, none⟩ = some (.int .i64 ((rd_T39 l1 x6_1).f1)) ∧ w'.cell? ⟨(ad131.add ((x6_1).toNat * 6)).block, (ad131.add ((x6_1).toNat * 6)).off + 2, none⟩ = some (.int .i64 ((rd_T39 l1 x6_1).f2)) ∧ w'.cell? ⟨(ad131.add ((x6_1).toNat * 6)).block, (ad131.add ((x6_1).toNat * 6)).off + 3, none⟩ = some (.int .i64 ((rd_T39 l1 x6_1).f3)) ∧ w'.cell? ⟨(ad131.add ((x6_1).toNat * 6)).block, (ad131.add ((x6_1).toNat * 6)).off + 4, none⟩ = some (.int .i64 ((rd_T39 l1 x6_1).f4)) ∧ w'.cell? ⟨(ad131.add ((x6_1).toNat * 6)).block, (ad131.add ((x6_1).toNat * 6)).off + 5, none⟩ = some (.int .i64 ((rd_T39 l1 x6_1).f5)) ∧ w'.cell? (ad131.add ((x6_1).toNat * 6)) = some (.int .i64 ((rd_T39 l1 x6_1).f0)) ∧ w'.cell? ⟨(ad131.add ((x6_1).toNat * 6)).block, (ad131.add ((x6_1).toNat * 6)).off + 1, none⟩ = some (.int .i64 ((rd_T39 l1 x6_1).f1)) ∧ w'.cell? ⟨(ad131.add ((x6_1).toNat * 6)).block, (ad131.add ((x6_1).toNat * 6)).off + 2, none⟩ = some (.int .i64 ((rd_T39 l1 x6_1).f2)) ∧ w'.cell? ⟨(ad131.add ((x6_1).toNat * 6)).block, (ad131.add ((x6_1).toNat * 6)).off + 3, none⟩ = some (.int .i64 ((rd_T39 l1 x6_1).f3)) ∧ w'.cell? ⟨(ad131.add ((x6_1).toNat * 6)).block, (ad131.add ((x6_1).toNat * 6)).off + 4, none⟩ = some (.int .i64 ((rd_T39 l1 x6_1).f4)) ∧ w'.cell? ⟨(ad131.add ((x6_1).toNat * 6)).block, (ad131.add ((x6_1).toNat * 6)).off + 5, none⟩ = some (.int .i64 ((rd_T39 l1 x6_1).f5)) ∧ w'.cell? (ad131.add ((x6_1).toNat * 6)) = some (.int .i64 ((rd_T39 l1 x6_1).f0)) ∧ w'.cell? ⟨(ad131.add ((x6_1).toNat * 6)).block, (ad131.add ((x6_1).toNat * 6)).off + 1, none⟩ = some (.int .i64 ((rd_T39 l1 x6_1).f1)) ∧ w'.cell? ⟨(ad131.add ((x6_1).toNat * 6)).block, (ad131.add ((x6_1).toNat * 6)).off + 2, none⟩ = some (.int .i64 ((rd_T39 l1 x6_1).f2)) ∧ w'.cell? ⟨(ad131.add ((x6_1).toNat * 6)).block, (ad131.add ((x6_1).toNat * 6)).off + 3, none⟩ = some (.int .i64 ((rd_T39 l1 x6_1).f3)) ∧ w'.cell? ⟨(ad131.add ((x6_1).toNat * 6)).block, (ad131.add ((x6_1).toNat * 6)).off + 4, none⟩ = some (.int .i64 ((rd_T39 l1 x6_1).f4)) ∧ w'.cell? ⟨(ad131.add ((x6_1).toNat * 6)).block, (ad131.add ((x6_1).toNat * 6)).off + 5, none⟩ = some (.int .i64 ((rd_T39 l1 x6_1).f5))) (ds := []) #[false, false, false, false, false, false, false, false, false, false, false, false, false, false, false, false, false, false, false, false, false, false, false] (by kernel_rfl) rfl rfl ⟨((HB.out.cell (World.block_lt_of_cell? w _ hw131_0)).trans hw131_0), ((HB.out.cell (World.block_lt_of_cell? w _ hw131_1)).trans hw131_1), ((HB.out.cell (World.block_lt_of_cell? w _ hw131_2)).trans hw131_2), ((HB.out.cell (World.block_lt_of_cell? w _ hw131_3)).trans hw131_3), ((HB.out.cell (World.block_lt_of_cell? w _ hw131_4)).trans hw131_4), ((HB.out.cell (World.block_lt_of_cell? w _ hw131_5)).trans hw131_5), ((HB.out.cell (World.block_lt_of_cell? w _ hw138_0)).trans hw138_0), ((HB.out.cell (World.block_lt_of_cell? w _ hw138_1)).trans hw138_1), ((HB.out.cell (World.block_lt_of_cell? w _ hw138_2)).trans hw138_2), ((HB.out.cell (World.block_lt_of_cell? w _ hw138_3)).trans hw138_3), ((HB.out.cell (World.block_lt_of_cell? w _ hw138_4)).trans hw138_4), ((HB.out.cell (World.block_lt_of_cell? w _ hw138_5)).trans hw138_5), ((HB.out.cell (World.block_lt_of_cell? w _ hw145_0)).trans hw145_0), ((HB.out.cell (World.block_lt_of_cell? w _ hw145_1)).trans hw145_1), ((HB.out.cell (World.block_lt_of_cell? w _ hw145_2)).trans hw145_2), ((HB.out.cell (World.block_lt_of_cell? w _ hw145_3)).trans hw145_3), ((HB.out.cell (World.block_lt_of_cell? w _ hw145_4)).trans hw145_4), ((HB.out.cell (World.block_lt_of_cell? w _ hw145_5)).trans hw145_5)⟩ (fun hHeld => ?_); refine with_tabW prebendref09_Flat.tab5 prebendref09_Flat.bits5 (fun HT_ HW_ => ?_)
                generalize wr.drew = w11 at HO_5 HB hx131_0 hx131_1 hx131_2 hx131_3 hx131_4 hx131_5 hx138_0 hx138_1 hx138_2 hx138_3 hx138_4 hx138_5 hx145_0 hx145_1 hx145_2 hx145_3 hx145_4 hx145_5 hHeld ⊢
                refine pure_ (i := 0) (N := some 15) (v := ?_) (a' := ?_) #[true, false, false, false, false, false, false, false, false, false, false, false, false, false, false, false, false, false, false, false, false, false, false] rfl rfl (any_of HT_.out (by kernel_rfl)) (fun _ _ _ h => h) (Or.inl ⟨by rfl, ?_⟩) ?_ ?_
                rotate_left
                · intro w'
                  go_simp
                  with_reducible rfl
                rotate_left
                · simp only [Act.put, List.setIfInBounds_toArray, List.set_cons_zero, List.set_cons_succ, i64_w, i32_w]
                  rfl
                refine pure_ (i := 1) (N := some 16) (v := ?_) (a' := ?_) #[true, true, false, false, false, false, false, false, false, false, false, false, false, false, false, false, false, false, false, false, false, false, false] rfl rfl (any_of HT_.out (by kernel_rfl)) (fun _ _ _ h => h) (Or.inl ⟨by rfl, ?_⟩) ?_ ?_
                rotate_left
                · intro w'
                  go_simp
                  with_reducible rfl
                rotate_left
                · simp only [Act.put, List.setIfInBounds_toArray, List.set_cons_zero, List.set_cons_succ, i64_w, i32_w]
                  rfl
                refine pure_ (i := 2) (N := some 17) (v := ?_) (a' := ?_) #[true, true, true, false, false, false, false, false, false, false, false, false, false, false, false, false, false, false, false, false, false, false, false] rfl rfl (any_of HT_.out (by kernel_rfl)) (fun _ _ _ h => h) (Or.inl ⟨by rfl, ?_⟩) ?_ ?_
                rotate_left
                · intro w'
                  go_simp
                  with_reducible rfl
                rotate_left
                · simp only [Act.put, List.setIfInBounds_toArray, List.set_cons_zero, List.set_cons_succ, i64_w, i32_w]
                  rfl
                refine pure_ (i := 3) (N := some 18) (v := ?_) (a' := ?_) #[true, true, true, true, false, false, false, false, false, false, false, false, false, false, false, false, false, false, false, false, false, false, false] rfl rfl (any_of HT_.out (by kernel_rfl)) (fun _ _ _ h => h) (Or.inl ⟨by rfl, ?_⟩) ?_ ?_
                rotate_left
                · intro w'
                  go_simp
                  with_reducible rfl
                rotate_left
                · simp only [Act.put, List.setIfInBounds_toArray, List.set_cons_zero, List.set_cons_succ, i64_w, i32_w]
                  rfl
                refine pure_ (i := 4) (N := some 19) (v := ?_) (a' := ?_) #[true, true, true, true, true, false, false, false, false, false, false, false, false, false, false, false, false, false, false, false, false, false, false] rfl rfl (any_of HT_.out (by kernel_rfl)) (fun _ _ _ h => h) (Or.inl ⟨by rfl, ?_⟩) ?_ ?_
                rotate_left
                · intro w'
                  go_simp
                  with_reducible rfl
                rotate_left
                · simp only [Act.put, List.setIfInBounds_toArray, List.set_cons_zero, List.set_cons_succ, i64_w, i32_w]
                  rfl
                refine pure_ (i := 8) (N := some 23) (v := ?_) (a' := ?_) #[true, true, true, true, true, false, false, false, true, false, false, false, false, false, false, false, false, false, false, false, false, false, false] rfl rfl (any_of HT_.out (by kernel_rfl)) (fun _ _ _ h => h) (Or.inl ⟨by rfl, ?_⟩) ?_ ?_
                rotate_left
                · intro w'
                  go_simp
                  with_reducible rfl
                rotate_left
                · simp only [Act.put, List.setIfInBounds_toArray, List.set_cons_zero, List.set_cons_succ, i64_w, i32_w]
                  rfl
                refine pure_ (i := 9) (N := some 24) (v := ?_) (a' := ?_) #[true, true, true, true, true, false, false, false, true, true, false, false, false, false, false, false, false, false, false, false, false, false, false] rfl rfl (any_of HT_.out (by kernel_rfl)) (fun _ _ _ h => h) (Or.inl ⟨by rfl, ?_⟩) ?_ ?_
                rotate_left
                · intro w'
                  go_simp
                  with_reducible rfl
                rotate_left
                · simp only [Act.put, List.setIfInBounds_toArray, List.set_cons_zero, List.set_cons_succ, i64_w, i32_w]
                  rfl
                refine pure_ (i := 10) (N := some 25) (v := ?_) (a' := ?_) #[true, true, true, true, true, false, false, false, true, true, true, false, false, false, false, false, false, false, false, false, false, false, false] rfl rfl (any_of HT_.out (by kernel_rfl)) (fun _ _ _ h => h) (Or.inl ⟨by rfl, ?_⟩) ?_ ?_
                rotate_left
                · intro w'
                  go_simp
                  with_reducible rfl
                rotate_left
                · simp only [Act.put, List.setIfInBounds_toArray, List.set_cons_zero, List.set_cons_succ, i64_w, i32_w]
                  rfl
                refine pure_ (i := 11) (N := some 26) (v := ?_) (a' := ?_) #[true, true, true, true, true, false, false, false, true, true, true, true, false, false, false, false, false, false, false, false, false, false, false] rfl rfl (any_of HT_.out (by kernel_rfl)) (fun _ _ _ h => h) (Or.inl ⟨by rfl, ?_⟩) ?_ ?_
                rotate_left
                · intro w'
                  go_simp
                  with_reducible rfl
                rotate_left
                · simp only [Act.put, List.setIfInBounds_toArray, List.set_cons_zero, List.set_cons_succ, i64_w, i32_w]
                  rfl
                refine pure_ (i := 15) (N := some 30) (v := ?_) (a' := ?_) #[true, true, true, true, true, false, false, false, true, true, true, true, false, false, false, true, false, false, false, false, false, false, false] rfl rfl (any_of HT_.out (by kernel_rfl)) (fun _ _ _ h => h) (Or.inl ⟨by rfl, ?_⟩) ?_ ?_
                rotate_left
                · intro w'
                  go_simp
                  with_reducible rfl
                rotate_left
                · simp only [Act.put, List.setIfInBounds_toArray, List.set_cons_zero, List.set_cons_succ, i64_w, i32_w]
                  rfl
                refine pure_ (i := 16) (N := some 31) (v := ?_) (a' := ?_) #[true, true, true, true, true, false, false, false, true, true, true, true, false, false, false, true, true, false, false, false, false, false, false] rfl rfl (any_of HT_.out (by kernel_rfl)) (fun _ _ _ h => h) (Or.inl ⟨by rfl, ?_⟩) ?_ ?_
                rotate_left
                · intro w'
                  go_simp
                  with_reducible rfl
                rotate_left
                · simp only [Act.put, List.setIfInBounds_toArray, List.set_cons_zero, List.set_cons_succ, i64_w, i32_w]
                  rfl
                refine pure_ (i := 17) (N := some 32) (v := ?_) (a' := ?_) #[true, true, true, true, true, false, false, false, true, true, true, true, false, false, false, true, true, true, false, false, false, false, false] rfl rfl (any_of HT_.out (by kernel_rfl)) (fun _ _ _ h => h) (Or.inl ⟨by rfl, ?_⟩) ?_ ?_
                rotate_left
                · intro w'
                  go_simp
                  with_reducible rfl
                rotate_left
                · simp only [Act.put, List.setIfInBounds_toArray, List.set_cons_zero, List.set_cons_succ, i64_w, i32_w]
                  rfl
                refine pure_ (i := 18) (N := some 33) (v := ?_) (a' := ?_) #[true, true, true, true, true, false, false, false, true, true, true, true, false, false, false, true, true, true, true, false, false, false, false] rfl rfl (any_of HT_.out (by kernel_rfl)) (fun _ _ _ h => h) (Or.inl ⟨by rfl, ?_⟩) ?_ ?_
                rotate_left
                · intro w'
                  go_simp
                  with_reducible rfl
                rotate_left
                · simp only [Act.put, List.setIfInBounds_toArray, List.set_cons_zero, List.set_cons_succ, i64_w, i32_w]
                  rfl
                refine take_ (i := 5) (N := some 20) (v := ?_) (a' := ?_) #[true, true, true, true, true, true, false, false, true, true, true, true, false, false, false, true, true, true, true, false, false, false, false] rfl rfl (take_ofW HT_.out HW_.out (by kernel_rfl)) (fun _ _ _ h => h) (Or.inl ⟨by rfl, ?_⟩) hHeld ?_ ?_
                rotate_left
                · rintro w' ⟨s0, s1, s2, s3, s4, s5, s6, s7, s8, s9, s10, s11, s12, s13, s14, s15, s16, s17⟩
                  go_simp
                  with_reducible rfl
                rotate_left
                · simp only [Act.put, List.setIfInBounds_toArray, List.set_cons_zero, List.set_cons_succ, i64_w, i32_w]
                  rfl
                refine take_ (i := 12) (N := some 27) (v := ?_) (a' := ?_) #[true, true, true, true, true, true, false, false, true, true, true, true, true, false, false, true, true, true, true, false, false, false, false] rfl rfl (take_ofW HT_.out HW_.out (by kernel_rfl)) (fun _ _ _ h => h) (Or.inl ⟨by rfl, ?_⟩) hHeld ?_ ?_
                rotate_left
                · rintro w' ⟨s0, s1, s2, s3, s4, s5, s6, s7, s8, s9, s10, s11, s12, s13, s14, s15, s16, s17⟩
                  go_simp
                  with_reducible rfl
                rotate_left
                · simp only [Act.put, List.setIfInBounds_toArray, List.set_cons_zero, List.set_cons_succ, i64_w, i32_w]
                  rfl
                refine take_ (i := 19) (N := some 34) (v := ?_) (a' := ?_) #[true, true, true, true, true, true, false, false, true, true, true, true, true, false, false, true, true, true, true, true, false, false, false] rfl rfl (take_ofW HT_.out HW_.out (by kernel_rfl)) (fun _ _ _ h => h) (Or.inl ⟨by rfl, ?_⟩) hHeld ?_ ?_
                rotate_left
                · rintro w' ⟨s0, s1, s2, s3, s4, s5, s6, s7, s8, s9, s10, s11, s12, s13, s14, s15, s16, s17⟩
                  go_simp
                  with_reducible rfl
                rotate_left
                · simp only [Act.put, List.setIfInBounds_toArray, List.set_cons_zero, List.set_cons_succ, i64_w, i32_w]
                  rfl
                refine join_ (σ := Value × Value × Value × Value × Value) 2 #[true, true, true, true, true, true, true, true, true, true, true, true, true, true, true, true, true, true, true, true, true, false, false] (fun s_ => [(21, s_.1), (22, s_.2.1), (28, s_.2.2.1), (29, s_.2.2.2.1), (35, s_.2.2.2.2)]) (fun s_ w' => (w'.cell? (ad131.add ((x6_1).toNat * 6)) = some (.int .i64 ((rd_T39 l1 x6_1).f0)) ∧ w'.cell? ⟨(ad131.add ((x6_1).toNat * 6)).block, (ad131.add ((x6_1).toNat * 6)).off + 1, none⟩ = some (.int .i64 ((rd_T39 l1 x6_1).f1)) ∧ w'.cell? ⟨(ad131.add ((x6_1).toNat * 6)).block, (ad131.add ((x6_1).toNat * 6)).off + 2, none⟩ = some (.int .i64 ((rd_T39 l1 x6_1).f2)) ∧ w'.cell? ⟨(ad131.add ((x6_1).toNat * 6)).block, (ad131.add ((x6_1).toNat * 6)).off + 3, none⟩ = some (.int .i64 ((rd_T39 l1 x6_1).f3)) ∧ w'.cell? ⟨(ad131.add ((x6_1).toNat * 6)).block, (ad131.add ((x6_1).toNat * 6)).off + 4, none⟩ = some (.int .i64 ((rd_T39 l1 x6_1).f4)) ∧ w'.cell? ⟨(ad131.add ((x6_1).toNat * 6)).block, (ad131.add ((x6_1).toNat * 6)).off + 5, none⟩ = some (.int .i64 ((rd_T39 l1 x6_1).f5)) ∧ w'.cell? (ad131.add ((x6_1).toNat * 6)) = some (.int .i64 ((rd_T39 l1 x6_1).f0)) ∧ w'.cell? ⟨(ad131.add ((x6_1).toNat * 6)).block, (ad131.add ((x6_1).toNat * 6)).off + 1, none⟩ = some (.int .i64 ((rd_T39 l1 x6_1).f1)) ∧ w'.cell? ⟨(ad131.add ((x6_1).toNat * 6)).block, (ad131.add ((x6_1).toNat * 6)).off + 2, none⟩ = some (.int .i64 ((rd_T39 l1 x6_1).f2)) ∧ w'.cell? ⟨(ad131.add ((x6_1).toNat * 6)).block, (ad131.add ((x6_1).toNat * 6)).off + 3, none⟩ = some (.int .i64 ((rd_T39 l1 x6_1).f3)) ∧ w'.cell? ⟨(ad131.add ((x6_1).toNat * 6)).block, (ad131.add ((x6_1).toNat * 6)).off + 4, none⟩ = some (.int .i64 ((rd_T39 l1 x6_1).f4)) ∧ w'.cell? ⟨(ad131.add ((x6_1).toNat * 6)).block, (ad131.add ((x6_1).toNat * 6)).off + 5, none⟩ = some (.int .i64 ((rd_T39 l1 x6_1).f5)) ∧ w'.cell? (ad131.add ((x6_1).toNat * 6)) = some (.int .i64 ((rd_T39 l1 x6_1).f0)) ∧ w'.cell? ⟨(ad131.add ((x6_1).toNat * 6)).block, (ad131.add ((x6_1).toNat * 6)).off + 1, none⟩ = some (.int .i64 ((rd_T39 l1 x6_1).f1)) ∧ w'.cell? ⟨(ad131.add ((x6_1).toNat * 6)).block, (ad131.add ((x6_1).toNat * 6)).off + 2, none⟩ = some (.int .i64 ((rd_T39 l1 x6_1).f2)) ∧ w'.cell? ⟨(ad131.add ((x6_1).toNat * 6)).block, (ad131.add ((x6_1).toNat * 6)).off + 3, none⟩ = some (.int .i64 ((rd_T39 l1 x6_1).f3)) ∧ w'.cell? ⟨(ad131.add ((x6_1).toNat * 6)).block, (ad131.add ((x6_1).toNat * 6)).off + 4, none⟩ = some (.int .i64 ((rd_T39 l1 x6_1).f4)) ∧ w'.cell? ⟨(ad131.add ((x6_1).toNat * 6)).block, (ad131.add ((x6_1).toNat * 6)).off + 5, none⟩ = some (.int .i64 ((rd_T39 l1 x6_1).f5))) ∧ (Kd.R (Kd.int .i64) 3 w' w.heap.size (fun k_ => some k_ ≠ (s_.2.2.1 : Value).ownBlock ∧ some k_ ≠ (s_.2.2.2.1 : Value).ownBlock ∧ some k_ ≠ (s_.2.2.2.2 : Value).ownBlock) s_.1 y132) ∧ (Kd.R (Kd.int .i64) 3 w' w.heap.size (fun k_ => some k_ ≠ (s_.1 : Value).ownBlock ∧ some k_ ≠ (s_.2.2.2.1 : Value).ownBlock ∧ some k_ ≠ (s_.2.2.2.2 : Value).ownBlock) s_.2.2.1 y139) ∧ (Kd.R (Kd.int .i64) 3 w' w.heap.size (fun k_ => some k_ ≠ (s_.1 : Value).ownBlock ∧ some k_ ≠ (s_.2.2.1 : Value).ownBlock ∧ some k_ ≠ (s_.2.2.2.2 : Value).ownBlock) s_.2.2.2.1 y142) ∧ (Kd.R (Kd.int .i64) 3 w' w.heap.size (fun k_ => some k_ ≠ (s_.1 : Value).ownBlock ∧ some k_ ≠ (s_.2.2.1 : Value).ownBlock ∧ some k_ ≠ (s_.2.2.2.1 : Value).ownBlock) s_.2.2.2.2 y146) ∧ (Below w.heap.size w w')) ?_ ?_
                rotate_left
                · intro hJ6_7_13_14_20
                  refine join_ (σ := Value × Value × Value × Value) 3 #[true, true, true, true, true, true, true, true, true, true, true, true, true, true, true, true, true, true, true, true, false, false, false] (fun s_ => [(21, s_.1), (22, s_.2.1), (28, s_.2.2.1), (29, s_.2.2.2)]) (fun s_ w' => (w'.cell? (ad131.add ((x6_1).toNat * 6)) = some (.int .i64 ((rd_T39 l1 x6_1).f0)) ∧ w'.cell? ⟨(ad131.add ((x6_1).toNat * 6)).block, (ad131.add ((x6_1).toNat * 6)).off + 1, none⟩ = some (.int .i64 ((rd_T39 l1 x6_1).f1)) ∧ w'.cell? ⟨(ad131.add ((x6_1).toNat * 6)).block, (ad131.add ((x6_1).toNat * 6)).off + 2, none⟩ = some (.int .i64 ((rd_T39 l1 x6_1).f2)) ∧ w'.cell? ⟨(ad131.add ((x6_1).toNat * 6)).block, (ad131.add ((x6_1).toNat * 6)).off + 3, none⟩ = some (.int .i64 ((rd_T39 l1 x6_1).f3)) ∧ w'.cell? ⟨(ad131.add ((x6_1).toNat * 6)).block, (ad131.add ((x6_1).toNat * 6)).off + 4, none⟩ = some (.int .i64 ((rd_T39 l1 x6_1).f4)) ∧ w'.cell? ⟨(ad131.add ((x6_1).toNat * 6)).block, (ad131.add ((x6_1).toNat * 6)).off + 5, none⟩ = some (.int .i64 ((rd_T39 l1 x6_1).f5)) ∧ w'.cell? (ad131.add ((x6_1).toNat * 6)) = some (.int .i64 ((rd_T39 l1 x6_1).f0)) ∧ w'.cell? ⟨(ad131.add ((x6_1).toNat * 6)).block, (ad131.add ((x6_1).toNat * 6)).off + 1, none⟩ = some (.int .i64 ((rd_T39 l1 x6_1).f1)) ∧ w'.cell? ⟨(ad131.add ((x6_1).toNat * 6)).block, (ad131.add ((x6_1).toNat * 6)).off + 2, none⟩ = some (.int .i64 ((rd_T39 l1 x6_1).f2)) ∧ w'.cell? ⟨(ad131.add ((x6_1).toNat * 6)).block, (ad131.add ((x6_1).toNat * 6)).off + 3, none⟩ = some (.int .i64 ((rd_T39 l1 x6_1).f3)) ∧ w'.cell? ⟨(ad131.add ((x6_1).toNat * 6)).block, (ad131.add ((x6_1).toNat * 6)).off + 4, none⟩ = some (.int .i64 ((rd_T39 l1 x6_1).f4)) ∧ w'.cell? ⟨(ad131.add ((x6_1).toNat * 6)).block, (ad131.add ((x6_1).toNat * 6)).off + 5, none⟩ = some (.int .i64 ((rd_T39 l1 x6_1).f5)) ∧ w'.cell? (ad131.add ((x6_1).toNat * 6)) = some (.int .i64 ((rd_T39 l1 x6_1).f0)) ∧ w'.cell? ⟨(ad131.add ((x6_1).toNat * 6)).block, (ad131.add ((x6_1).toNat * 6)).off + 1, none⟩ = some (.int .i64 ((rd_T39 l1 x6_1).f1)) ∧ w'.cell? ⟨(ad131.add ((x6_1).toNat * 6)).block, (ad131.add ((x6_1).toNat * 6)).off + 2, none⟩ = some (.int .i64 ((rd_T39 l1 x6_1).f2)) ∧ w'.cell? ⟨(ad131.add ((x6_1).toNat * 6)).block, (ad131.add ((x6_1).toNat * 6)).off + 3, none⟩ = some (.int .i64 ((rd_T39 l1 x6_1).f3)) ∧ w'.cell? ⟨(ad131.add ((x6_1).toNat * 6)).block, (ad131.add ((x6_1).toNat * 6)).off + 4, none⟩ = some (.int .i64 ((rd_T39 l1 x6_1).f4)) ∧ w'.cell? ⟨(ad131.add ((x6_1).toNat * 6)).block, (ad131.add ((x6_1).toNat * 6)).off + 5, none⟩ = some (.int .i64 ((rd_T39 l1 x6_1).f5))) ∧ (Kd.R (Kd.int .i64) 3 w' w.heap.size (fun k_ => some k_ ≠ (s_.2.2.1 : Value).ownBlock ∧ some k_ ≠ (s_.2.2.2 : Value).ownBlock) s_.1 y132) ∧ (Kd.R (Kd.int .i64) 3 w' w.heap.size (fun k_ => some k_ ≠ (s_.1 : Value).ownBlock ∧ some k_ ≠ (s_.2.2.2 : Value).ownBlock) s_.2.2.1 y139) ∧ (Kd.R (Kd.int .i64) 3 w' w.heap.size (fun k_ => some k_ ≠ (s_.1 : Value).ownBlock ∧ some k_ ≠ (s_.2.2.1 : Value).ownBlock) s_.2.2.2 y142) ∧ (Below w.heap.size w w')) ?_ ?_
                  rotate_left
                  · intro hJ6_7_13_14
                    refine join_ (σ := Value × Value × Value × Value) 3 #[true, true, true, true, true, true, true, true, true, true, true, true, true, true, false, true, true, true, true, true, true, false, false] (fun s_ => [(21, s_.1), (22, s_.2.1), (28, s_.2.2.1), (35, s_.2.2.2)]) (fun s_ w' => (w'.cell? (ad131.add ((x6_1).toNat * 6)) = some (.int .i64 ((rd_T39 l1 x6_1).f0)) ∧ w'.cell? ⟨(ad131.add ((x6_1).toNat * 6)).block, (ad131.add ((x6_1).toNat * 6)).off + 1, none⟩ = some (.int .i64 ((rd_T39 l1 x6_1).f1)) ∧ w'.cell? ⟨(ad131.add ((x6_1).toNat * 6)).block, (ad131.add ((x6_1).toNat * 6)).off + 2, none⟩ = some (.int .i64 ((rd_T39 l1 x6_1).f2)) ∧ w'.cell? ⟨(ad131.add ((x6_1).toNat * 6)).block, (ad131.add ((x6_1).toNat * 6)).off + 3, none⟩ = some (.int .i64 ((rd_T39 l1 x6_1).f3)) ∧ w'.cell? ⟨(ad131.add ((x6_1).toNat * 6)).block, (ad131.add ((x6_1).toNat * 6)).off + 4, none⟩ = some (.int .i64 ((rd_T39 l1 x6_1).f4)) ∧ w'.cell? ⟨(ad131.add ((x6_1).toNat * 6)).block, (ad131.add ((x6_1).toNat * 6)).off + 5, none⟩ = some (.int .i64 ((rd_T39 l1 x6_1).f5)) ∧ w'.cell? (ad131.add ((x6_1).toNat * 6)) = some (.int .i64 ((rd_T39 l1 x6_1).f0)) ∧ w'.cell? ⟨(ad131.add ((x6_1).toNat * 6)).block, (ad131.add ((x6_1).toNat * 6)).off + 1, none⟩ = some (.int .i64 ((rd_T39 l1 x6_1).f1)) ∧ w'.cell? ⟨(ad131.add ((x6_1).toNat * 6)).block, (ad131.add ((x6_1).toNat * 6)).off + 2, none⟩ = some (.int .i64 ((rd_T39 l1 x6_1).f2)) ∧ w'.cell? ⟨(ad131.add ((x6_1).toNat * 6)).block, (ad131.add ((x6_1).toNat * 6)).off + 3, none⟩ = some (.int .i64 ((rd_T39 l1 x6_1).f3)) ∧ w'.cell? ⟨(ad131.add ((x6_1).toNat * 6)).block, (ad131.add ((x6_1).toNat * 6)).off + 4, none⟩ = some (.int .i64 ((rd_T39 l1 x6_1).f4)) ∧ w'.cell? ⟨(ad131.add ((x6_1).toNat * 6)).block, (ad131.add ((x6_1).toNat * 6)).off + 5, none⟩ = some (.int .i64 ((rd_T39 l1 x6_1).f5)) ∧ w'.cell? (ad131.add ((x6_1).toNat * 6)) = some (.int .i64 ((rd_T39 l1 x6_1).f0)) ∧ w'.cell? ⟨(ad131.add ((x6_1).toNat * 6)).block, (ad131.add ((x6_1).toNat * 6)).off + 1, none⟩ = some (.int .i64 ((rd_T39 l1 x6_1).f1)) ∧ w'.cell? ⟨(ad131.add ((x6_1).toNat * 6)).block, (ad131.add ((x6_1).toNat * 6)).off + 2, none⟩ = some (.int .i64 ((rd_T39 l1 x6_1).f2)) ∧ w'.cell? ⟨(ad131.add ((x6_1).toNat * 6)).block, (ad131.add ((x6_1).toNat * 6)).off + 3, none⟩ = some (.int .i64 ((rd_T39 l1 x6_1).f3)) ∧ w'.cell? ⟨(ad131.add ((x6_1).toNat * 6)).block, (ad131.add ((x6_1).toNat * 6)).off + 4, none⟩ = some (.int .i64 ((rd_T39 l1 x6_1).f4)) ∧ w'.cell? ⟨(ad131.add ((x6_1).toNat * 6)).block, (ad131.add ((x6_1).toNat * 6)).off + 5, none⟩ = some (.int .i64 ((rd_T39 l1 x6_1).f5))) ∧ (Kd.R (Kd.int .i64) 3 w' w.heap.size (fun k_ => some k_ ≠ (s_.2.1 : Value).ownBlock ∧ some k_ ≠ (s_.2.2.1 : Value).ownBlock ∧ some k_ ≠ (s_.2.2.2 : Value).ownBlock) s_.1 y132) ∧ (Kd.R (Kd.int .i64) 3 w' w.heap.size (fun k_ => some k_ ≠ (s_.1 : Value).ownBlock ∧ some k_ ≠ (s_.2.2.1 : Value).ownBlock ∧ some k_ ≠ (s_.2.2.2 : Value).ownBlock) s_.2.1 y135) ∧ (Kd.R (Kd.int .i64) 3 w' w.heap.size (fun k_ => some k_ ≠ (s_.1 : Value).ownBlock ∧ some k_ ≠ (s_.2.1 : Value).ownBlock ∧ some k_ ≠ (s_.2.2.2 : Value).ownBlock) s_.2.2.1 y139) ∧ (Kd.R (Kd.int .i64) 3 w' w.heap.size (fun k_ => some k_ ≠ (s_.1 : Value).ownBlock ∧ some k_ ≠ (s_.2.1 : Value).ownBlock ∧ some k_ ≠ (s_.2.2.1 : Value).ownBlock) s_.2.2.2 y146) ∧ (Below w.heap.size w w')) ?_ ?_
                    rotate_left
                    · intro hJ6_7_13_20
                      refine join_ (σ := Value × Value × Value) 4 #[true, true, true, true, true, true, true, true, true, true, true, true, true, true, false, true, true, true, true, true, false, false, false] (fun s_ => [(21, s_.1), (22, s_.2.1), (28, s_.2.2)]) (fun s_ w' => (w'.cell? (ad131.add ((x6_1).toNat * 6)) = some (.int .i64 ((rd_T39 l1 x6_1).f0)) ∧ w'.cell? ⟨(ad131.add ((x6_1).toNat * 6)).block, (ad131.add ((x6_1).toNat * 6)).off + 1, none⟩ = some (.int .i64 ((rd_T39 l1 x6_1).f1)) ∧ w'.cell? ⟨(ad131.add ((x6_1).toNat * 6)).block, (ad131.add ((x6_1).toNat * 6)).off + 2, none⟩ = some (.int .i64 ((rd_T39 l1 x6_1).f2)) ∧ w'.cell? ⟨(ad131.add ((x6_1).toNat * 6)).block, (ad131.add ((x6_1).toNat * 6)).off + 3, none⟩ = some (.int .i64 ((rd_T39 l1 x6_1).f3)) ∧ w'.cell? ⟨(ad131.add ((x6_1).toNat * 6)).block, (ad131.add ((x6_1).toNat * 6)).off + 4, none⟩ = some (.int .i64 ((rd_T39 l1 x6_1).f4)) ∧ w'.cell? ⟨(ad131.add ((x6_1).toNat * 6)).block, (ad131.add ((x6_1).toNat * 6)).off + 5, none⟩ = some (.int .i64 ((rd_T39 l1 x6_1).f5)) ∧ w'.cell? (ad131.add ((x6_1).toNat * 6)) = some (.int .i64 ((rd_T39 l1 x6_1).f0)) ∧ w'.cell? ⟨(ad131.add ((x6_1).toNat * 6)).block, (ad131.add ((x6_1).toNat * 6)).off + 1, none⟩ = some (.int .i64 ((rd_T39 l1 x6_1).f1)) ∧ w'.cell? ⟨(ad131.add ((x6_1).toNat * 6)).block, (ad131.add ((x6_1).toNat * 6)).off + 2, none⟩ = some (.int .i64 ((rd_T39 l1 x6_1).f2)) ∧ w'.cell? ⟨(ad131.add ((x6_1).toNat * 6)).block, (ad131.add ((x6_1).toNat * 6)).off + 3, none⟩ = some (.int .i64 ((rd_T39 l1 x6_1).f3)) ∧ w'.cell? ⟨(ad131.add ((x6_1).toNat * 6)).block, (ad131.add ((x6_1).toNat * 6)).off + 4, none⟩ = some (.int .i64 ((rd_T39 l1 x6_1).f4)) ∧ w'.cell? ⟨(ad131.add ((x6_1).toNat * 6)).block, (ad131.add ((x6_1).toNat * 6)).off + 5, none⟩ = some (.int .i64 ((rd_T39 l1 x6_1).f5)) ∧ w'.cell? (ad131.add ((x6_1).toNat * 6)) = some (.int .i64 ((rd_T39 l1 x6_1).f0)) ∧ w'.cell? ⟨(ad131.add ((x6_1).toNat * 6)).block, (ad131.add ((x6_1).toNat * 6)).off + 1, none⟩ = some (.int .i64 ((rd_T39 l1 x6_1).f1)) ∧ w'.cell? ⟨(ad131.add ((x6_1).toNat * 6)).block, (ad131.add ((x6_1).toNat * 6)).off + 2, none⟩ = some (.int .i64 ((rd_T39 l1 x6_1).f2)) ∧ w'.cell? ⟨(ad131.add ((x6_1).toNat * 6)).block, (ad131.add ((x6_1).toNat * 6)).off + 3, none⟩ = some (.int .i64 ((rd_T39 l1 x6_1).f3)) ∧ w'.cell? ⟨(ad131.add ((x6_1).toNat * 6)).block, (ad131.add ((x6_1).toNat * 6)).off + 4, none⟩ = some (.int .i64 ((rd_T39 l1 x6_1).f4)) ∧ w'.cell? ⟨(ad131.add ((x6_1).toNat * 6)).block, (ad131.add ((x6_1).toNat * 6)).off + 5, none⟩ = some (.int .i64 ((rd_T39 l1 x6_1).f5))) ∧ (Kd.R (Kd.int .i64) 3 w' w.heap.size (fun k_ => some k_ ≠ (s_.2.1 : Value).ownBlock ∧ some k_ ≠ (s_.2.2 : Value).ownBlock) s_.1 y132) ∧ (Kd.R (Kd.int .i64) 3 w' w.heap.size (fun k_ => some k_ ≠ (s_.1 : Value).ownBlock ∧ some k_ ≠ (s_.2.2 : Value).ownBlock) s_.2.1 y135) ∧ (Kd.R (Kd.int .i64) 3 w' w.heap.size (fun k_ => some k_ ≠ (s_.1 : Value).ownBlock ∧ some k_ ≠ (s_.2.1 : Value).ownBlock) s_.2.2 y139) ∧ (Below w.heap.size w w')) ?_ ?_
                      rotate_left
                      · intro hJ6_7_13
                        refine join_ (σ := Value × Value × Value) 4 #[true, true, true, true, true, true, true, true, true, true, true, true, true, false, false, true, true, true, true, true, true, false, false] (fun s_ => [(21, s_.1), (22, s_.2.1), (35, s_.2.2)]) (fun s_ w' => (w'.cell? (ad131.add ((x6_1).toNat * 6)) = some (.int .i64 ((rd_T39 l1 x6_1).f0)) ∧ w'.cell? ⟨(ad131.add ((x6_1).toNat * 6)).block, (ad131.add ((x6_1).toNat * 6)).off + 1, none⟩ = some (.int .i64 ((rd_T39 l1 x6_1).f1)) ∧ w'.cell? ⟨(ad131.add ((x6_1).toNat * 6)).block, (ad131.add ((x6_1).toNat * 6)).off + 2, none⟩ = some (.int .i64 ((rd_T39 l1 x6_1).f2)) ∧ w'.cell? ⟨(ad131.add ((x6_1).toNat * 6)).block, (ad131.add ((x6_1).toNat * 6)).off + 3, none⟩ = some (.int .i64 ((rd_T39 l1 x6_1).f3)) ∧ w'.cell? ⟨(ad131.add ((x6_1).toNat * 6)).block, (ad131.add ((x6_1).toNat * 6)).off + 4, none⟩ = some (.int .i64 ((rd_T39 l1 x6_1).f4)) ∧ w'.cell? ⟨(ad131.add ((x6_1).toNat * 6)).block, (ad131.add ((x6_1).toNat * 6)).off + 5, none⟩ = some (.int .i64 ((rd_T39 l1 x6_1).f5)) ∧ w'.cell? (ad131.add ((x6_1).toNat * 6)) = some (.int .i64 ((rd_T39 l1 x6_1).f0)) ∧ w'.cell? ⟨(ad131.add ((x6_1).toNat * 6)).block, (ad131.add ((x6_1).toNat * 6)).off + 1, none⟩ = some (.int .i64 ((rd_T39 l1 x6_1).f1)) ∧ w'.cell? ⟨(ad131.add ((x6_1).toNat * 6)).block, (ad131.add ((x6_1).toNat * 6)).off + 2, none⟩ = some (.int .i64 ((rd_T39 l1 x6_1).f2)) ∧ w'.cell? ⟨(ad131.add ((x6_1).toNat * 6)).block, (ad131.add ((x6_1).toNat * 6)).off + 3, none⟩ = some (.int .i64 ((rd_T39 l1 x6_1).f3)) ∧ w'.cell? ⟨(ad131.add ((x6_1).toNat * 6)).block, (ad131.add ((x6_1).toNat * 6)).off + 4, none⟩ = some (.int .i64 ((rd_T39 l1 x6_1).f4)) ∧ w'.cell? ⟨(ad131.add ((x6_1).toNat * 6)).block, (ad131.add ((x6_1).toNat * 6)).off + 5, none⟩ = some (.int .i64 ((rd_T39 l1 x6_1).f5)) ∧ w'.cell? (ad131.add ((x6_1).toNat * 6)) = some (.int .i64 ((rd_T39 l1 x6_1).f0)) ∧ w'.cell? ⟨(ad131.add ((x6_1).toNat * 6)).block, (ad131.add ((x6_1).toNat * 6)).off + 1, none⟩ = some (.int .i64 ((rd_T39 l1 x6_1).f1)) ∧ w'.cell? ⟨(ad131.add ((x6_1).toNat * 6)).block, (ad131.add ((x6_1).toNat * 6)).off + 2, none⟩ = some (.int .i64 ((rd_T39 l1 x6_1).f2)) ∧ w'.cell? ⟨(ad131.add ((x6_1).toNat * 6)).block, (ad131.add ((x6_1).toNat * 6)).off + 3, none⟩ = some (.int .i64 ((rd_T39 l1 x6_1).f3)) ∧ w'.cell? ⟨(ad131.add ((x6_1).toNat * 6)).block, (ad131.add ((x6_1).toNat * 6)).off + 4, none⟩ = some (.int .i64 ((rd_T39 l1 x6_1).f4)) ∧ w'.cell? ⟨(ad131.add ((x6_1).toNat * 6)).block, (ad131.add ((x6_1).toNat * 6)).off + 5, none⟩ = some (.int .i64 ((rd_T39 l1 x6_1).f5))) ∧ (Kd.R (Kd.int .i64) 3 w' w.heap.size (fun k_ => some k_ ≠ (s_.2.1 : Value).ownBlock ∧ some k_ ≠ (s_.2.2 : Value).ownBlock) s_.1 y132) ∧ (Kd.R (Kd.int .i64) 3 w' w.heap.size (fun k_ => some k_ ≠ (s_.1 : Value).ownBlock ∧ some k_ ≠ (s_.2.2 : Value).ownBlock) s_.2.1 y135) ∧ (Kd.R (Kd.int .i64) 3 w' w.heap.size (fun k_ => some k_ ≠ (s_.1 : Value).ownBlock ∧ some k_ ≠ (s_.2.1 : Value).ownBlock) s_.2.2 y146) ∧ (Below w.heap.size w w')) ?_ ?_
                        rotate_left
                        · intro hJ6_7_20
                          refine join_ (σ := Value × Value × Value) 4 #[true, true, true, true, true, true, true, false, true, true, true, true, true, true, false, true, true, true, true, true, true, false, false] (fun s_ => [(21, s_.1), (28, s_.2.1), (35, s_.2.2)]) (fun s_ w' => (w'.cell? (ad131.add ((x6_1).toNat * 6)) = some (.int .i64 ((rd_T39 l1 x6_1).f0)) ∧ w'.cell? ⟨(ad131.add ((x6_1).toNat * 6)).block, (ad131.add ((x6_1).toNat * 6)).off + 1, none⟩ = some (.int .i64 ((rd_T39 l1 x6_1).f1)) ∧ w'.cell? ⟨(ad131.add ((x6_1).toNat * 6)).block, (ad131.add ((x6_1).toNat * 6)).off + 2, none⟩ = some (.int .i64 ((rd_T39 l1 x6_1).f2)) ∧ w'.cell? ⟨(ad131.add ((x6_1).toNat * 6)).block, (ad131.add ((x6_1).toNat * 6)).off + 3, none⟩ = some (.int .i64 ((rd_T39 l1 x6_1).f3)) ∧ w'.cell? ⟨(ad131.add ((x6_1).toNat * 6)).block, (ad131.add ((x6_1).toNat * 6)).off + 4, none⟩ = some (.int .i64 ((rd_T39 l1 x6_1).f4)) ∧ w'.cell? ⟨(ad131.add ((x6_1).toNat * 6)).block, (ad131.add ((x6_1).toNat * 6)).off + 5, none⟩ = some (.int .i64 ((rd_T39 l1 x6_1).f5)) ∧ w'.cell? (ad131.add ((x6_1).toNat * 6)) = some (.int .i64 ((rd_T39 l1 x6_1).f0)) ∧ w'.cell? ⟨(ad131.add ((x6_1).toNat * 6)).block, (ad131.add ((x6_1).toNat * 6)).off + 1, none⟩ = some (.int .i64 ((rd_T39 l1 x6_1).f1)) ∧ w'.cell? ⟨(ad131.add ((x6_1).toNat * 6)).block, (ad131.add ((x6_1).toNat * 6)).off + 2, none⟩ = some (.int .i64 ((rd_T39 l1 x6_1).f2)) ∧ w'.cell? ⟨(ad131.add ((x6_1).toNat * 6)).block, (ad131.add ((x6_1).toNat * 6)).off + 3, none⟩ = some (.int .i64 ((rd_T39 l1 x6_1).f3)) ∧ w'.cell? ⟨(ad131.add ((x6_1).toNat * 6)).block, (ad131.add ((x6_1).toNat * 6)).off + 4, none⟩ = some (.int .i64 ((rd_T39 l1 x6_1).f4)) ∧ w'.cell? ⟨(ad131.add ((x6_1).toNat * 6)).block, (ad131.add ((x6_1).toNat * 6)).off + 5, none⟩ = some (.int .i64 ((rd_T39 l1 x6_1).f5)) ∧ w'.cell? (ad131.add ((x6_1).toNat * 6)) = some (.int .i64 ((rd_T39 l1 x6_1).f0)) ∧ w'.cell? ⟨(ad131.add ((x6_1).toNat * 6)).block, (ad131.add ((x6_1).toNat * 6)).off + 1, none⟩ = some (.int .i64 ((rd_T39 l1 x6_1).f1)) ∧ w'.cell? ⟨(ad131.add ((x6_1).toNat * 6)).block, (ad131.add ((x6_1).toNat * 6)).off + 2, none⟩ = some (.int .i64 ((rd_T39 l1 x6_1).f2)) ∧ w'.cell? ⟨(ad131.add ((x6_1).toNat * 6)).block, (ad131.add ((x6_1).toNat * 6)).off + 3, none⟩ = some (.int .i64 ((rd_T39 l1 x6_1).f3)) ∧ w'.cell? ⟨(ad131.add ((x6_1).toNat * 6)).block, (ad131.add ((x6_1).toNat * 6)).off + 4, none⟩ = some (.int .i64 ((rd_T39 l1 x6_1).f4)) ∧ w'.cell? ⟨(ad131.add ((x6_1).toNat * 6)).block, (ad131.add ((x6_1).toNat * 6)).off + 5, none⟩ = some (.int .i64 ((rd_T39 l1 x6_1).f5))) ∧ (Kd.R (Kd.int .i64) 3 w' w.heap.size (fun k_ => some k_ ≠ (s_.2.1 : Value).ownBlock ∧ some k_ ≠ (s_.2.2 : Value).ownBlock ∧ some k_ ≠ (.slice Ao10 x5_1.length co10 : Value).ownBlock) s_.1 y132) ∧ (Kd.R (Kd.int .i64) 3 w' w.heap.size (fun k_ => some k_ ≠ (s_.1 : Value).ownBlock ∧ some k_ ≠ (s_.2.2 : Value).ownBlock ∧ some k_ ≠ (.slice Ao10 x5_1.length co10 : Value).ownBlock) s_.2.1 y139) ∧ (Kd.R (Kd.int .i64) 3 w' w.heap.size (fun k_ => some k_ ≠ (s_.1 : Value).ownBlock ∧ some k_ ≠ (s_.2.1 : Value).ownBlock ∧ some k_ ≠ (.slice Ao10 x5_1.length co10 : Value).ownBlock) s_.2.2 y146) ∧ (Kd.R (Kd.int .i64) 3 w' w.heap.size (fun k_ => some k_ ≠ (s_.1 : Value).ownBlock ∧ some k_ ≠ (s_.2.1 : Value).ownBlock ∧ some k_ ≠ (s_.2.2 : Value).ownBlock) (.slice Ao10 x5_1.length co10) x5_1) ∧ (Below w.heap.size w w')) ?_ ?_
                          rotate_left
                          · intro hJ6_13_20
                            refine join_ (σ := Value × Value) 5 #[true, true, true, true, true, true, true, true, true, true, true, true, true, false, false, true, true, true, true, true, false, false, false] (fun s_ => [(21, s_.1), (22, s_.2)]) (fun s_ w' => (w'.cell? (ad131.add ((x6_1).toNat * 6)) = some (.int .i64 ((rd_T39 l1 x6_1).f0)) ∧ w'.cell? ⟨(ad131.add ((x6_1).toNat * 6)).block, (ad131.add ((x6_1).toNat * 6)).off + 1, none⟩ = some (.int .i64 ((rd_T39 l1 x6_1).f1)) ∧ w'.cell? ⟨(ad131.add ((x6_1).toNat * 6)).block, (ad131.add ((x6_1).toNat * 6)).off + 2, none⟩ = some (.int .i64 ((rd_T39 l1 x6_1).f2)) ∧ w'.cell? ⟨(ad131.add ((x6_1).toNat * 6)).block, (ad131.add ((x6_1).toNat * 6)).off + 3, none⟩ = some (.int .i64 ((rd_T39 l1 x6_1).f3)) ∧ w'.cell? ⟨(ad131.add ((x6_1).toNat * 6)).block, (ad131.add ((x6_1).toNat * 6)).off + 4, none⟩ = some (.int .i64 ((rd_T39 l1 x6_1).f4)) ∧ w'.cell? ⟨(ad131.add ((x6_1).toNat * 6)).block, (ad131.add ((x6_1).toNat * 6)).off + 5, none⟩ = some (.int .i64 ((rd_T39 l1 x6_1).f5)) ∧ w'.cell? (ad131.add ((x6_1).toNat * 6)) = some (.int .i64 ((rd_T39 l1 x6_1).f0)) ∧ w'.cell? ⟨(ad131.add ((x6_1).toNat * 6)).block, (ad131.add ((x6_1).toNat * 6)).off + 1, none⟩ = some (.int .i64 ((rd_T39 l1 x6_1).f1)) ∧ w'.cell? ⟨(ad131.add ((x6_1).toNat * 6)).block, (ad131.add ((x6_1).toNat * 6)).off + 2, none⟩ = some (.int .i64 ((rd_T39 l1 x6_1).f2)) ∧ w'.cell? ⟨(ad131.add ((x6_1).toNat * 6)).block, (ad131.add ((x6_1).toNat * 6)).off + 3, none⟩ = some (.int .i64 ((rd_T39 l1 x6_1).f3)) ∧ w'.cell? ⟨(ad131.add ((x6_1).toNat * 6)).block, (ad131.add ((x6_1).toNat * 6)).off + 4, none⟩ = some (.int .i64 ((rd_T39 l1 x6_1).f4)) ∧ w'.cell? ⟨(ad131.add ((x6_1).toNat * 6)).block, (ad131.add ((x6_1).toNat * 6)).off + 5, none⟩ = some (.int .i64 ((rd_T39 l1 x6_1).f5)) ∧ w'.cell? (ad131.add ((x6_1).toNat * 6)) = some (.int .i64 ((rd_T39 l1 x6_1).f0)) ∧ w'.cell? ⟨(ad131.add ((x6_1).toNat * 6)).block, (ad131.add ((x6_1).toNat * 6)).off + 1, none⟩ = some (.int .i64 ((rd_T39 l1 x6_1).f1)) ∧ w'.cell? ⟨(ad131.add ((x6_1).toNat * 6)).block, (ad131.add ((x6_1).toNat * 6)).off + 2, none⟩ = some (.int .i64 ((rd_T39 l1 x6_1).f2)) ∧ w'.cell? ⟨(ad131.add ((x6_1).toNat * 6)).block, (ad131.add ((x6_1).toNat * 6)).off + 3, none⟩ = some (.int .i64 ((rd_T39 l1 x6_1).f3)) ∧ w'.cell? ⟨(ad131.add ((x6_1).toNat * 6)).block, (ad131.add ((x6_1).toNat * 6)).off + 4, none⟩ = some (.int .i64 ((rd_T39 l1 x6_1).f4)) ∧ w'.cell? ⟨(ad131.add ((x6_1).toNat * 6)).block, (ad131.add ((x6_1).toNat * 6)).off + 5, none⟩ = some (.int .i64 ((rd_T39 l1 x6_1).f5))) ∧ (Kd.R (Kd.int .i64) 3 w' w.heap.size (fun k_ => some k_ ≠ (s_.2 : Value).ownBlock) s_.1 y132) ∧ (Kd.R (Kd.int .i64) 3 w' w.heap.size (fun k_ => some k_ ≠ (s_.1 : Value).ownBlock) s_.2 y135) ∧ (Below w.heap.size w w')) ?_ ?_
                            rotate_left
                            · intro hJ6_7
                              refine join_ (σ := Value × Value) 5 #[true, true, true, true, true, true, true, false, true, true, true, true, true, true, false, true, true, true, true, true, false, false, false] (fun s_ => [(21, s_.1), (28, s_.2)]) (fun s_ w' => (w'.cell? (ad131.add ((x6_1).toNat * 6)) = some (.int .i64 ((rd_T39 l1 x6_1).f0)) ∧ w'.cell? ⟨(ad131.add ((x6_1).toNat * 6)).block, (ad131.add ((x6_1).toNat * 6)).off + 1, none⟩ = some (.int .i64 ((rd_T39 l1 x6_1).f1)) ∧ w'.cell? ⟨(ad131.add ((x6_1).toNat * 6)).block, (ad131.add ((x6_1).toNat * 6)).off + 2, none⟩ = some (.int .i64 ((rd_T39 l1 x6_1).f2)) ∧ w'.cell? ⟨(ad131.add ((x6_1).toNat * 6)).block, (ad131.add ((x6_1).toNat * 6)).off + 3, none⟩ = some (.int .i64 ((rd_T39 l1 x6_1).f3)) ∧ w'.cell? ⟨(ad131.add ((x6_1).toNat * 6)).block, (ad131.add ((x6_1).toNat * 6)).off + 4, none⟩ = some (.int .i64 ((rd_T39 l1 x6_1).f4)) ∧ w'.cell? ⟨(ad131.add ((x6_1).toNat * 6)).block, (ad131.add ((x6_1).toNat * 6)).off + 5, none⟩ = some (.int .i64 ((rd_T39 l1 x6_1).f5)) ∧ w'.cell? (ad131.add ((x6_1).toNat * 6)) = some (.int .i64 ((rd_T39 l1 x6_1).f0)) ∧ w'.cell? ⟨(ad131.add ((x6_1).toNat * 6)).block, (ad131.add ((x6_1).toNat * 6)).off + 1, none⟩ = some (.int .i64 ((rd_T39 l1 x6_1).f1)) ∧ w'.cell? ⟨(ad131.add ((x6_1).toNat * 6)).block, (ad131.add ((x6_1).toNat * 6)).off + 2, none⟩ = some (.int .i64 ((rd_T39 l1 x6_1).f2)) ∧ w'.cell? ⟨(ad131.add ((x6_1).toNat * 6)).block, (ad131.add ((x6_1).toNat * 6)).off + 3, none⟩ = some (.int .i64 ((rd_T39 l1 x6_1).f3)) ∧ w'.cell? ⟨(ad131.add ((x6_1).toNat * 6)).block, (ad131.add ((x6_1).toNat * 6)).off + 4, none⟩ = some (.int .i64 ((rd_T39 l1 x6_1).f4)) ∧ w'.cell? ⟨(ad131.add ((x6_1).toNat * 6)).block, (ad131.add ((x6_1).toNat * 6)).off + 5, none⟩ = some (.int .i64 ((rd_T39 l1 x6_1).f5)) ∧ w'.cell? (ad131.add ((x6_1).toNat * 6)) = some (.int .i64 ((rd_T39 l1 x6_1).f0)) ∧ w'.cell? ⟨(ad131.add ((x6_1).toNat * 6)).block, (ad131.add ((x6_1).toNat * 6)).off + 1, none⟩ = some (.int .i64 ((rd_T39 l1 x6_1).f1)) ∧ w'.cell? ⟨(ad131.add ((x6_1).toNat * 6)).block, (ad131.add ((x6_1).toNat * 6)).off + 2, none⟩ = some (.int .i64 ((rd_T39 l1 x6_1).f2)) ∧ w'.cell? ⟨(ad131.add ((x6_1).toNat * 6)).block, (ad131.add ((x6_1).toNat * 6)).off + 3, none⟩ = some (.int .i64 ((rd_T39 l1 x6_1).f3)) ∧ w'.cell? ⟨(ad131.add ((x6_1).toNat * 6)).block, (ad131.add ((x6_1).toNat * 6)).off + 4, none⟩ = some (.int .i64 ((rd_T39 l1 x6_1).f4)) ∧ w'.cell? ⟨(ad131.add ((x6_1).toNat * 6)).block, (ad131.add ((x6_1).toNat * 6)).off + 5, none⟩ = some (.int .i64 ((rd_T39 l1 x6_1).f5))) ∧ (Kd.R (Kd.int .i64) 3 w' w.heap.size (fun k_ => some k_ ≠ (s_.2 : Value).ownBlock ∧ some k_ ≠ (.slice Ao10 x5_1.length co10 : Value).ownBlock) s_.1 y132) ∧ (Kd.R (Kd.int .i64) 3 w' w.heap.size (fun k_ => some k_ ≠ (s_.1 : Value).ownBlock ∧ some k_ ≠ (.slice Ao10 x5_1.length co10 : Value).ownBlock) s_.2 y139) ∧ (Kd.R (Kd.int .i64) 3 w' w.heap.size (fun k_ => some k_ ≠ (s_.1 : Value).ownBlock ∧ some k_ ≠ (s_.2 : Value).ownBlock) (.slice Ao10 x5_1.length co10) x5_1) ∧ (Below w.heap.size w w')) ?_ ?_
                              rotate_left
                              · intro hJ6_13
                                refine join_ (σ := Value × Value) 5 #[true, true, true, true, true, true, true, false, true, true, true, true, true, false, false, true, true, true, true, true, true, false, false] (fun s_ => [(21, s_.1), (35, s_.2)]) (fun s_ w' => (w'.cell? (ad131.add ((x6_1).toNat * 6)) = some (.int .i64 ((rd_T39 l1 x6_1).f0)) ∧ w'.cell? ⟨(ad131.add ((x6_1).toNat * 6)).block, (ad131.add ((x6_1).toNat * 6)).off + 1, none⟩ = some (.int .i64 ((rd_T39 l1 x6_1).f1)) ∧ w'.cell? ⟨(ad131.add ((x6_1).toNat * 6)).block, (ad131.add ((x6_1).toNat * 6)).off + 2, none⟩ = some (.int .i64 ((rd_T39 l1 x6_1).f2)) ∧ w'.cell? ⟨(ad131.add ((x6_1).toNat * 6)).block, (ad131.add ((x6_1).toNat * 6)).off + 3, none⟩ = some (.int .i64 ((rd_T39 l1 x6_1).f3)) ∧ w'.cell? ⟨(ad131.add ((x6_1).toNat * 6)).block, (ad131.add ((x6_1).toNat * 6)).off + 4, none⟩ = some (.int .i64 ((rd_T39 l1 x6_1).f4)) ∧ w'.cell? ⟨(ad131.add ((x6_1).toNat * 6)).block, (ad131.add ((x6_1).toNat * 6)).off + 5, none⟩ = some (.int .i64 ((rd_T39 l1 x6_1).f5)) ∧ w'.cell? (ad131.add ((x6_1).toNat * 6)) = some (.int .i64 ((rd_T39 l1 x6_1).f0)) ∧ w'.cell? ⟨(ad131.add ((x6_1).toNat * 6)).block, (ad131.add ((x6_1).toNat * 6)).off + 1, none⟩ = some (.int .i64 ((rd_T39 l1 x6_1).f1)) ∧ w'.cell? ⟨(ad131.add ((x6_1).toNat * 6)).block, (ad131.add ((x6_1).toNat * 6)).off + 2, none⟩ = some (.int .i64 ((rd_T39 l1 x6_1).f2)) ∧ w'.cell? ⟨(ad131.add ((x6_1).toNat * 6)).block, (ad131.add ((x6_1).toNat * 6)).off + 3, none⟩ = some (.int .i64 ((rd_T39 l1 x6_1).f3)) ∧ w'.cell? ⟨(ad131.add ((x6_1).toNat * 6)).block, (ad131.add ((x6_1).toNat * 6)).off + 4, none⟩ = some (.int .i64 ((rd_T39 l1 x6_1).f4)) ∧ w'.cell? ⟨(ad131.add ((x6_1).toNat * 6)).block, (ad131.add ((x6_1).toNat * 6)).off + 5, none⟩ = some (.int .i64 ((rd_T39 l1 x6_1).f5)) ∧ w'.cell? (ad131.add ((x6_1).toNat * 6)) = some (.int .i64 ((rd_T39 l1 x6_1).f0)) ∧ w'.cell? ⟨(ad131.add ((x6_1).toNat * 6)).block, (ad131.add ((x6_1).toNat * 6)).off + 1, none⟩ = some (.int .i64 ((rd_T39 l1 x6_1).f1)) ∧ w'.cell? ⟨(ad131.add ((x6_1).toNat * 6)).block, (ad131.add ((x6_1).toNat * 6)).off + 2, none⟩ = some (.int .i64 ((rd_T39 l1 x6_1).f2)) ∧ w'.cell? ⟨(ad131.add ((x6_1).toNat * 6)).block, (ad131.add ((x6_1).toNat * 6)).off + 3, none⟩ = some (.int .i64 ((rd_T39 l1 x6_1).f3)) ∧ w'.cell? ⟨(ad131.add ((x6_1).toNat * 6)).block, (ad131.add ((x6_1).toNat * 6)).off + 4, none⟩ = some (.int .i64 ((rd_T39 l1 x6_1).f4)) ∧ w'.cell? ⟨(ad131.add ((x6_1).toNat * 6)).block, (ad131.add ((x6_1).toNat * 6)).off + 5, none⟩ = some (.int .i64 ((rd_T39 l1 x6_1).f5))) ∧ (Kd.R (Kd.int .i64) 3 w' w.heap.size (fun k_ => some k_ ≠ (s_.2 : Value).ownBlock ∧ some k_ ≠ (.slice Ao10 x5_1.length co10 : Value).ownBlock) s_.1 y132) ∧ (Kd.R (Kd.int .i64) 3 w' w.heap.size (fun k_ => some k_ ≠ (s_.1 : Value).ownBlock ∧ some k_ ≠ (.slice Ao10 x5_1.length co10 : Value).ownBlock) s_.2 y146) ∧ (Kd.R (Kd.int .i64) 3 w' w.heap.size (fun k_ => some k_ ≠ (s_.1 : Value).ownBlock ∧ some k_ ≠ (s_.2 : Value).ownBlock) (.slice Ao10 x5_1.length co10) x5_1) ∧ (Below w.heap.size w w')) ?_ ?_
                                rotate_left
                                · intro hJ6_20
                                  refine join_ (σ := Value × Value) 5 #[true, true, true, true, true, true, false, false, true, true, true, true, true, true, false, true, true, true, true, true, true, false, false] (fun s_ => [(28, s_.1), (35, s_.2)]) (fun s_ w' => (w'.cell? (ad131.add ((x6_1).toNat * 6)) = some (.int .i64 ((rd_T39 l1 x6_1).f0)) ∧ w'.cell? ⟨(ad131.add ((x6_1).toNat * 6)).block, (ad131.add ((x6_1).toNat * 6)).off + 1, none⟩ = some (.int .i64 ((rd_T39 l1 x6_1).f1)) ∧ w'.cell? ⟨(ad131.add ((x6_1).toNat * 6)).block, (ad131.add ((x6_1).toNat * 6)).off + 2, none⟩ = some (.int .i64 ((rd_T39 l1 x6_1).f2)) ∧ w'.cell? ⟨(ad131.add ((x6_1).toNat * 6)).block, (ad131.add ((x6_1).toNat * 6)).off + 3, none⟩ = some (.int .i64 ((rd_T39 l1 x6_1).f3)) ∧ w'.cell? ⟨(ad131.add ((x6_1).toNat * 6)).block, (ad131.add ((x6_1).toNat * 6)).off + 4, none⟩ = some (.int .i64 ((rd_T39 l1 x6_1).f4)) ∧ w'.cell? ⟨(ad131.add ((x6_1).toNat * 6)).block, (ad131.add ((x6_1).toNat * 6)).off + 5, none⟩ = some (.int .i64 ((rd_T39 l1 x6_1).f5)) ∧ w'.cell? (ad131.add ((x6_1).toNat * 6)) = some (.int .i64 ((rd_T39 l1 x6_1).f0)) ∧ w'.cell? ⟨(ad131.add ((x6_1).toNat * 6)).block, (ad131.add ((x6_1).toNat * 6)).off + 1, none⟩ = some (.int .i64 ((rd_T39 l1 x6_1).f1)) ∧ w'.cell? ⟨(ad131.add ((x6_1).toNat * 6)).block, (ad131.add ((x6_1).toNat * 6)).off + 2, none⟩ = some (.int .i64 ((rd_T39 l1 x6_1).f2)) ∧ w'.cell? ⟨(ad131.add ((x6_1).toNat * 6)).block, (ad131.add ((x6_1).toNat * 6)).off + 3, none⟩ = some (.int .i64 ((rd_T39 l1 x6_1).f3)) ∧ w'.cell? ⟨(ad131.add ((x6_1).toNat * 6)).block, (ad131.add ((x6_1).toNat * 6)).off + 4, none⟩ = some (.int .i64 ((rd_T39 l1 x6_1).f4)) ∧ w'.cell? ⟨(ad131.add ((x6_1).toNat * 6)).block, (ad131.add ((x6_1).toNat * 6)).off + 5, none⟩ = some (.int .i64 ((rd_T39 l1 x6_1).f5)) ∧ w'.cell? (ad131.add ((x6_1).toNat * 6)) = some (.int .i64 ((rd_T39 l1 x6_1).f0)) ∧ w'.cell? ⟨(ad131.add ((x6_1).toNat * 6)).block, (ad131.add ((x6_1).toNat * 6)).off + 1, none⟩ = some (.int .i64 ((rd_T39 l1 x6_1).f1)) ∧ w'.cell? ⟨(ad131.add ((x6_1).toNat * 6)).block, (ad131.add ((x6_1).toNat * 6)).off + 2, none⟩ = some (.int .i64 ((rd_T39 l1 x6_1).f2)) ∧ w'.cell? ⟨(ad131.add ((x6_1).toNat * 6)).block, (ad131.add ((x6_1).toNat * 6)).off + 3, none⟩ = some (.int .i64 ((rd_T39 l1 x6_1).f3)) ∧ w'.cell? ⟨(ad131.add ((x6_1).toNat * 6)).block, (ad131.add ((x6_1).toNat * 6)).off + 4, none⟩ = some (.int .i64 ((rd_T39 l1 x6_1).f4)) ∧ w'.cell? ⟨(ad131.add ((x6_1).toNat * 6)).block, (ad131.add ((x6_1).toNat * 6)).off + 5, none⟩ = some (.int .i64 ((rd_T39 l1 x6_1).f5))) ∧ (Kd.R (Kd.int .i64) 3 w' w.heap.size (fun k_ => some k_ ≠ (s_.2 : Value).ownBlock ∧ some k_ ≠ (.slice Ao10 x5_1.length co10 : Value).ownBlock) s_.1 y139) ∧ (Kd.R (Kd.int .i64) 3 w' w.heap.size (fun k_ => some k_ ≠ (s_.1 : Value).ownBlock ∧ some k_ ≠ (.slice Ao10 x5_1.length co10 : Value).ownBlock) s_.2 y146) ∧ (Kd.R (Kd.int .i64) 3 w' w.heap.size (fun k_ => some k_ ≠ (s_.1 : Value).ownBlock ∧ some k_ ≠ (s_.2 : Value).ownBlock) (.slice Ao10 x5_1.length co10) x5_1) ∧ (Below w.heap.size w w')) ?_ ?_
                                  rotate_left
                                  · intro hJ13_20
                                    refine join_ (σ := Value) 6 #[true, true, true, true, true, true, true, false, true, true, true, true, true, false, false, true, true, true, true, true, false, false, false] (fun s_ => [(21, s_)]) (fun s_ w' => (w'.cell? (ad131.add ((x6_1).toNat * 6)) = some (.int .i64 ((rd_T39 l1 x6_1).f0)) ∧ w'.cell? ⟨(ad131.add ((x6_1).toNat * 6)).block, (ad131.add ((x6_1).toNat * 6)).off + 1, none⟩ = some (.int .i64 ((rd_T39 l1 x6_1).f1)) ∧ w'.cell? ⟨(ad131.add ((x6_1).toNat * 6)).block, (ad131.add ((x6_1).toNat * 6)).off + 2, none⟩ = some (.int .i64 ((rd_T39 l1 x6_1).f2)) ∧ w'.cell? ⟨(ad131.add ((x6_1).toNat * 6)).block, (ad131.add ((x6_1).toNat * 6)).off + 3, none⟩ = some (.int .i64 ((rd_T39 l1 x6_1).f3)) ∧ w'.cell? ⟨(ad131.add ((x6_1).toNat * 6)).block, (ad131.add ((x6_1).toNat * 6)).off + 4, none⟩ = some (.int .i64 ((rd_T39 l1 x6_1).f4)) ∧ w'.cell? ⟨(ad131.add ((x6_1).toNat * 6)).block, (ad131.add ((x6_1).toNat * 6)).off + 5, none⟩ = some (.int .i64 ((rd_T39 l1 x6_1).f5)) ∧ w'.cell? (ad131.add ((x6_1).toNat * 6)) = some (.int .i64 ((rd_T39 l1 x6_1).f0)) ∧ w'.cell? ⟨(ad131.add ((x6_1).toNat * 6)).block, (ad131.add ((x6_1).toNat * 6)).off + 1, none⟩ = some (.int .i64 ((rd_T39 l1 x6_1).f1)) ∧ w'.cell? ⟨(ad131.add ((x6_1).toNat * 6)).block, (ad131.add ((x6_1).toNat * 6)).off + 2, none⟩ = some (.int .i64 ((rd_T39 l1 x6_1).f2)) ∧ w'.cell? ⟨(ad131.add ((x6_1).toNat * 6)).block, (ad131.add ((x6_1).toNat * 6)).off + 3, none⟩ = some (.int .i64 ((rd_T39 l1 x6_1).f3)) ∧ w'.cell? ⟨(ad131.add ((x6_1).toNat * 6)).block, (ad131.add ((x6_1).toNat * 6)).off + 4, none⟩ = some (.int .i64 ((rd_T39 l1 x6_1).f4)) ∧ w'.cell? ⟨(ad131.add ((x6_1).toNat * 6)).block, (ad131.add ((x6_1).toNat * 6)).off + 5, none⟩ = some (.int .i64 ((rd_T39 l1 x6_1).f5)) ∧ w'.cell? (ad131.add ((x6_1).toNat * 6)) = some (.int .i64 ((rd_T39 l1 x6_1).f0)) ∧ w'.cell? ⟨(ad131.add ((x6_1).toNat * 6)).block, (ad131.add ((x6_1).toNat * 6)).off + 1, none⟩ = some (.int .i64 ((rd_T39 l1 x6_1).f1)) ∧ w'.cell? ⟨(ad131.add ((x6_1).toNat * 6)).block, (ad131.add ((x6_1).toNat * 6)).off + 2, none⟩ = some (.int .i64 ((rd_T39 l1 x6_1).f2)) ∧ w'.cell? ⟨(ad131.add ((x6_1).toNat * 6)).block, (ad131.add ((x6_1).toNat * 6)).off + 3, none⟩ = some (.int .i64 ((rd_T39 l1 x6_1).f3)) ∧ w'.cell? ⟨(ad131.add ((x6_1).toNat * 6)).block, (ad131.add ((x6_1).toNat * 6)).off + 4, none⟩ = some (.int .i64 ((rd_T39 l1 x6_1).f4)) ∧ w'.cell? ⟨(ad131.add ((x6_1).toNat * 6)).block, (ad131.add ((x6_1).toNat * 6)).off + 5, none⟩ = some (.int .i64 ((rd_T39 l1 x6_1).f5))) ∧ (Kd.R (Kd.int .i64) 3 w' w.heap.size (fun k_ => some k_ ≠ (.slice Ao10 x5_1.length co10 : Value).ownBlock) s_ y132) ∧ (Kd.R (Kd.int .i64) 3 w' w.heap.size (fun k_ => some k_ ≠ (s_ : Value).ownBlock) (.slice Ao10 x5_1.length co10) x5_1) ∧ (Below w.heap.size w w')) ?_ ?_
                                    rotate_left
                                    · intro hJ6
                                      refine join_ (σ := Value) 6 #[true, true, true, true, true, true, false, false, true, true, true, true, true, true, false, true, true, true, true, true, false, false, false] (fun s_ => [(28, s_)]) (fun s_ w' => (w'.cell? (ad131.add ((x6_1).toNat * 6)) = some (.int .i64 ((rd_T39 l1 x6_1).f0)) ∧ w'.cell? ⟨(ad131.add ((x6_1).toNat * 6)).block, (ad131.add ((x6_1).toNat * 6)).off + 1, none⟩ = some (.int .i64 ((rd_T39 l1 x6_1).f1)) ∧ w'.cell? ⟨(ad131.add ((x6_1).toNat * 6)).block, (ad131.add ((x6_1).toNat * 6)).off + 2, none⟩ = some (.int .i64 ((rd_T39 l1 x6_1).f2)) ∧ w'.cell? ⟨(ad131.add ((x6_1).toNat * 6)).block, (ad131.add ((x6_1).toNat * 6)).off + 3, none⟩ = some (.int .i64 ((rd_T39 l1 x6_1).f3)) ∧ w'.cell? ⟨(ad131.add ((x6_1).toNat * 6)).block, (ad131.add ((x6_1).toNat * 6)).off + 4, none⟩ = some (.int .i64 ((rd_T39 l1 x6_1).f4)) ∧ w'.cell? ⟨(ad131.add ((x6_1).toNat * 6)).block, (ad131.add ((x6_1).toNat * 6)).off + 5, none⟩ = some (.int .i64 ((rd_T39 l1 x6_1).f5)) ∧ w'.cell? (ad131.add ((x6_1).toNat * 6)) = some (.int .i64 ((rd_T39 l1 x6_1).f0)) ∧ w'.cell? ⟨(ad131.add ((x6_1).toNat * 6)).block, (ad131.add ((x6_1).toNat * 6)).off + 1, none⟩ = some (.int .i64 ((rd_T39 l1 x6_1).f1)) ∧ w'.cell? ⟨(ad131.add ((x6_1).toNat * 6)).block, (ad131.add ((x6_1).toNat * 6)).off + 2, none⟩ = some (.int .i64 ((rd_T39 l1 x6_1).f2)) ∧ w'.cell? ⟨(ad131.add ((x6_1).toNat * 6)).block, (ad131.add ((x6_1).toNat * 6)).off + 3, none⟩ = some (.int .i64 ((rd_T39 l1 x6_1).f3)) ∧ w'.cell? ⟨(ad131.add ((x6_1).toNat * 6)).block, (ad131.add ((x6_1).toNat * 6)).off + 4, none⟩ = some (.int .i64 ((rd_T39 l1 x6_1).f4)) ∧ w'.cell? ⟨(ad131.add ((x6_1).toNat * 6)).block, (ad131.add ((x6_1).toNat * 6)).off + 5, none⟩ = some (.int .i64 ((rd_T39 l1 x6_1).f5)) ∧ w'.cell? (ad131.add ((x6_1).toNat * 6)) = some (.int .i64 ((rd_T39 l1 x6_1).f0)) ∧ w'.cell? ⟨(ad131.add ((x6_1).toNat * 6)).block, (ad131.add ((x6_1).toNat * 6)).off + 1, none⟩ = some (.int .i64 ((rd_T39 l1 x6_1).f1)) ∧ w'.cell? ⟨(ad131.add ((x6_1).toNat * 6)).block, (ad131.add ((x6_1).toNat * 6)).off + 2, none⟩ = some (.int .i64 ((rd_T39 l1 x6_1).f2)) ∧ w'.cell? ⟨(ad131.add ((x6_1).toNat * 6)).block, (ad131.add ((x6_1).toNat * 6)).off + 3, none⟩ = some (.int .i64 ((rd_T39 l1 x6_1).f3)) ∧ w'.cell? ⟨(ad131.add ((x6_1).toNat * 6)).block, (ad131.add ((x6_1).toNat * 6)).off + 4, none⟩ = some (.int .i64 ((rd_T39 l1 x6_1).f4)) ∧ w'.cell? ⟨(ad131.add ((x6_1).toNat * 6)).block, (ad131.add ((x6_1).toNat * 6)).off + 5, none⟩ = some (.int .i64 ((rd_T39 l1 x6_1).f5))) ∧ (Kd.R (Kd.int .i64) 3 w' w.heap.size (fun k_ => some k_ ≠ (.slice Ao10 x5_1.length co10 : Value).ownBlock) s_ y139) ∧ (Kd.R (Kd.int .i64) 3 w' w.heap.size (fun k_ => some k_ ≠ (s_ : Value).ownBlock) (.slice Ao10 x5_1.length co10) x5_1) ∧ (Below w.heap.size w w')) ?_ ?_
                                      rotate_left
                                      · intro hJ13
                                        refine join_ (σ := Value) 6 #[true, true, true, true, true, true, false, false, true, true, true, true, true, false, false, true, true, true, true, true, true, false, false] (fun s_ => [(35, s_)]) (fun s_ w' => (w'.cell? (ad131.add ((x6_1).toNat * 6)) = some (.int .i64 ((rd_T39 l1 x6_1).f0)) ∧ w'.cell? ⟨(ad131.add ((x6_1).toNat * 6)).block, (ad131.add ((x6_1).toNat * 6)).off + 1, none⟩ = some (.int .i64 ((rd_T39 l1 x6_1).f1)) ∧ w'.cell? ⟨(ad131.add ((x6_1).toNat * 6)).block, (ad131.add ((x6_1).toNat * 6)).off + 2, none⟩ = some (.int .i64 ((rd_T39 l1 x6_1).f2)) ∧ w'.cell? ⟨(ad131.add ((x6_1).toNat * 6)).block, (ad131.add ((x6_1).toNat * 6)).off + 3, none⟩ = some (.int .i64 ((rd_T39 l1 x6_1).f3)) ∧ w'.cell? ⟨(ad131.add ((x6_1).toNat * 6)).block, (ad131.add ((x6_1).toNat * 6)).off + 4, none⟩ = some (.int .i64 ((rd_T39 l1 x6_1).f4)) ∧ w'.cell? ⟨(ad131.add ((x6_1).toNat * 6)).block, (ad131.add ((x6_1).toNat * 6)).off + 5, none⟩ = some (.int .i64 ((rd_T39 l1 x6_1).f5)) ∧ w'.cell? (ad131.add ((x6_1).toNat * 6)) = some (.int .i64 ((rd_T39 l1 x6_1).f0)) ∧ w'.cell? ⟨(ad131.add ((x6_1).toNat * 6)).block, (ad131.add ((x6_1).toNat * 6)).off + 1, none⟩ = some (.int .i64 ((rd_T39 l1 x6_1).f1)) ∧ w'.cell? ⟨(ad131.add ((x6_1).toNat * 6)).block, (ad131.add ((x6_1).toNat * 6)).off + 2, none⟩ = some (.int .i64 ((rd_T39 l1 x6_1).f2)) ∧ w'.cell? ⟨(ad131.add ((x6_1).toNat * 6)).block, (ad131.add ((x6_1).toNat * 6)).off + 3, none⟩ = some (.int .i64 ((rd_T39 l1 x6_1).f3)) ∧ w'.cell? ⟨(ad131.add ((x6_1).toNat * 6)).block, (ad131.add ((x6_1).toNat * 6)).off + 4, none⟩ = some (.int .i64 ((rd_T39 l1 x6_1).f4)) ∧ w'.cell? ⟨(ad131.add ((x6_1).toNat * 6)).block, (ad131.add ((x6_1).toNat * 6)).off + 5, none⟩ = some (.int .i64 ((rd_T39 l1 x6_1).f5)) ∧ w'.cell? (ad131.add ((x6_1).toNat * 6)) = some (.int .i64 ((rd_T39 l1 x6_1).f0)) ∧ w'.cell? ⟨(ad131.add ((x6_1).toNat * 6)).block, (ad131.add ((x6_1).toNat * 6)).off + 1, none⟩ = some (.int .i64 ((rd_T39 l1 x6_1).f1)) ∧ w'.cell? ⟨(ad131.add ((x6_1).toNat * 6)).block, (ad131.add ((x6_1).toNat * 6)).off + 2, none⟩ = some (.int .i64 ((rd_T39 l1 x6_1).f2)) ∧ w'.cell? ⟨(ad131.add ((x6_1).toNat * 6)).block, (ad131.add ((x6_1).toNat * 6)).off + 3, none⟩ = some (.int .i64 ((rd_T39 l1 x6_1).f3)) ∧ w'.cell? ⟨(ad131.add ((x6_1).toNat * 6)).block, (ad131.add ((x6_1).toNat * 6)).off + 4, none⟩ = some (.int .i64 ((rd_T39 l1 x6_1).f4)) ∧ w'.cell? ⟨(ad131.add ((x6_1).toNat * 6)).block, (ad131.add ((x6_1).toNat * 6)).off + 5, none⟩ = some (.int .i64 ((rd_T39 l1 x6_1).f5))) ∧ (Kd.R (Kd.int .i64) 3 w' w.heap.size (fun k_ => some k_ ≠ (.slice Ao10 x5_1.length co10 : Value).ownBlock) s_ y146) ∧ (Kd.R (Kd.int .i64) 3 w' w.heap.size (fun k_ => some k_ ≠ (s_ : Value).ownBlock) (.slice Ao10 x5_1.length co10) x5_1) ∧ (Below w.heap.size w w')) ?_ ?_
                                        rotate_left
                                        · intro hJ20
                                          refine three_ (i := 6) (j := 13) (k := 20) (Ni := some 21) (Nj := some 28) (Nk := some 35) #[true, true, true, true, true, true, true, false, true, true, true, true, true, false, false, true, true, true, true, true, false, false, false] #[true, true, true, true, true, true, false, false, true, true, true, true, true, true, false, true, true, true, true, true, false, false, false] #[true, true, true, true, true, true, false, false, true, true, true, true, true, false, false, true, true, true, true, true, true, false, false] rfl rfl rfl rfl rfl rfl (three_of HT_.out (by kernel_rfl)) (by decide) (by decide) (by decide) (fun K hK => ?_) (fun K hK => ?_) (fun K hK => ?_)
                                          · skip
                                            refine Kd.R_lit_step (Kd.int .i64) _ 3 ?hg (N := 21) ?hd (xs := ([(rd_T39 l1 x6_1).f3] : List Int)) (inner := [.int .i64 ((rd_T39 l1 x6_1).f3)]) (ok := fun _ => True) (okp := fun _ => True) ?hr ?hp (fun _ hk => hk) trivial (Below.refl _ _) (Nat.le_refl _) (by simp) ?_; (case hd => rfl); (case hg => rfl); (case hr => first | (go_simp; done) | (go_simp; rfl)); (case hp => exact (Reps.one (show Kd.M (Kd.int .i64) _ _ _ ((rd_T39 l1 x6_1).f3) [.int .i64 ((rd_T39 l1 x6_1).f3)] from rfl) (Reps.none _ _)))
                                            intro v133 w12 ho13 hb hg_ hnew_
                                            clear hg_ hnew_
                                            (first | rw [← Ny132.out] at ho13 | (simp only [Int.reduceToNat] at ho13; rw [← Ny132.out] at ho13))
                                            have n0_ := Aside0.mk (Kd.R_elder' (by (with_reducible repeat (first | apply Kd.R_alloc | apply Kd.R_drewN | apply Kd.R_drew)); exact HO_5.out) (Kd.R_base ho13) hb)
                                            have n1_ := Aside0.mk (Kd.R_lower (Kd.R_new' ho13 (Kd.R_lt (by (with_reducible repeat (first | apply Kd.R_alloc | apply Kd.R_drewN | apply Kd.R_drew)); exact HO_5.out))) (below_size (by repeat (first | (with_reducible first | exact HB.out | apply below_alloc | apply pw_below_drewN | apply below_drew1) | exact HB.out))))
                                            have n2_ := Aside0.mk (below_step (by repeat (first | (with_reducible first | exact HB.out | apply below_alloc | apply pw_below_drewN | apply below_drew1) | exact HB.out)) hb)
                                            clear HO_5
                                            clear HB
                                            have HO_5 := n0_
                                            have HO134 := n1_
                                            have HB := n2_
                                            clear n0_ n1_ n2_
                                            clear hb ho13
                                            refine hK.out _ _ ⟨((HB.out.cell (World.block_lt_of_cell? w _ hw131_0)).trans hw131_0), ((HB.out.cell (World.block_lt_of_cell? w _ hw131_1)).trans hw131_1), ((HB.out.cell (World.block_lt_of_cell? w _ hw131_2)).trans hw131_2), ((HB.out.cell (World.block_lt_of_cell? w _ hw131_3)).trans hw131_3), ((HB.out.cell (World.block_lt_of_cell? w _ hw131_4)).trans hw131_4), ((HB.out.cell (World.block_lt_of_cell? w _ hw131_5)).trans hw131_5), ((HB.out.cell (World.block_lt_of_cell? w _ hw138_0)).trans hw138_0), ((HB.out.cell (World.block_lt_of_cell? w _ hw138_1)).trans hw138_1), ((HB.out.cell (World.block_lt_of_cell? w _ hw138_2)).trans hw138_2), ((HB.out.cell (World.block_lt_of_cell? w _ hw138_3)).trans hw138_3), ((HB.out.cell (World.block_lt_of_cell? w _ hw138_4)).trans hw138_4), ((HB.out.cell (World.block_lt_of_cell? w _ hw138_5)).trans hw138_5), ((HB.out.cell (World.block_lt_of_cell? w _ hw145_0)).trans hw145_0), ((HB.out.cell (World.block_lt_of_cell? w _ hw145_1)).trans hw145_1), ((HB.out.cell (World.block_lt_of_cell? w _ hw145_2)).trans hw145_2), ((HB.out.cell (World.block_lt_of_cell? w _ hw145_3)).trans hw145_3), ((HB.out.cell (World.block_lt_of_cell? w _ hw145_4)).trans hw145_4), ((HB.out.cell (World.block_lt_of_cell? w _ hw145_5)).trans hw145_5)⟩ (fun hHeld => ?_)
                                            clear hK K
                                            refine norm_ (a' := ?_) ?_ ?_
                                            rotate_left
                                            · show Act.put _ (some 21) _ = _
                                              simp only [Act.put, List.setIfInBounds_toArray, List.set_cons_zero, List.set_cons_succ, i64_w, i32_w]
                                              rfl
                                            exact norm_ (by first | (simp only [putAll, Act.put, List.setIfInBounds_toArray, List.set_cons_zero, List.set_cons_succ]; done) | (simp only [putAll, Act.put, List.setIfInBounds_toArray, List.set_cons_zero, List.set_cons_succ]; rfl)) (hJ6 (v133) _ ⟨hHeld, (by (with_reducible repeat (first | apply Kd.R_alloc | apply Kd.R_drewN | apply Kd.R_drew)); exact Kd.R_mono HO134.out (fun _ hk => hk.2)), (by (with_reducible repeat (first | apply Kd.R_alloc | apply Kd.R_drewN | apply Kd.R_drew)); exact Kd.R_mono HO_5.out (fun _ hk => hk.2)), (by repeat (first | (with_reducible first | exact HB.out | apply below_alloc | apply pw_below_drewN | apply below_drew1) | exact HB.out))⟩)
                                          · skip
                                            refine Kd.R_lit_step (Kd.int .i64) _ 3 ?hg (N := 28) ?hd (xs := ([(rd_T39 l1 x6_1).f4] : List Int)) (inner := [.int .i64 ((rd_T39 l1 x6_1).f4)]) (ok := fun _ => True) (okp := fun _ => True) ?hr ?hp (fun _ hk => hk) trivial (Below.refl _ _) (Nat.le_refl _) (by simp) ?_; (case hd => rfl); (case hg => rfl); (case hr => first | (go_simp; done) | (go_simp; rfl)); (case hp => exact (Reps.one (show Kd.M (Kd.int .i64) _ _ _ ((rd_T39 l1 x6_1).f4) [.int .i64 ((rd_T39 l1 x6_1).f4)] from rfl) (Reps.none _ _)))
                                            intro v140 w12 ho13 hb hg_ hnew_
                                            clear hg_ hnew_
                                            (first | rw [← Ny139.out] at ho13 | (simp only [Int.reduceToNat] at ho13; rw [← Ny139.out] at ho13))
                                            have n0_ := Aside0.mk (Kd.R_elder' (by (with_reducible repeat (first | apply Kd.R_alloc | apply Kd.R_drewN | apply Kd.R_drew)); exact HO_5.out) (Kd.R_base ho13) hb)
                                            have n1_ := Aside0.mk (Kd.R_lower (Kd.R_new' ho13 (Kd.R_lt (by (with_reducible repeat (first | apply Kd.R_alloc | apply Kd.R_drewN | apply Kd.R_drew)); exact HO_5.out))) (below_size (by repeat (first | (with_reducible first | exact HB.out | apply below_alloc | apply pw_below_drewN | apply below_drew1) | exact HB.out))))
                                            have n2_ := Aside0.mk (below_step (by repeat (first | (with_reducible first | exact HB.out | apply below_alloc | apply pw_below_drewN | apply below_drew1) | exact HB.out)) hb)
                                            clear HO_5
                                            clear HB
                                            have HO_5 := n0_
                                            have HO141 := n1_
                                            have HB := n2_
                                            clear n0_ n1_ n2_
                                            clear hb ho13
                                            refine hK.out _ _ ⟨((HB.out.cell (World.block_lt_of_cell? w _ hw131_0)).trans hw131_0), ((HB.out.cell (World.block_lt_of_cell? w _ hw131_1)).trans hw131_1), ((HB.out.cell (World.block_lt_of_cell? w _ hw131_2)).trans hw131_2), ((HB.out.cell (World.block_lt_of_cell? w _ hw131_3)).trans hw131_3), ((HB.out.cell (World.block_lt_of_cell? w _ hw131_4)).trans hw131_4), ((HB.out.cell (World.block_lt_of_cell? w _ hw131_5)).trans hw131_5), ((HB.out.cell (World.block_lt_of_cell? w _ hw138_0)).trans hw138_0), ((HB.out.cell (World.block_lt_of_cell? w _ hw138_1)).trans hw138_1), ((HB.out.cell (World.block_lt_of_cell? w _ hw138_2)).trans hw138_2), ((HB.out.cell (World.block_lt_of_cell? w _ hw138_3)).trans hw138_3), ((HB.out.cell (World.block_lt_of_cell? w _ hw138_4)).trans hw138_4), ((HB.out.cell (World.block_lt_of_cell? w _ hw138_5)).trans hw138_5), ((HB.out.cell (World.block_lt_of_cell? w _ hw145_0)).trans hw145_0), ((HB.out.cell (World.block_lt_of_cell? w _ hw145_1)).trans hw145_1), ((HB.out.cell (World.block_lt_of_cell? w _ hw145_2)).trans hw145_2), ((HB.out.cell (World.block_lt_of_cell? w _ hw145_3)).trans hw145_3), ((HB.out.cell (World.block_lt_of_cell? w _ hw145_4)).trans hw145_4), ((HB.out.cell (World.block_lt_of_cell? w _ hw145_5)).trans hw145_5)⟩ (fun hHeld => ?_)
                                            clear hK K
                                            refine norm_ (a' := ?_) ?_ ?_
                                            rotate_left
                                            · show Act.put _ (some 28) _ = _
                                              simp only [Act.put, List.setIfInBounds_toArray, List.set_cons_zero, List.set_cons_succ, i64_w, i32_w]
                                              rfl
                                            exact norm_ (by first | (simp only [putAll, Act.put, List.setIfInBounds_toArray, List.set_cons_zero, List.set_cons_succ]; done) | (simp only [putAll, Act.put, List.setIfInBounds_toArray, List.set_cons_zero, List.set_cons_succ]; rfl)) (hJ13 (v140) _ ⟨hHeld, (by (with_reducible repeat (first | apply Kd.R_alloc | apply Kd.R_drewN | apply Kd.R_drew)); exact Kd.R_mono HO141.out (fun _ hk => hk.2)), (by (with_reducible repeat (first | apply Kd.R_alloc | apply Kd.R_drewN | apply Kd.R_drew)); exact Kd.R_mono HO_5.out (fun _ hk => hk.2)), (by repeat (first | (with_reducible first | exact HB.out | apply below_alloc | apply pw_below_drewN | apply below_drew1) | exact HB.out))⟩)
                                          · skip
                                            refine Kd.R_lit_step (Kd.int .i64) _ 3 ?hg (N := 35) ?hd (xs := ([(rd_T39 l1 x6_1).f5] : List Int)) (inner := [.int .i64 ((rd_T39 l1 x6_1).f5)]) (ok := fun _ => True) (okp := fun _ => True) ?hr ?hp (fun _ hk => hk) trivial (Below.refl _ _) (Nat.le_refl _) (by simp) ?_; (case hd => rfl); (case hg => rfl); (case hr => first | (go_simp; done) | (go_simp; rfl)); (case hp => exact (Reps.one (show Kd.M (Kd.int .i64) _ _ _ ((rd_T39 l1 x6_1).f5) [.int .i64 ((rd_T39 l1 x6_1).f5)] from rfl) (Reps.none _ _)))
                                            intro v147 w12 ho13 hb hg_ hnew_
                                            clear hg_ hnew_
                                            (first | rw [← Ny146.out] at ho13 | (simp only [Int.reduceToNat] at ho13; rw [← Ny146.out] at ho13))
                                            have n0_ := Aside0.mk (Kd.R_elder' (by (with_reducible repeat (first | apply Kd.R_alloc | apply Kd.R_drewN | apply Kd.R_drew)); exact HO_5.out) (Kd.R_base ho13) hb)
                                            have n1_ := Aside0.mk (Kd.R_lower (Kd.R_new' ho13 (Kd.R_lt (by (with_reducible repeat (first | apply Kd.R_alloc | apply Kd.R_drewN | apply Kd.R_drew)); exact HO_5.out))) (below_size (by repeat (first | (with_reducible first | exact HB.out | apply below_alloc | apply pw_below_drewN | apply below_drew1) | exact HB.out))))
                                            have n2_ := Aside0.mk (below_step (by repeat (first | (with_reducible first | exact HB.out | apply below_alloc | apply pw_below_drewN | apply below_drew1) | exact HB.out)) hb)
                                            clear HO_5
                                            clear HB
                                            have HO_5 := n0_
                                            have HO148 := n1_
                                            have HB := n2_
                                            clear n0_ n1_ n2_
                                            clear hb ho13
                                            refine hK.out _ _ ⟨((HB.out.cell (World.block_lt_of_cell? w _ hw131_0)).trans hw131_0), ((HB.out.cell (World.block_lt_of_cell? w _ hw131_1)).trans hw131_1), ((HB.out.cell (World.block_lt_of_cell? w _ hw131_2)).trans hw131_2), ((HB.out.cell (World.block_lt_of_cell? w _ hw131_3)).trans hw131_3), ((HB.out.cell (World.block_lt_of_cell? w _ hw131_4)).trans hw131_4), ((HB.out.cell (World.block_lt_of_cell? w _ hw131_5)).trans hw131_5), ((HB.out.cell (World.block_lt_of_cell? w _ hw138_0)).trans hw138_0), ((HB.out.cell (World.block_lt_of_cell? w _ hw138_1)).trans hw138_1), ((HB.out.cell (World.block_lt_of_cell? w _ hw138_2)).trans hw138_2), ((HB.out.cell (World.block_lt_of_cell? w _ hw138_3)).trans hw138_3), ((HB.out.cell (World.block_lt_of_cell? w _ hw138_4)).trans hw138_4), ((HB.out.cell (World.block_lt_of_cell? w _ hw138_5)).trans hw138_5), ((HB.out.cell (World.block_lt_of_cell? w _ hw145_0)).trans hw145_0), ((HB.out.cell (World.block_lt_of_cell? w _ hw145_1)).trans hw145_1), ((HB.out.cell (World.block_lt_of_cell? w _ hw145_2)).trans hw145_2), ((HB.out.cell (World.block_lt_of_cell? w _ hw145_3)).trans hw145_3), ((HB.out.cell (World.block_lt_of_cell? w _ hw145_4)).trans hw145_4), ((HB.out.cell (World.block_lt_of_cell? w _ hw145_5)).trans hw145_5)⟩ (fun hHeld => ?_)
                                            clear hK K
                                            refine norm_ (a' := ?_) ?_ ?_
                                            rotate_left
                                            · show Act.put _ (some 35) _ = _
                                              simp only [Act.put, List.setIfInBounds_toArray, List.set_cons_zero, List.set_cons_succ, i64_w, i32_w]
                                              rfl
                                            exact norm_ (by first | (simp only [putAll, Act.put, List.setIfInBounds_toArray, List.set_cons_zero, List.set_cons_succ]; done) | (simp only [putAll, Act.put, List.setIfInBounds_toArray, List.set_cons_zero, List.set_cons_succ]; rfl)) (hJ20 (v147) _ ⟨hHeld, (by (with_reducible repeat (first | apply Kd.R_alloc | apply Kd.R_drewN | apply Kd.R_drew)); exact Kd.R_mono HO148.out (fun _ hk => hk.2)), (by (with_reducible repeat (first | apply Kd.R_alloc | apply Kd.R_drewN | apply Kd.R_drew)); exact Kd.R_mono HO_5.out (fun _ hk => hk.2)), (by repeat (first | (with_reducible first | exact HB.out | apply below_alloc | apply pw_below_drewN | apply below_drew1) | exact HB.out))⟩)
                                        · skip
                                          rintro v147 w14 ⟨hS_, h0_, h1_, h2_⟩
                                          have n0_ : Aside0 (Kd.R (Kd.int .i64) 3 w14 w.heap.size (fun k_ => some k_ ≠ (.slice Ao10 x5_1.length co10 : Value).ownBlock) v147 y146) := ⟨h0_⟩
                                          have n1_ : Aside0 (Kd.R (Kd.int .i64) 3 w14 w.heap.size (fun k_ => some k_ ≠ (v147 : Value).ownBlock) (.slice Ao10 x5_1.length co10) x5_1) := ⟨h1_⟩
                                          have n2_ : Aside0 (Below w.heap.size w w14) := ⟨h2_⟩
                                          clear HO_5
                                          clear HB
                                          clear h0_ h1_ h2_
                                          have HO148 := n0_
                                          have HO_5 := n1_
                                          have HB := n2_
                                          clear n0_ n1_ n2_
                                          have hHeld : w14.cell? (ad131.add ((x6_1).toNat * 6)) = some (.int .i64 ((rd_T39 l1 x6_1).f0)) ∧ w14.cell? ⟨(ad131.add ((x6_1).toNat * 6)).block, (ad131.add ((x6_1).toNat * 6)).off + 1, none⟩ = some (.int .i64 ((rd_T39 l1 x6_1).f1)) ∧ w14.cell? ⟨(ad131.add ((x6_1).toNat * 6)).block, (ad131.add ((x6_1).toNat * 6)).off + 2, none⟩ = some (.int .i64 ((rd_T39 l1 x6_1).f2)) ∧ w14.cell? ⟨(ad131.add ((x6_1).toNat * 6)).block, (ad131.add ((x6_1).toNat * 6)).off + 3, none⟩ = some (.int .i64 ((rd_T39 l1 x6_1).f3)) ∧ w14.cell? ⟨(ad131.add ((x6_1).toNat * 6)).block, (ad131.add ((x6_1).toNat * 6)).off + 4, none⟩ = some (.int .i64 ((rd_T39 l1 x6_1).f4)) ∧ w14.cell? ⟨(ad131.add ((x6_1).toNat * 6)).block, (ad131.add ((x6_1).toNat * 6)).off + 5, none⟩ = some (.int .i64 ((rd_T39 l1 x6_1).f5)) ∧ w14.cell? (ad131.add ((x6_1).toNat * 6)) = some (.int .i64 ((rd_T39 l1 x6_1).f0)) ∧ w14.cell? ⟨(ad131.add ((x6_1).toNat * 6)).block, (ad131.add ((x6_1).toNat * 6)).off + 1, none⟩ = some (.int .i64 ((rd_T39 l1 x6_1).f1)) ∧ w14.cell? ⟨(ad131.add ((x6_1).toNat * 6)).block, (ad131.add ((x6_1).toNat * 6)).off + 2, none⟩ = some (.int .i64 ((rd_T39 l1 x6_1).f2)) ∧ w14.cell? ⟨(ad131.add ((x6_1).toNat * 6)).block, (ad131.add ((x6_1).toNat * 6)).off + 3, none⟩ = some (.int .i64 ((rd_T39 l1 x6_1).f3)) ∧ w14.cell? ⟨(ad131.add ((x6_1).toNat * 6)).block, (ad131.add ((x6_1).toNat * 6)).off + 4, none⟩ = some (.int .i64 ((rd_T39 l1 x6_1).f4)) ∧ w14.cell? ⟨(ad131.add ((x6_1).toNat * 6)).block, (ad131.add ((x6_1).toNat * 6)).off + 5, none⟩ = some (.int .i64 ((rd_T39 l1 x6_1).f5)) ∧ w14.cell? (ad131.add ((x6_1).toNat * 6)) = some (.int .i64 ((rd_T39 l1 x6_1).f0)) ∧ w14.cell? ⟨(ad131.add ((x6_1).toNat * 6)).block, (ad131.add ((x6_1).toNat * 6)).off + 1, none⟩ = some (.int .i64 ((rd_T39 l1 x6_1).f1)) ∧ w14.cell? ⟨(ad131.add ((x6_1).toNat * 6)).block, (ad131.add ((x6_1).toNat * 6)).off + 2, none⟩ = some (.int .i64 ((rd_T39 l1 x6_1).f2)) ∧ w14.cell? ⟨(ad131.add ((x6_1).toNat * 6)).block, (ad131.add ((x6_1).toNat * 6)).off + 3, none⟩ = some (.int .i64 ((rd_T39 l1 x6_1).f3)) ∧ w14.cell? ⟨(ad131.add ((x6_1).toNat * 6)).block, (ad131.add ((x6_1).toNat * 6)).off + 4, none⟩ = some (.int .i64 ((rd_T39 l1 x6_1).f4)) ∧ w14.cell? ⟨(ad131.add ((x6_1).toNat * 6)).block, (ad131.add ((x6_1).toNat * 6)).off + 5, none⟩ = some (.int .i64 ((rd_T39 l1 x6_1).f5)) := hS_
                                          refine norm_ (a' := ?_) ?_ ?_
                                          rotate_left
                                          · simp only [putAll, Act.put, List.setIfInBounds_toArray, List.set_cons_zero, List.set_cons_succ]
                                            rfl
                                          refine two_ (i := 6) (j := 13) (Ni := some 21) (Nj := some 28) #[true, true, true, true, true, true, true, false, true, true, true, true, true, false, false, true, true, true, true, true, true, false, false] #[true, true, true, true, true, true, false, false, true, true, true, true, true, true, false, true, true, true, true, true, true, false, false] rfl rfl rfl rfl (two_of HT_.out (by kernel_rfl)) (by decide) (by decide) (fun K hK => ?_) (fun K hK => ?_)
                                          · skip
                                            refine Kd.R_lit_step (Kd.int .i64) _ 3 ?hg (N := 21) ?hd (xs := ([(rd_T39 l1 x6_1).f3] : List Int)) (inner := [.int .i64 ((rd_T39 l1 x6_1).f3)]) (ok := fun _ => True) (okp := fun _ => True) ?hr ?hp (fun _ hk => hk) trivial (Below.refl _ _) (Nat.le_refl _) (by simp) ?_; (case hd => rfl); (case hg => rfl); (case hr => first | (go_simp; done) | (go_simp; rfl)); (case hp => exact (Reps.one (show Kd.M (Kd.int .i64) _ _ _ ((rd_T39 l1 x6_1).f3) [.int .i64 ((rd_T39 l1 x6_1).f3)] from rfl) (Reps.none _ _)))
                                            intro v133 w15 ho16 hb hg_ hnew_
                                            clear hg_ hnew_
                                            (first | rw [← Ny132.out] at ho16 | (simp only [Int.reduceToNat] at ho16; rw [← Ny132.out] at ho16))
                                            have n0_ := Aside0.mk (Kd.R_elder' (by (with_reducible repeat (first | apply Kd.R_alloc | apply Kd.R_drewN | apply Kd.R_drew)); exact HO_5.out) (Kd.R_base ho16) hb)
                                            have n1_ := Aside0.mk (Kd.R_elder' (by (with_reducible repeat (first | apply Kd.R_alloc | apply Kd.R_drewN | apply Kd.R_drew)); exact HO148.out) (Kd.R_base ho16) hb)
                                            have n2_ := Aside0.mk (Kd.R_lower (Kd.R_new' (Kd.R_new' ho16 (Kd.R_lt (by (with_reducible repeat (first | apply Kd.R_alloc | apply Kd.R_drewN | apply Kd.R_drew)); exact HO_5.out))) (Kd.R_lt (by (with_reducible repeat (first | apply Kd.R_alloc | apply Kd.R_drewN | apply Kd.R_drew)); exact HO148.out))) (below_size (by repeat (first | (with_reducible first | exact HB.out | apply below_alloc | apply pw_below_drewN | apply below_drew1) | exact HB.out))))
                                            have n3_ := Aside0.mk (below_step (by repeat (first | (with_reducible first | exact HB.out | apply below_alloc | apply pw_below_drewN | apply below_drew1) | exact HB.out)) hb)
                                            clear HO_5
                                            clear HO148
                                            clear HB
                                            have HO_5 := n0_
                                            have HO148 := n1_
                                            have HO134 := n2_
                                            have HB := n3_
                                            clear n0_ n1_ n2_ n3_
                                            clear hb ho16
                                            refine hK.out _ _ ⟨((HB.out.cell (World.block_lt_of_cell? w _ hw131_0)).trans hw131_0), ((HB.out.cell (World.block_lt_of_cell? w _ hw131_1)).trans hw131_1), ((HB.out.cell (World.block_lt_of_cell? w _ hw131_2)).trans hw131_2), ((HB.out.cell (World.block_lt_of_cell? w _ hw131_3)).trans hw131_3), ((HB.out.cell (World.block_lt_of_cell? w _ hw131_4)).trans hw131_4), ((HB.out.cell (World.block_lt_of_cell? w _ hw131_5)).trans hw131_5), ((HB.out.cell (World.block_lt_of_cell? w _ hw138_0)).trans hw138_0), ((HB.out.cell (World.block_lt_of_cell? w _ hw138_1)).trans hw138_1), ((HB.out.cell (World.block_lt_of_cell? w _ hw138_2)).trans hw138_2), ((HB.out.cell (World.block_lt_of_cell? w _ hw138_3)).trans hw138_3), ((HB.out.cell (World.block_lt_of_cell? w _ hw138_4)).trans hw138_4), ((HB.out.cell (World.block_lt_of_cell? w _ hw138_5)).trans hw138_5), ((HB.out.cell (World.block_lt_of_cell? w _ hw145_0)).trans hw145_0), ((HB.out.cell (World.block_lt_of_cell? w _ hw145_1)).trans hw145_1), ((HB.out.cell (World.block_lt_of_cell? w _ hw145_2)).trans hw145_2), ((HB.out.cell (World.block_lt_of_cell? w _ hw145_3)).trans hw145_3), ((HB.out.cell (World.block_lt_of_cell? w _ hw145_4)).trans hw145_4), ((HB.out.cell (World.block_lt_of_cell? w _ hw145_5)).trans hw145_5)⟩ (fun hHeld => ?_)
                                            clear hK K
                                            refine norm_ (a' := ?_) ?_ ?_
                                            rotate_left
                                            · show Act.put _ (some 21) _ = _
                                              simp only [Act.put, List.setIfInBounds_toArray, List.set_cons_zero, List.set_cons_succ, i64_w, i32_w]
                                              rfl
                                            exact norm_ (by first | (simp only [putAll, Act.put, List.setIfInBounds_toArray, List.set_cons_zero, List.set_cons_succ]; done) | (simp only [putAll, Act.put, List.setIfInBounds_toArray, List.set_cons_zero, List.set_cons_succ]; rfl)) (hJ6_20 (_, _) _ ⟨hHeld, (by (with_reducible repeat (first | apply Kd.R_alloc | apply Kd.R_drewN | apply Kd.R_drew)); exact Kd.R_mono HO134.out (fun _ hk => ⟨hk.2, hk.1.2⟩)), (by (with_reducible repeat (first | apply Kd.R_alloc | apply Kd.R_drewN | apply Kd.R_drew)); exact Kd.R_mono HO148.out (fun _ hk => ⟨hk.2, hk.1⟩)), (by (with_reducible repeat (first | apply Kd.R_alloc | apply Kd.R_drewN | apply Kd.R_drew)); exact Kd.R_mono HO_5.out (fun _ hk => ⟨hk.2, hk.1⟩)), (by repeat (first | (with_reducible first | exact HB.out | apply below_alloc | apply pw_below_drewN | apply below_drew1) | exact HB.out))⟩)
                                          · skip
                                            refine Kd.R_lit_step (Kd.int .i64) _ 3 ?hg (N := 28) ?hd (xs := ([(rd_T39 l1 x6_1).f4] : List Int)) (inner := [.int .i64 ((rd_T39 l1 x6_1).f4)]) (ok := fun _ => True) (okp := fun _ => True) ?hr ?hp (fun _ hk => hk) trivial (Below.refl _ _) (Nat.le_refl _) (by simp) ?_; (case hd => rfl); (case hg => rfl); (case hr => first | (go_simp; done) | (go_simp; rfl)); (case hp => exact (Reps.one (show Kd.M (Kd.int .i64) _ _ _ ((rd_T39 l1 x6_1).f4) [.int .i64 ((rd_T39 l1 x6_1).f4)] from rfl) (Reps.none _ _)))
                                            intro v140 w15 ho16 hb hg_ hnew_
                                            clear hg_ hnew_
                                            (first | rw [← Ny139.out] at ho16 | (simp only [Int.reduceToNat] at ho16; rw [← Ny139.out] at ho16))
                                            have n0_ := Aside0.mk (Kd.R_elder' (by (with_reducible repeat (first | apply Kd.R_alloc | apply Kd.R_drewN | apply Kd.R_drew)); exact HO_5.out) (Kd.R_base ho16) hb)
                                            have n1_ := Aside0.mk (Kd.R_elder' (by (with_reducible repeat (first | apply Kd.R_alloc | apply Kd.R_drewN | apply Kd.R_drew)); exact HO148.out) (Kd.R_base ho16) hb)
                                            have n2_ := Aside0.mk (Kd.R_lower (Kd.R_new' (Kd.R_new' ho16 (Kd.R_lt (by (with_reducible repeat (first | apply Kd.R_alloc | apply Kd.R_drewN | apply Kd.R_drew)); exact HO_5.out))) (Kd.R_lt (by (with_reducible repeat (first | apply Kd.R_alloc | apply Kd.R_drewN | apply Kd.R_drew)); exact HO148.out))) (below_size (by repeat (first | (with_reducible first | exact HB.out | apply below_alloc | apply pw_below_drewN | apply below_drew1) | exact HB.out))))
                                            have n3_ := Aside0.mk (below_step (by repeat (first | (with_reducible first | exact HB.out | apply below_alloc | apply pw_below_drewN | apply below_drew1) | exact HB.out)) hb)
                                            clear HO_5
                                            clear HO148
                                            clear HB
                                            have HO_5 := n0_
                                            have HO148 := n1_
                                            have HO141 := n2_
                                            have HB := n3_
                                            clear n0_ n1_ n2_ n3_
                                            clear hb ho16
                                            refine hK.out _ _ ⟨((HB.out.cell (World.block_lt_of_cell? w _ hw131_0)).trans hw131_0), ((HB.out.cell (World.block_lt_of_cell? w _ hw131_1)).trans hw131_1), ((HB.out.cell (World.block_lt_of_cell? w _ hw131_2)).trans hw131_2), ((HB.out.cell (World.block_lt_of_cell? w _ hw131_3)).trans hw131_3), ((HB.out.cell (World.block_lt_of_cell? w _ hw131_4)).trans hw131_4), ((HB.out.cell (World.block_lt_of_cell? w _ hw131_5)).trans hw131_5), ((HB.out.cell (World.block_lt_of_cell? w _ hw138_0)).trans hw138_0), ((HB.out.cell (World.block_lt_of_cell? w _ hw138_1)).trans hw138_1), ((HB.out.cell (World.block_lt_of_cell? w _ hw138_2)).trans hw138_2), ((HB.out.cell (World.block_lt_of_cell? w _ hw138_3)).trans hw138_3), ((HB.out.cell (World.block_lt_of_cell? w _ hw138_4)).trans hw138_4), ((HB.out.cell (World.block_lt_of_cell? w _ hw138_5)).trans hw138_5), ((HB.out.cell (World.block_lt_of_cell? w _ hw145_0)).trans hw145_0), ((HB.out.cell (World.block_lt_of_cell? w _ hw145_1)).trans hw145_1), ((HB.out.cell (World.block_lt_of_cell? w _ hw145_2)).trans hw145_2), ((HB.out.cell (World.block_lt_of_cell? w _ hw145_3)).trans hw145_3), ((HB.out.cell (World.block_lt_of_cell? w _ hw145_4)).trans hw145_4), ((HB.out.cell (World.block_lt_of_cell? w _ hw145_5)).trans hw145_5)⟩ (fun hHeld => ?_)
                                            clear hK K
                                            refine norm_ (a' := ?_) ?_ ?_
                                            rotate_left
                                            · show Act.put _ (some 28) _ = _
                                              simp only [Act.put, List.setIfInBounds_toArray, List.set_cons_zero, List.set_cons_succ, i64_w, i32_w]
                                              rfl
                                            exact norm_ (by first | (simp only [putAll, Act.put, List.setIfInBounds_toArray, List.set_cons_zero, List.set_cons_succ]; done) | (simp only [putAll, Act.put, List.setIfInBounds_toArray, List.set_cons_zero, List.set_cons_succ]; rfl)) (hJ13_20 (_, _) _ ⟨hHeld, (by (with_reducible repeat (first | apply Kd.R_alloc | apply Kd.R_drewN | apply Kd.R_drew)); exact Kd.R_mono HO141.out (fun _ hk => ⟨hk.2, hk.1.2⟩)), (by (with_reducible repeat (first | apply Kd.R_alloc | apply Kd.R_drewN | apply Kd.R_drew)); exact Kd.R_mono HO148.out (fun _ hk => ⟨hk.2, hk.1⟩)), (by (with_reducible repeat (first | apply Kd.R_alloc | apply Kd.R_drewN | apply Kd.R_drew)); exact Kd.R_mono HO_5.out (fun _ hk => ⟨hk.2, hk.1⟩)), (by repeat (first | (with_reducible first | exact HB.out | apply below_alloc | apply pw_below_drewN | apply below_drew1) | exact HB.out))⟩)
                                      · skip
                                        rintro v140 w14 ⟨hS_, h0_, h1_, h2_⟩
                                        have n0_ : Aside0 (Kd.R (Kd.int .i64) 3 w14 w.heap.size (fun k_ => some k_ ≠ (.slice Ao10 x5_1.length co10 : Value).ownBlock) v140 y139) := ⟨h0_⟩
                                        have n1_ : Aside0 (Kd.R (Kd.int .i64) 3 w14 w.heap.size (fun k_ => some k_ ≠ (v140 : Value).ownBlock) (.slice Ao10 x5_1.length co10) x5_1) := ⟨h1_⟩
                                        have n2_ : Aside0 (Below w.heap.size w w14) := ⟨h2_⟩
                                        clear HO_5
                                        clear HB
                                        clear h0_ h1_ h2_
                                        have HO141 := n0_
                                        have HO_5 := n1_
                                        have HB := n2_
                                        clear n0_ n1_ n2_
                                        have hHeld : w14.cell? (ad131.add ((x6_1).toNat * 6)) = some (.int .i64 ((rd_T39 l1 x6_1).f0)) ∧ w14.cell? ⟨(ad131.add ((x6_1).toNat * 6)).block, (ad131.add ((x6_1).toNat * 6)).off + 1, none⟩ = some (.int .i64 ((rd_T39 l1 x6_1).f1)) ∧ w14.cell? ⟨(ad131.add ((x6_1).toNat * 6)).block, (ad131.add ((x6_1).toNat * 6)).off + 2, none⟩ = some (.int .i64 ((rd_T39 l1 x6_1).f2)) ∧ w14.cell? ⟨(ad131.add ((x6_1).toNat * 6)).block, (ad131.add ((x6_1).toNat * 6)).off + 3, none⟩ = some (.int .i64 ((rd_T39 l1 x6_1).f3)) ∧ w14.cell? ⟨(ad131.add ((x6_1).toNat * 6)).block, (ad131.add ((x6_1).toNat * 6)).off + 4, none⟩ = some (.int .i64 ((rd_T39 l1 x6_1).f4)) ∧ w14.cell? ⟨(ad131.add ((x6_1).toNat * 6)).block, (ad131.add ((x6_1).toNat * 6)).off + 5, none⟩ = some (.int .i64 ((rd_T39 l1 x6_1).f5)) ∧ w14.cell? (ad131.add ((x6_1).toNat * 6)) = some (.int .i64 ((rd_T39 l1 x6_1).f0)) ∧ w14.cell? ⟨(ad131.add ((x6_1).toNat * 6)).block, (ad131.add ((x6_1).toNat * 6)).off + 1, none⟩ = some (.int .i64 ((rd_T39 l1 x6_1).f1)) ∧ w14.cell? ⟨(ad131.add ((x6_1).toNat * 6)).block, (ad131.add ((x6_1).toNat * 6)).off + 2, none⟩ = some (.int .i64 ((rd_T39 l1 x6_1).f2)) ∧ w14.cell? ⟨(ad131.add ((x6_1).toNat * 6)).block, (ad131.add ((x6_1).toNat * 6)).off + 3, none⟩ = some (.int .i64 ((rd_T39 l1 x6_1).f3)) ∧ w14.cell? ⟨(ad131.add ((x6_1).toNat * 6)).block, (ad131.add ((x6_1).toNat * 6)).off + 4, none⟩ = some (.int .i64 ((rd_T39 l1 x6_1).f4)) ∧ w14.cell? ⟨(ad131.add ((x6_1).toNat * 6)).block, (ad131.add ((x6_1).toNat * 6)).off + 5, none⟩ = some (.int .i64 ((rd_T39 l1 x6_1).f5)) ∧ w14.cell? (ad131.add ((x6_1).toNat * 6)) = some (.int .i64 ((rd_T39 l1 x6_1).f0)) ∧ w14.cell? ⟨(ad131.add ((x6_1).toNat * 6)).block, (ad131.add ((x6_1).toNat * 6)).off + 1, none⟩ = some (.int .i64 ((rd_T39 l1 x6_1).f1)) ∧ w14.cell? ⟨(ad131.add ((x6_1).toNat * 6)).block, (ad131.add ((x6_1).toNat * 6)).off + 2, none⟩ = some (.int .i64 ((rd_T39 l1 x6_1).f2)) ∧ w14.cell? ⟨(ad131.add ((x6_1).toNat * 6)).block, (ad131.add ((x6_1).toNat * 6)).off + 3, none⟩ = some (.int .i64 ((rd_T39 l1 x6_1).f3)) ∧ w14.cell? ⟨(ad131.add ((x6_1).toNat * 6)).block, (ad131.add ((x6_1).toNat * 6)).off + 4, none⟩ = some (.int .i64 ((rd_T39 l1 x6_1).f4)) ∧ w14.cell? ⟨(ad131.add ((x6_1).toNat * 6)).block, (ad131.add ((x6_1).toNat * 6)).off + 5, none⟩ = some (.int .i64 ((rd_T39 l1 x6_1).f5)) := hS_
                                        refine norm_ (a' := ?_) ?_ ?_
                                        rotate_left
                                        · simp only [putAll, Act.put, List.setIfInBounds_toArray, List.set_cons_zero, List.set_cons_succ]
                                          rfl
                                        refine two_ (i := 6) (j := 20) (Ni := some 21) (Nj := some 35) #[true, true, true, true, true, true, true, false, true, true, true, true, true, true, false, true, true, true, true, true, false, false, false] #[true, true, true, true, true, true, false, false, true, true, true, true, true, true, false, true, true, true, true, true, true, false, false] rfl rfl rfl rfl (two_of HT_.out (by kernel_rfl)) (by decide) (by decide) (fun K hK => ?_) (fun K hK => ?_)
                                        · skip
                                          refine Kd.R_lit_step (Kd.int .i64) _ 3 ?hg (N := 21) ?hd (xs := ([(rd_T39 l1 x6_1).f3] : List Int)) (inner := [.int .i64 ((rd_T39 l1 x6_1).f3)]) (ok := fun _ => True) (okp := fun _ => True) ?hr ?hp (fun _ hk => hk) trivial (Below.refl _ _) (Nat.le_refl _) (by simp) ?_; (case hd => rfl); (case hg => rfl); (case hr => first | (go_simp; done) | (go_simp; rfl)); (case hp => exact (Reps.one (show Kd.M (Kd.int .i64) _ _ _ ((rd_T39 l1 x6_1).f3) [.int .i64 ((rd_T39 l1 x6_1).f3)] from rfl) (Reps.none _ _)))
                                          intro v133 w15 ho16 hb hg_ hnew_
                                          clear hg_ hnew_
                                          (first | rw [← Ny132.out] at ho16 | (simp only [Int.reduceToNat] at ho16; rw [← Ny132.out] at ho16))
                                          have n0_ := Aside0.mk (Kd.R_elder' (by (with_reducible repeat (first | apply Kd.R_alloc | apply Kd.R_drewN | apply Kd.R_drew)); exact HO_5.out) (Kd.R_base ho16) hb)
                                          have n1_ := Aside0.mk (Kd.R_elder' (by (with_reducible repeat (first | apply Kd.R_alloc | apply Kd.R_drewN | apply Kd.R_drew)); exact HO141.out) (Kd.R_base ho16) hb)
                                          have n2_ := Aside0.mk (Kd.R_lower (Kd.R_new' (Kd.R_new' ho16 (Kd.R_lt (by (with_reducible repeat (first | apply Kd.R_alloc | apply Kd.R_drewN | apply Kd.R_drew)); exact HO_5.out))) (Kd.R_lt (by (with_reducible repeat (first | apply Kd.R_alloc | apply Kd.R_drewN | apply Kd.R_drew)); exact HO141.out))) (below_size (by repeat (first | (with_reducible first | exact HB.out | apply below_alloc | apply pw_below_drewN | apply below_drew1) | exact HB.out))))
                                          have n3_ := Aside0.mk (below_step (by repeat (first | (with_reducible first | exact HB.out | apply below_alloc | apply pw_below_drewN | apply below_drew1) | exact HB.out)) hb)
                                          clear HO_5
                                          clear HO141
                                          clear HB
                                          have HO_5 := n0_
                                          have HO141 := n1_
                                          have HO134 := n2_
                                          have HB := n3_
                                          clear n0_ n1_ n2_ n3_
                                          clear hb ho16
                                          refine hK.out _ _ ⟨((HB.out.cell (World.block_lt_of_cell? w _ hw131_0)).trans hw131_0), ((HB.out.cell (World.block_lt_of_cell? w _ hw131_1)).trans hw131_1), ((HB.out.cell (World.block_lt_of_cell? w _ hw131_2)).trans hw131_2), ((HB.out.cell (World.block_lt_of_cell? w _ hw131_3)).trans hw131_3), ((HB.out.cell (World.block_lt_of_cell? w _ hw131_4)).trans hw131_4), ((HB.out.cell (World.block_lt_of_cell? w _ hw131_5)).trans hw131_5), ((HB.out.cell (World.block_lt_of_cell? w _ hw138_0)).trans hw138_0), ((HB.out.cell (World.block_lt_of_cell? w _ hw138_1)).trans hw138_1), ((HB.out.cell (World.block_lt_of_cell? w _ hw138_2)).trans hw138_2), ((HB.out.cell (World.block_lt_of_cell? w _ hw138_3)).trans hw138_3), ((HB.out.cell (World.block_lt_of_cell? w _ hw138_4)).trans hw138_4), ((HB.out.cell (World.block_lt_of_cell? w _ hw138_5)).trans hw138_5), ((HB.out.cell (World.block_lt_of_cell? w _ hw145_0)).trans hw145_0), ((HB.out.cell (World.block_lt_of_cell? w _ hw145_1)).trans hw145_1), ((HB.out.cell (World.block_lt_of_cell? w _ hw145_2)).trans hw145_2), ((HB.out.cell (World.block_lt_of_cell? w _ hw145_3)).trans hw145_3), ((HB.out.cell (World.block_lt_of_cell? w _ hw145_4)).trans hw145_4), ((HB.out.cell (World.block_lt_of_cell? w _ hw145_5)).trans hw145_5)⟩ (fun hHeld => ?_)
                                          clear hK K
                                          refine norm_ (a' := ?_) ?_ ?_
                                          rotate_left
                                          · show Act.put _ (some 21) _ = _
                                            simp only [Act.put, List.setIfInBounds_toArray, List.set_cons_zero, List.set_cons_succ, i64_w, i32_w]
                                            rfl
                                          exact norm_ (by first | (simp only [putAll, Act.put, List.setIfInBounds_toArray, List.set_cons_zero, List.set_cons_succ]; done) | (simp only [putAll, Act.put, List.setIfInBounds_toArray, List.set_cons_zero, List.set_cons_succ]; rfl)) (hJ6_13 (_, _) _ ⟨hHeld, (by (with_reducible repeat (first | apply Kd.R_alloc | apply Kd.R_drewN | apply Kd.R_drew)); exact Kd.R_mono HO134.out (fun _ hk => ⟨hk.2, hk.1.2⟩)), (by (with_reducible repeat (first | apply Kd.R_alloc | apply Kd.R_drewN | apply Kd.R_drew)); exact Kd.R_mono HO141.out (fun _ hk => ⟨hk.2, hk.1⟩)), (by (with_reducible repeat (first | apply Kd.R_alloc | apply Kd.R_drewN | apply Kd.R_drew)); exact Kd.R_mono HO_5.out (fun _ hk => ⟨hk.2, hk.1⟩)), (by repeat (first | (with_reducible first | exact HB.out | apply below_alloc | apply pw_below_drewN | apply below_drew1) | exact HB.out))⟩)
                                        · skip
                                          refine Kd.R_lit_step (Kd.int .i64) _ 3 ?hg (N := 35) ?hd (xs := ([(rd_T39 l1 x6_1).f5] : List Int)) (inner := [.int .i64 ((rd_T39 l1 x6_1).f5)]) (ok := fun _ => True) (okp := fun _ => True) ?hr ?hp (fun _ hk => hk) trivial (Below.refl _ _) (Nat.le_refl _) (by simp) ?_; (case hd => rfl); (case hg => rfl); (case hr => first | (go_simp; done) | (go_simp; rfl)); (case hp => exact (Reps.one (show Kd.M (Kd.int .i64) _ _ _ ((rd_T39 l1 x6_1).f5) [.int .i64 ((rd_T39 l1 x6_1).f5)] from rfl) (Reps.none _ _)))
                                          intro v147 w15 ho16 hb hg_ hnew_
                                          clear hg_ hnew_
                                          (first | rw [← Ny146.out] at ho16 | (simp only [Int.reduceToNat] at ho16; rw [← Ny146.out] at ho16))
                                          have n0_ := Aside0.mk (Kd.R_elder' (by (with_reducible repeat (first | apply Kd.R_alloc | apply Kd.R_drewN | apply Kd.R_drew)); exact HO_5.out) (Kd.R_base ho16) hb)
                                          have n1_ := Aside0.mk (Kd.R_elder' (by (with_reducible repeat (first | apply Kd.R_alloc | apply Kd.R_drewN | apply Kd.R_drew)); exact HO141.out) (Kd.R_base ho16) hb)
                                          have n2_ := Aside0.mk (Kd.R_lower (Kd.R_new' (Kd.R_new' ho16 (Kd.R_lt (by (with_reducible repeat (first | apply Kd.R_alloc | apply Kd.R_drewN | apply Kd.R_drew)); exact HO_5.out))) (Kd.R_lt (by (with_reducible repeat (first | apply Kd.R_alloc | apply Kd.R_drewN | apply Kd.R_drew)); exact HO141.out))) (below_size (by repeat (first | (with_reducible first | exact HB.out | apply below_alloc | apply pw_below_drewN | apply below_drew1) | exact HB.out))))
                                          have n3_ := Aside0.mk (below_step (by repeat (first | (with_reducible first | exact HB.out | apply below_alloc | apply pw_below_drewN | apply below_drew1) | exact HB.out)) hb)
                                          clear HO_5
                                          clear HO141
                                          clear HB
                                          have HO_5 := n0_
                                          have HO141 := n1_
                                          have HO148 := n2_
                                          have HB := n3_
                                          clear n0_ n1_ n2_ n3_
                                          clear hb ho16
                                          refine hK.out _ _ ⟨((HB.out.cell (World.block_lt_of_cell? w _ hw131_0)).trans hw131_0), ((HB.out.cell (World.block_lt_of_cell? w _ hw131_1)).trans hw131_1), ((HB.out.cell (World.block_lt_of_cell? w _ hw131_2)).trans hw131_2), ((HB.out.cell (World.block_lt_of_cell? w _ hw131_3)).trans hw131_3), ((HB.out.cell (World.block_lt_of_cell? w _ hw131_4)).trans hw131_4), ((HB.out.cell (World.block_lt_of_cell? w _ hw131_5)).trans hw131_5), ((HB.out.cell (World.block_lt_of_cell? w _ hw138_0)).trans hw138_0), ((HB.out.cell (World.block_lt_of_cell? w _ hw138_1)).trans hw138_1), ((HB.out.cell (World.block_lt_of_cell? w _ hw138_2)).trans hw138_2), ((HB.out.cell (World.block_lt_of_cell? w _ hw138_3)).trans hw138_3), ((HB.out.cell (World.block_lt_of_cell? w _ hw138_4)).trans hw138_4), ((HB.out.cell (World.block_lt_of_cell? w _ hw138_5)).trans hw138_5), ((HB.out.cell (World.block_lt_of_cell? w _ hw145_0)).trans hw145_0), ((HB.out.cell (World.block_lt_of_cell? w _ hw145_1)).trans hw145_1), ((HB.out.cell (World.block_lt_of_cell? w _ hw145_2)).trans hw145_2), ((HB.out.cell (World.block_lt_of_cell? w _ hw145_3)).trans hw145_3), ((HB.out.cell (World.block_lt_of_cell? w _ hw145_4)).trans hw145_4), ((HB.out.cell (World.block_lt_of_cell? w _ hw145_5)).trans hw145_5)⟩ (fun hHeld => ?_)
                                          clear hK K
                                          refine norm_ (a' := ?_) ?_ ?_
                                          rotate_left
                                          · show Act.put _ (some 35) _ = _
                                            simp only [Act.put, List.setIfInBounds_toArray, List.set_cons_zero, List.set_cons_succ, i64_w, i32_w]
                                            rfl
                                          exact norm_ (by first | (simp only [putAll, Act.put, List.setIfInBounds_toArray, List.set_cons_zero, List.set_cons_succ]; done) | (simp only [putAll, Act.put, List.setIfInBounds_toArray, List.set_cons_zero, List.set_cons_succ]; rfl)) (hJ13_20 (_, _) _ ⟨hHeld, (by (with_reducible repeat (first | apply Kd.R_alloc | apply Kd.R_drewN | apply Kd.R_drew)); exact Kd.R_mono HO141.out (fun _ hk => ⟨hk.2, hk.1⟩)), (by (with_reducible repeat (first | apply Kd.R_alloc | apply Kd.R_drewN | apply Kd.R_drew)); exact Kd.R_mono HO148.out (fun _ hk => ⟨hk.2, hk.1.2⟩)), (by (with_reducible repeat (first | apply Kd.R_alloc | apply Kd.R_drewN | apply Kd.R_drew)); exact HO_5.out), (by repeat (first | (with_reducible first | exact HB.out | apply below_alloc | apply pw_below_drewN | apply below_drew1) | exact HB.out))⟩)
                                    · skip
                                      rintro v133 w14 ⟨hS_, h0_, h1_, h2_⟩
                                      have n0_ : Aside0 (Kd.R (Kd.int .i64) 3 w14 w.heap.size (fun k_ => some k_ ≠ (.slice Ao10 x5_1.length co10 : Value).ownBlock) v133 y132) := ⟨h0_⟩
                                      have n1_ : Aside0 (Kd.R (Kd.int .i64) 3 w14 w.heap.size (fun k_ => some k_ ≠ (v133 : Value).ownBlock) (.slice Ao10 x5_1.length co10) x5_1) := ⟨h1_⟩
                                      have n2_ : Aside0 (Below w.heap.size w w14) := ⟨h2_⟩
                                      clear HO_5
                                      clear HB
                                      clear h0_ h1_ h2_
                                      have HO134 := n0_
                                      have HO_5 := n1_
                                      have HB := n2_
                                      clear n0_ n1_ n2_
                                      have hHeld : w14.cell? (ad131.add ((x6_1).toNat * 6)) = some (.int .i64 ((rd_T39 l1 x6_1).f0)) ∧ w14.cell? ⟨(ad131.add ((x6_1).toNat * 6)).block, (ad131.add ((x6_1).toNat * 6)).off + 1, none⟩ = some (.int .i64 ((rd_T39 l1 x6_1).f1)) ∧ w14.cell? ⟨(ad131.add ((x6_1).toNat * 6)).block, (ad131.add ((x6_1).toNat * 6)).off + 2, none⟩ = some (.int .i64 ((rd_T39 l1 x6_1).f2)) ∧ w14.cell? ⟨(ad131.add ((x6_1).toNat * 6)).block, (ad131.add ((x6_1).toNat * 6)).off + 3, none⟩ = some (.int .i64 ((rd_T39 l1 x6_1).f3)) ∧ w14.cell? ⟨(ad131.add ((x6_1).toNat * 6)).block, (ad131.add ((x6_1).toNat * 6)).off + 4, none⟩ = some (.int .i64 ((rd_T39 l1 x6_1).f4)) ∧ w14.cell? ⟨(ad131.add ((x6_1).toNat * 6)).block, (ad131.add ((x6_1).toNat * 6)).off + 5, none⟩ = some (.int .i64 ((rd_T39 l1 x6_1).f5)) ∧ w14.cell? (ad131.add ((x6_1).toNat * 6)) = some (.int .i64 ((rd_T39 l1 x6_1).f0)) ∧ w14.cell? ⟨(ad131.add ((x6_1).toNat * 6)).block, (ad131.add ((x6_1).toNat * 6)).off + 1, none⟩ = some (.int .i64 ((rd_T39 l1 x6_1).f1)) ∧ w14.cell? ⟨(ad131.add ((x6_1).toNat * 6)).block, (ad131.add ((x6_1).toNat * 6)).off + 2, none⟩ = some (.int .i64 ((rd_T39 l1 x6_1).f2)) ∧ w14.cell? ⟨(ad131.add ((x6_1).toNat * 6)).block, (ad131.add ((x6_1).toNat * 6)).off + 3, none⟩ = some (.int .i64 ((rd_T39 l1 x6_1).f3)) ∧ w14.cell? ⟨(ad131.add ((x6_1).toNat * 6)).block, (ad131.add ((x6_1).toNat * 6)).off + 4, none⟩ = some (.int .i64 ((rd_T39 l1 x6_1).f4)) ∧ w14.cell? ⟨(ad131.add ((x6_1).toNat * 6)).block, (ad131.add ((x6_1).toNat * 6)).off + 5, none⟩ = some (.int .i64 ((rd_T39 l1 x6_1).f5)) ∧ w14.cell? (ad131.add ((x6_1).toNat * 6)) = some (.int .i64 ((rd_T39 l1 x6_1).f0)) ∧ w14.cell? ⟨(ad131.add ((x6_1).toNat * 6)).block, (ad131.add ((x6_1).toNat * 6)).off + 1, none⟩ = some (.int .i64 ((rd_T39 l1 x6_1).f1)) ∧ w14.cell? ⟨(ad131.add ((x6_1).toNat * 6)).block, (ad131.add ((x6_1).toNat * 6)).off + 2, none⟩ = some (.int .i64 ((rd_T39 l1 x6_1).f2)) ∧ w14.cell? ⟨(ad131.add ((x6_1).toNat * 6)).block, (ad131.add ((x6_1).toNat * 6)).off + 3, none⟩ = some (.int .i64 ((rd_T39 l1 x6_1).f3)) ∧ w14.cell? ⟨(ad131.add ((x6_1).toNat * 6)).block, (ad131.add ((x6_1).toNat * 6)).off + 4, none⟩ = some (.int .i64 ((rd_T39 l1 x6_1).f4)) ∧ w14.cell? ⟨(ad131.add ((x6_1).toNat * 6)).block, (ad131.add ((x6_1).toNat * 6)).off + 5, none⟩ = some (.int .i64 ((rd_T39 l1 x6_1).f5)) := hS_
                                      obtain ⟨Ao16, co16, eo16⟩ := Kd.R_slice HO134.out
                                      (first | subst eo16 | (injection eo16 with f1_ f2_ f3_; have f4_ := f1_.symm; have f5_ := f3_.symm; clear f1_ f2_ f3_; subst f4_; subst f5_))
                                      refine norm_ (a' := ?_) ?_ ?_
                                      rotate_left
                                      · simp only [putAll, Act.put, List.setIfInBounds_toArray, List.set_cons_zero, List.set_cons_succ]
                                        rfl
                                      refine three_ (i := 7) (j := 13) (k := 20) (Ni := some 22) (Nj := some 28) (Nk := some 35) #[true, true, true, true, true, true, true, true, true, true, true, true, true, false, false, true, true, true, true, true, false, false, false] #[true, true, true, true, true, true, true, false, true, true, true, true, true, true, false, true, true, true, true, true, false, false, false] #[true, true, true, true, true, true, true, false, true, true, true, true, true, false, false, true, true, true, true, true, true, false, false] rfl rfl rfl rfl rfl rfl (three_of HT_.out (by kernel_rfl)) (by decide) (by decide) (by decide) (fun K hK => ?_) (fun K hK => ?_) (fun K hK => ?_)
                                      · skip
                                        refine Kd.R_append_rows_step (Kd.int .i64) (w0 := w) w.heap.size (by rfl) (.tmp 15) (.tmp 21) 40 3 (.int .i64 0) 8 rfl Try.underlying40 info3 rfl (by decide) (by omega) (.slice Ao10 x5_1.length co10) x5_1 y132 _ _ _ (fun k_ => some k_ ≠ (.slice Ao16 y132.length co16 : Value).ownBlock) (fun _ => False) rfl rfl ?aO ?aR (fun _ _ h => h) (fun _ h => h.elim) ?aF ?aB ?aS ?aL ?_
                                        (case aR => repeat (first | exact (Kd.R_reads' HO134.out).2.2 | (with_reducible refine Kd.C_alloc ?_ _) | (with_reducible refine Kd.C_drewN ?_ _) | (with_reducible refine Kd.C_drew ?_)))
                                        (case aB => exact (by repeat (first | (with_reducible first | exact HB.out | apply below_alloc | apply pw_below_drewN | apply below_drew1) | exact HB.out)))
                                        (case aF => exact (fun k_ hk => Kd.fresh' (Kd.R_lt (by (with_reducible repeat (first | apply Kd.R_alloc | apply Kd.R_drewN | apply Kd.R_drew)); exact HO134.out)) k_ hk))
                                        (case aO => exact (by (with_reducible repeat (first | apply Kd.R_alloc | apply Kd.R_drewN | apply Kd.R_drew)); exact HO_5.out))
                                        (case aS => exact (below_size (by repeat (first | (with_reducible first | exact HB.out | apply below_alloc | apply pw_below_drewN | apply below_drew1) | exact HB.out))))
                                        (case aL => have := LMc7.out; omega)
                                        intro v136 w15 ho hb hg hat
                                        rw [← Ny135.out] at ho
                                        have n0_ := Aside0.mk (Kd.R_after (ok := (fun _ => True)) (by (with_reducible repeat (first | apply Kd.R_alloc | apply Kd.R_drewN | apply Kd.R_drew)); exact Kd.R_mono HO134.out (fun _ hk => ⟨trivial, hk⟩)) hg hat)
                                        have n1_ := Aside0.mk (hb)
                                        have n2_ := Aside0.mk (ho)
                                        clear HO134
                                        clear HB
                                        clear HO_5
                                        have HO134 := n0_
                                        have HB := n1_
                                        have HO137 := n2_
                                        clear n0_ n1_ n2_
                                        clear ho hb hg hat
                                        refine hK.out _ _ ⟨((HB.out.cell (World.block_lt_of_cell? w _ hw131_0)).trans hw131_0), ((HB.out.cell (World.block_lt_of_cell? w _ hw131_1)).trans hw131_1), ((HB.out.cell (World.block_lt_of_cell? w _ hw131_2)).trans hw131_2), ((HB.out.cell (World.block_lt_of_cell? w _ hw131_3)).trans hw131_3), ((HB.out.cell (World.block_lt_of_cell? w _ hw131_4)).trans hw131_4), ((HB.out.cell (World.block_lt_of_cell? w _ hw131_5)).trans hw131_5), ((HB.out.cell (World.block_lt_of_cell? w _ hw138_0)).trans hw138_0), ((HB.out.cell (World.block_lt_of_cell? w _ hw138_1)).trans hw138_1), ((HB.out.cell (World.block_lt_of_cell? w _ hw138_2)).trans hw138_2), ((HB.out.cell (World.block_lt_of_cell? w _ hw138_3)).trans hw138_3), ((HB.out.cell (World.block_lt_of_cell? w _ hw138_4)).trans hw138_4), ((HB.out.cell (World.block_lt_of_cell? w _ hw138_5)).trans hw138_5), ((HB.out.cell (World.block_lt_of_cell? w _ hw145_0)).trans hw145_0), ((HB.out.cell (World.block_lt_of_cell? w _ hw145_1)).trans hw145_1), ((HB.out.cell (World.block_lt_of_cell? w _ hw145_2)).trans hw145_2), ((HB.out.cell (World.block_lt_of_cell? w _ hw145_3)).trans hw145_3), ((HB.out.cell (World.block_lt_of_cell? w _ hw145_4)).trans hw145_4), ((HB.out.cell (World.block_lt_of_cell? w _ hw145_5)).trans hw145_5)⟩ (fun hHeld => ?_)
                                        clear hK K
                                        refine norm_ (a' := ?_) ?_ ?_
                                        rotate_left
                                        · show Act.put _ (some 22) _ = _
                                          simp only [Act.put, List.setIfInBounds_toArray, List.set_cons_zero, List.set_cons_succ, i64_w, i32_w]
                                          rfl
                                        exact norm_ (by first | (simp only [putAll, Act.put, List.setIfInBounds_toArray, List.set_cons_zero, List.set_cons_succ]; done) | (simp only [putAll, Act.put, List.setIfInBounds_toArray, List.set_cons_zero, List.set_cons_succ]; rfl)) (hJ6_7 (.slice Ao16 y132.length co16, v136) _ ⟨hHeld, (by (with_reducible repeat (first | apply Kd.R_alloc | apply Kd.R_drewN | apply Kd.R_drew)); exact Kd.R_mono HO134.out (fun _ hk => hk.2)), (by (with_reducible repeat (first | apply Kd.R_alloc | apply Kd.R_drewN | apply Kd.R_drew)); exact HO137.out), (by repeat (first | (with_reducible first | exact HB.out | apply below_alloc | apply pw_below_drewN | apply below_drew1) | exact HB.out))⟩)
                                      · skip
                                        refine Kd.R_lit_step (Kd.int .i64) _ 3 ?hg (N := 28) ?hd (xs := ([(rd_T39 l1 x6_1).f4] : List Int)) (inner := [.int .i64 ((rd_T39 l1 x6_1).f4)]) (ok := fun _ => True) (okp := fun _ => True) ?hr ?hp (fun _ hk => hk) trivial (Below.refl _ _) (Nat.le_refl _) (by simp) ?_; (case hd => rfl); (case hg => rfl); (case hr => first | (go_simp; done) | (go_simp; rfl)); (case hp => exact (Reps.one (show Kd.M (Kd.int .i64) _ _ _ ((rd_T39 l1 x6_1).f4) [.int .i64 ((rd_T39 l1 x6_1).f4)] from rfl) (Reps.none _ _)))
                                        intro v140 w15 ho16 hb hg_ hnew_
                                        clear hg_ hnew_
                                        (first | rw [← Ny139.out] at ho16 | (simp only [Int.reduceToNat] at ho16; rw [← Ny139.out] at ho16))
                                        have n0_ := Aside0.mk (Kd.R_elder' (by (with_reducible repeat (first | apply Kd.R_alloc | apply Kd.R_drewN | apply Kd.R_drew)); exact HO_5.out) (Kd.R_base ho16) hb)
                                        have n1_ := Aside0.mk (Kd.R_elder' (by (with_reducible repeat (first | apply Kd.R_alloc | apply Kd.R_drewN | apply Kd.R_drew)); exact HO134.out) (Kd.R_base ho16) hb)
                                        have n2_ := Aside0.mk (Kd.R_lower (Kd.R_new' (Kd.R_new' ho16 (Kd.R_lt (by (with_reducible repeat (first | apply Kd.R_alloc | apply Kd.R_drewN | apply Kd.R_drew)); exact HO_5.out))) (Kd.R_lt (by (with_reducible repeat (first | apply Kd.R_alloc | apply Kd.R_drewN | apply Kd.R_drew)); exact HO134.out))) (below_size (by repeat (first | (with_reducible first | exact HB.out | apply below_alloc | apply pw_below_drewN | apply below_drew1) | exact HB.out))))
                                        have n3_ := Aside0.mk (below_step (by repeat (first | (with_reducible first | exact HB.out | apply below_alloc | apply pw_below_drewN | apply below_drew1) | exact HB.out)) hb)
                                        clear HO_5
                                        clear HO134
                                        clear HB
                                        have HO_5 := n0_
                                        have HO134 := n1_
                                        have HO141 := n2_
                                        have HB := n3_
                                        clear n0_ n1_ n2_ n3_
                                        clear hb ho16
                                        refine hK.out _ _ ⟨((HB.out.cell (World.block_lt_of_cell? w _ hw131_0)).trans hw131_0), ((HB.out.cell (World.block_lt_of_cell? w _ hw131_1)).trans hw131_1), ((HB.out.cell (World.block_lt_of_cell? w _ hw131_2)).trans hw131_2), ((HB.out.cell (World.block_lt_of_cell? w _ hw131_3)).trans hw131_3), ((HB.out.cell (World.block_lt_of_cell? w _ hw131_4)).trans hw131_4), ((HB.out.cell (World.block_lt_of_cell? w _ hw131_5)).trans hw131_5), ((HB.out.cell (World.block_lt_of_cell? w _ hw138_0)).trans hw138_0), ((HB.out.cell (World.block_lt_of_cell? w _ hw138_1)).trans hw138_1), ((HB.out.cell (World.block_lt_of_cell? w _ hw138_2)).trans hw138_2), ((HB.out.cell (World.block_lt_of_cell? w _ hw138_3)).trans hw138_3), ((HB.out.cell (World.block_lt_of_cell? w _ hw138_4)).trans hw138_4), ((HB.out.cell (World.block_lt_of_cell? w _ hw138_5)).trans hw138_5), ((HB.out.cell (World.block_lt_of_cell? w _ hw145_0)).trans hw145_0), ((HB.out.cell (World.block_lt_of_cell? w _ hw145_1)).trans hw145_1), ((HB.out.cell (World.block_lt_of_cell? w _ hw145_2)).trans hw145_2), ((HB.out.cell (World.block_lt_of_cell? w _ hw145_3)).trans hw145_3), ((HB.out.cell (World.block_lt_of_cell? w _ hw145_4)).trans hw145_4), ((HB.out.cell (World.block_lt_of_cell? w _ hw145_5)).trans hw145_5)⟩ (fun hHeld => ?_)
                                        clear hK K
                                        refine norm_ (a' := ?_) ?_ ?_
                                        rotate_left
                                        · show Act.put _ (some 28) _ = _
                                          simp only [Act.put, List.setIfInBounds_toArray, List.set_cons_zero, List.set_cons_succ, i64_w, i32_w]
                                          rfl
                                        exact norm_ (by first | (simp only [putAll, Act.put, List.setIfInBounds_toArray, List.set_cons_zero, List.set_cons_succ]; done) | (simp only [putAll, Act.put, List.setIfInBounds_toArray, List.set_cons_zero, List.set_cons_succ]; rfl)) (hJ6_13 (_, _) _ ⟨hHeld, (by (with_reducible repeat (first | apply Kd.R_alloc | apply Kd.R_drewN | apply Kd.R_drew)); exact Kd.R_mono HO134.out (fun _ hk => ⟨hk.2, hk.1⟩)), (by (with_reducible repeat (first | apply Kd.R_alloc | apply Kd.R_drewN | apply Kd.R_drew)); exact Kd.R_mono HO141.out (fun _ hk => ⟨hk.2, hk.1.2⟩)), (by (with_reducible repeat (first | apply Kd.R_alloc | apply Kd.R_drewN | apply Kd.R_drew)); exact HO_5.out), (by repeat (first | (with_reducible first | exact HB.out | apply below_alloc | apply pw_below_drewN | apply below_drew1) | exact HB.out))⟩)
                                      · skip
                                        refine Kd.R_lit_step (Kd.int .i64) _ 3 ?hg (N := 35) ?hd (xs := ([(rd_T39 l1 x6_1).f5] : List Int)) (inner := [.int .i64 ((rd_T39 l1 x6_1).f5)]) (ok := fun _ => True) (okp := fun _ => True) ?hr ?hp (fun _ hk => hk) trivial (Below.refl _ _) (Nat.le_refl _) (by simp) ?_; (case hd => rfl); (case hg => rfl); (case hr => first | (go_simp; done) | (go_simp; rfl)); (case hp => exact (Reps.one (show Kd.M (Kd.int .i64) _ _ _ ((rd_T39 l1 x6_1).f5) [.int .i64 ((rd_T39 l1 x6_1).f5)] from rfl) (Reps.none _ _)))
                                        intro v147 w15 ho16 hb hg_ hnew_
                                        clear hg_ hnew_
                                        (first | rw [← Ny146.out] at ho16 | (simp only [Int.reduceToNat] at ho16; rw [← Ny146.out] at ho16))
                                        have n0_ := Aside0.mk (Kd.R_elder' (by (with_reducible repeat (first | apply Kd.R_alloc | apply Kd.R_drewN | apply Kd.R_drew)); exact HO_5.out) (Kd.R_base ho16) hb)
                                        have n1_ := Aside0.mk (Kd.R_elder' (by (with_reducible repeat (first | apply Kd.R_alloc | apply Kd.R_drewN | apply Kd.R_drew)); exact HO134.out) (Kd.R_base ho16) hb)
                                        have n2_ := Aside0.mk (Kd.R_lower (Kd.R_new' (Kd.R_new' ho16 (Kd.R_lt (by (with_reducible repeat (first | apply Kd.R_alloc | apply Kd.R_drewN | apply Kd.R_drew)); exact HO_5.out))) (Kd.R_lt (by (with_reducible repeat (first | apply Kd.R_alloc | apply Kd.R_drewN | apply Kd.R_drew)); exact HO134.out))) (below_size (by repeat (first | (with_reducible first | exact HB.out | apply below_alloc | apply pw_below_drewN | apply below_drew1) | exact HB.out))))
                                        have n3_ := Aside0.mk (below_step (by repeat (first | (with_reducible first | exact HB.out | apply below_alloc | apply pw_below_drewN | apply below_drew1) | exact HB.out)) hb)
                                        clear HO_5
                                        clear HO134
                                        clear HB
                                        have HO_5 := n0_
                                        have HO134 := n1_
                                        have HO148 := n2_
                                        have HB := n3_
                                        clear n0_ n1_ n2_ n3_
                                        clear hb ho16
                                        refine hK.out _ _ ⟨((HB.out.cell (World.block_lt_of_cell? w _ hw131_0)).trans hw131_0), ((HB.out.cell (World.block_lt_of_cell? w _ hw131_1)).trans hw131_1), ((HB.out.cell (World.block_lt_of_cell? w _ hw131_2)).trans hw131_2), ((HB.out.cell (World.block_lt_of_cell? w _ hw131_3)).trans hw131_3), ((HB.out.cell (World.block_lt_of_cell? w _ hw131_4)).trans hw131_4), ((HB.out.cell (World.block_lt_of_cell? w _ hw131_5)).trans hw131_5), ((HB.out.cell (World.block_lt_of_cell? w _ hw138_0)).trans hw138_0), ((HB.out.cell (World.block_lt_of_cell? w _ hw138_1)).trans hw138_1), ((HB.out.cell (World.block_lt_of_cell? w _ hw138_2)).trans hw138_2), ((HB.out.cell (World.block_lt_of_cell? w _ hw138_3)).trans hw138_3), ((HB.out.cell (World.block_lt_of_cell? w _ hw138_4)).trans hw138_4), ((HB.out.cell (World.block_lt_of_cell? w _ hw138_5)).trans hw138_5), ((HB.out.cell (World.block_lt_of_cell? w _ hw145_0)).trans hw145_0), ((HB.out.cell (World.block_lt_of_cell? w _ hw145_1)).trans hw145_1), ((HB.out.cell (World.block_lt_of_cell? w _ hw145_2)).trans hw145_2), ((HB.out.cell (World.block_lt_of_cell? w _ hw145_3)).trans hw145_3), ((HB.out.cell (World.block_lt_of_cell? w _ hw145_4)).trans hw145_4), ((HB.out.cell (World.block_lt_of_cell? w _ hw145_5)).trans hw145_5)⟩ (fun hHeld => ?_)
                                        clear hK K
                                        refine norm_ (a' := ?_) ?_ ?_
                                        rotate_left
                                        · show Act.put _ (some 35) _ = _
                                          simp only [Act.put, List.setIfInBounds_toArray, List.set_cons_zero, List.set_cons_succ, i64_w, i32_w]
                                          rfl
                                        exact norm_ (by first | (simp only [putAll, Act.put, List.setIfInBounds_toArray, List.set_cons_zero, List.set_cons_succ]; done) | (simp only [putAll, Act.put, List.setIfInBounds_toArray, List.set_cons_zero, List.set_cons_succ]; rfl)) (hJ6_20 (_, _) _ ⟨hHeld, (by (with_reducible repeat (first | apply Kd.R_alloc | apply Kd.R_drewN | apply Kd.R_drew)); exact Kd.R_mono HO134.out (fun _ hk => ⟨hk.2, hk.1⟩)), (by (with_reducible repeat (first | apply Kd.R_alloc | apply Kd.R_drewN | apply Kd.R_drew)); exact Kd.R_mono HO148.out (fun _ hk => ⟨hk.2, hk.1.2⟩)), (by (with_reducible repeat (first | apply Kd.R_alloc | apply Kd.R_drewN | apply Kd.R_drew)); exact HO_5.out), (by repeat (first | (with_reducible first | exact HB.out | apply below_alloc | apply pw_below_drewN | apply below_drew1) | exact HB.out))⟩)
                                  · skip
                                    rintro ⟨v140, v147⟩ w16 ⟨hS_, h0_, h1_, h2_, h3_⟩
                                    have n0_ : Aside0 (Kd.R (Kd.int .i64) 3 w16 w.heap.size (fun k_ => some k_ ≠ (v147 : Value).ownBlock ∧ some k_ ≠ (.slice Ao10 x5_1.length co10 : Value).ownBlock) v140 y139) := ⟨h0_⟩
                                    have n1_ : Aside0 (Kd.R (Kd.int .i64) 3 w16 w.heap.size (fun k_ => some k_ ≠ (v140 : Value).ownBlock ∧ some k_ ≠ (.slice Ao10 x5_1.length co10 : Value).ownBlock) v147 y146) := ⟨h1_⟩
                                    have n2_ : Aside0 (Kd.R (Kd.int .i64) 3 w16 w.heap.size (fun k_ => some k_ ≠ (v140 : Value).ownBlock ∧ some k_ ≠ (v147 : Value).ownBlock) (.slice Ao10 x5_1.length co10) x5_1) := ⟨h2_⟩
                                    have n3_ : Aside0 (Below w.heap.size w w16) := ⟨h3_⟩
                                    clear HO_5
                                    clear HB
                                    clear h0_ h1_ h2_ h3_
                                    have HO141 := n0_
                                    have HO148 := n1_
                                    have HO_5 := n2_
                                    have HB := n3_
                                    clear n0_ n1_ n2_ n3_
                                    have hHeld : w16.cell? (ad131.add ((x6_1).toNat * 6)) = some (.int .i64 ((rd_T39 l1 x6_1).f0)) ∧ w16.cell? ⟨(ad131.add ((x6_1).toNat * 6)).block, (ad131.add ((x6_1).toNat * 6)).off + 1, none⟩ = some (.int .i64 ((rd_T39 l1 x6_1).f1)) ∧ w16.cell? ⟨(ad131.add ((x6_1).toNat * 6)).block, (ad131.add ((x6_1).toNat * 6)).off + 2, none⟩ = some (.int .i64 ((rd_T39 l1 x6_1).f2)) ∧ w16.cell? ⟨(ad131.add ((x6_1).toNat * 6)).block, (ad131.add ((x6_1).toNat * 6)).off + 3, none⟩ = some (.int .i64 ((rd_T39 l1 x6_1).f3)) ∧ w16.cell? ⟨(ad131.add ((x6_1).toNat * 6)).block, (ad131.add ((x6_1).toNat * 6)).off + 4, none⟩ = some (.int .i64 ((rd_T39 l1 x6_1).f4)) ∧ w16.cell? ⟨(ad131.add ((x6_1).toNat * 6)).block, (ad131.add ((x6_1).toNat * 6)).off + 5, none⟩ = some (.int .i64 ((rd_T39 l1 x6_1).f5)) ∧ w16.cell? (ad131.add ((x6_1).toNat * 6)) = some (.int .i64 ((rd_T39 l1 x6_1).f0)) ∧ w16.cell? ⟨(ad131.add ((x6_1).toNat * 6)).block, (ad131.add ((x6_1).toNat * 6)).off + 1, none⟩ = some (.int .i64 ((rd_T39 l1 x6_1).f1)) ∧ w16.cell? ⟨(ad131.add ((x6_1).toNat * 6)).block, (ad131.add ((x6_1).toNat * 6)).off + 2, none⟩ = some (.int .i64 ((rd_T39 l1 x6_1).f2)) ∧ w16.cell? ⟨(ad131.add ((x6_1).toNat * 6)).block, (ad131.add ((x6_1).toNat * 6)).off + 3, none⟩ = some (.int .i64 ((rd_T39 l1 x6_1).f3)) ∧ w16.cell? ⟨(ad131.add ((x6_1).toNat * 6)).block, (ad131.add ((x6_1).toNat * 6)).off + 4, none⟩ = some (.int .i64 ((rd_T39 l1 x6_1).f4)) ∧ w16.cell? ⟨(ad131.add ((x6_1).toNat * 6)).block, (ad131.add ((x6_1).toNat * 6)).off + 5, none⟩ = some (.int .i64 ((rd_T39 l1 x6_1).f5)) ∧ w16.cell? (ad131.add ((x6_1).toNat * 6)) = some (.int .i64 ((rd_T39 l1 x6_1).f0)) ∧ w16.cell? ⟨(ad131.add ((x6_1).toNat * 6)).block, (ad131.add ((x6_1).toNat * 6)).off + 1, none⟩ = some (.int .i64 ((rd_T39 l1 x6_1).f1)) ∧ w16.cell? ⟨(ad131.add ((x6_1).toNat * 6)).block, (ad131.add ((x6_1).toNat * 6)).off + 2, none⟩ = some (.int .i64 ((rd_T39 l1 x6_1).f2)) ∧ w16.cell? ⟨(ad131.add ((x6_1).toNat * 6)).block, (ad131.add ((x6_1).toNat * 6)).off + 3, none⟩ = some (.int .i64 ((rd_T39 l1 x6_1).f3)) ∧ w16.cell? ⟨(ad131.add ((x6_1).toNat * 6)).block, (ad131.add ((x6_1).toNat * 6)).off + 4, none⟩ = some (.int .i64 ((rd_T39 l1 x6_1).f4)) ∧ w16.cell? ⟨(ad131.add ((x6_1).toNat * 6)).block, (ad131.add ((x6_1).toNat * 6)).off + 5, none⟩ = some (.int .i64 ((rd_T39 l1 x6_1).f5)) := hS_
                                    refine norm_ (a' := ?_) ?_ ?_
                                    rotate_left
                                    · simp only [putAll, Act.put, List.setIfInBounds_toArray, List.set_cons_zero, List.set_cons_succ]
                                      rfl
                                    refine one_ (i := 6) (N := some 21) #[true, true, true, true, true, true, true, false, true, true, true, true, true, true, false, true, true, true, true, true, true, false, false] rfl rfl (one_of HT_.out (by kernel_rfl)) (by decide) (fun K hK => ?_)
                                    refine Kd.R_lit_step (Kd.int .i64) _ 3 ?hg (N := 21) ?hd (xs := ([(rd_T39 l1 x6_1).f3] : List Int)) (inner := [.int .i64 ((rd_T39 l1 x6_1).f3)]) (ok := fun _ => True) (okp := fun _ => True) ?hr ?hp (fun _ hk => hk) trivial (Below.refl _ _) (Nat.le_refl _) (by simp) ?_; (case hd => rfl); (case hg => rfl); (case hr => first | (go_simp; done) | (go_simp; rfl)); (case hp => exact (Reps.one (show Kd.M (Kd.int .i64) _ _ _ ((rd_T39 l1 x6_1).f3) [.int .i64 ((rd_T39 l1 x6_1).f3)] from rfl) (Reps.none _ _)))
                                    intro v133 w17 ho18 hb hg_ hnew_
                                    clear hg_ hnew_
                                    (first | rw [← Ny132.out] at ho18 | (simp only [Int.reduceToNat] at ho18; rw [← Ny132.out] at ho18))
                                    have n0_ := Aside0.mk (Kd.R_elder' (by (with_reducible repeat (first | apply Kd.R_alloc | apply Kd.R_drewN | apply Kd.R_drew)); exact HO_5.out) (Kd.R_base ho18) hb)
                                    have n1_ := Aside0.mk (Kd.R_elder' (by (with_reducible repeat (first | apply Kd.R_alloc | apply Kd.R_drewN | apply Kd.R_drew)); exact HO141.out) (Kd.R_base ho18) hb)
                                    have n2_ := Aside0.mk (Kd.R_elder' (by (with_reducible repeat (first | apply Kd.R_alloc | apply Kd.R_drewN | apply Kd.R_drew)); exact HO148.out) (Kd.R_base ho18) hb)
                                    have n3_ := Aside0.mk (Kd.R_lower (Kd.R_new' (Kd.R_new' (Kd.R_new' ho18 (Kd.R_lt (by (with_reducible repeat (first | apply Kd.R_alloc | apply Kd.R_drewN | apply Kd.R_drew)); exact HO_5.out))) (Kd.R_lt (by (with_reducible repeat (first | apply Kd.R_alloc | apply Kd.R_drewN | apply Kd.R_drew)); exact HO141.out))) (Kd.R_lt (by (with_reducible repeat (first | apply Kd.R_alloc | apply Kd.R_drewN | apply Kd.R_drew)); exact HO148.out))) (below_size (by repeat (first | (with_reducible first | exact HB.out | apply below_alloc | apply pw_below_drewN | apply below_drew1) | exact HB.out))))
                                    have n4_ := Aside0.mk (below_step (by repeat (first | (with_reducible first | exact HB.out | apply below_alloc | apply pw_below_drewN | apply below_drew1) | exact HB.out)) hb)
                                    clear HO_5
                                    clear HO141
                                    clear HO148
                                    clear HB
                                    have HO_5 := n0_
                                    have HO141 := n1_
                                    have HO148 := n2_
                                    have HO134 := n3_
                                    have HB := n4_
                                    clear n0_ n1_ n2_ n3_ n4_
                                    clear hb ho18
                                    refine hK.out _ _ ⟨((HB.out.cell (World.block_lt_of_cell? w _ hw131_0)).trans hw131_0), ((HB.out.cell (World.block_lt_of_cell? w _ hw131_1)).trans hw131_1), ((HB.out.cell (World.block_lt_of_cell? w _ hw131_2)).trans hw131_2), ((HB.out.cell (World.block_lt_of_cell? w _ hw131_3)).trans hw131_3), ((HB.out.cell (World.block_lt_of_cell? w _ hw131_4)).trans hw131_4), ((HB.out.cell (World.block_lt_of_cell? w _ hw131_5)).trans hw131_5), ((HB.out.cell (World.block_lt_of_cell? w _ hw138_0)).trans hw138_0), ((HB.out.cell (World.block_lt_of_cell? w _ hw138_1)).trans hw138_1), ((HB.out.cell (World.block_lt_of_cell? w _ hw138_2)).trans hw138_2), ((HB.out.cell (World.block_lt_of_cell? w _ hw138_3)).trans hw138_3), ((HB.out.cell (World.block_lt_of_cell? w _ hw138_4)).trans hw138_4), ((HB.out.cell (World.block_lt_of_cell? w _ hw138_5)).trans hw138_5), ((HB.out.cell (World.block_lt_of_cell? w _ hw145_0)).trans hw145_0), ((HB.out.cell (World.block_lt_of_cell? w _ hw145_1)).trans hw145_1), ((HB.out.cell (World.block_lt_of_cell? w _ hw145_2)).trans hw145_2), ((HB.out.cell (World.block_lt_of_cell? w _ hw145_3)).trans hw145_3), ((HB.out.cell (World.block_lt_of_cell? w _ hw145_4)).trans hw145_4), ((HB.out.cell (World.block_lt_of_cell? w _ hw145_5)).trans hw145_5)⟩ (fun hHeld => ?_)
                                    clear hK K
                                    refine norm_ (a' := ?_) ?_ ?_
                                    rotate_left
                                    · show Act.put _ (some 21) _ = _
                                      simp only [Act.put, List.setIfInBounds_toArray, List.set_cons_zero, List.set_cons_succ, i64_w, i32_w]
                                      rfl
                                    exact norm_ (by first | (simp only [putAll, Act.put, List.setIfInBounds_toArray, List.set_cons_zero, List.set_cons_succ]; done) | (simp only [putAll, Act.put, List.setIfInBounds_toArray, List.set_cons_zero, List.set_cons_succ]; rfl)) (hJ6_13_20 (_, _, _) _ ⟨hHeld, (by (with_reducible repeat (first | apply Kd.R_alloc | apply Kd.R_drewN | apply Kd.R_drew)); exact Kd.R_mono HO134.out (fun _ hk => ⟨hk.1.2, ⟨hk.2, hk.1.1.2⟩⟩)), (by (with_reducible repeat (first | apply Kd.R_alloc | apply Kd.R_drewN | apply Kd.R_drew)); exact Kd.R_mono HO141.out (fun _ hk => ⟨hk.2, ⟨hk.1.1, hk.1.2⟩⟩)), (by (with_reducible repeat (first | apply Kd.R_alloc | apply Kd.R_drewN | apply Kd.R_drew)); exact Kd.R_mono HO148.out (fun _ hk => ⟨hk.2, ⟨hk.1.1, hk.1.2⟩⟩)), (by (with_reducible repeat (first | apply Kd.R_alloc | apply Kd.R_drewN | apply Kd.R_drew)); exact Kd.R_mono HO_5.out (fun _ hk => ⟨hk.2, ⟨hk.1.1, hk.1.2⟩⟩)), (by repeat (first | (with_reducible first | exact HB.out | apply below_alloc | apply pw_below_drewN | apply below_drew1) | exact HB.out))⟩)
                                · skip
                                  rintro ⟨v133, v147⟩ w16 ⟨hS_, h0_, h1_, h2_, h3_⟩
                                  have n0_ : Aside0 (Kd.R (Kd.int .i64) 3 w16 w.heap.size (fun k_ => some k_ ≠ (v147 : Value).ownBlock ∧ some k_ ≠ (.slice Ao10 x5_1.length co10 : Value).ownBlock) v133 y132) := ⟨h0_⟩
                                  have n1_ : Aside0 (Kd.R (Kd.int .i64) 3 w16 w.heap.size (fun k_ => some k_ ≠ (v133 : Value).ownBlock ∧ some k_ ≠ (.slice Ao10 x5_1.length co10 : Value).ownBlock) v147 y146) := ⟨h1_⟩
                                  have n2_ : Aside0 (Kd.R (Kd.int .i64) 3 w16 w.heap.size (fun k_ => some k_ ≠ (v133 : Value).ownBlock ∧ some k_ ≠ (v147 : Value).ownBlock) (.slice Ao10 x5_1.length co10) x5_1) := ⟨h2_⟩
                                  have n3_ : Aside0 (Below w.heap.size w w16) := ⟨h3_⟩
                                  clear HO_5
                                  clear HB
                                  clear h0_ h1_ h2_ h3_
                                  have HO134 := n0_
                                  have HO148 := n1_
                                  have HO_5 := n2_
                                  have HB := n3_
                                  clear n0_ n1_ n2_ n3_
                                  have hHeld : w16.cell? (ad131.add ((x6_1).toNat * 6)) = some (.int .i64 ((rd_T39 l1 x6_1).f0)) ∧ w16.cell? ⟨(ad131.add ((x6_1).toNat * 6)).block, (ad131.add ((x6_1).toNat * 6)).off + 1, none⟩ = some (.int .i64 ((rd_T39 l1 x6_1).f1)) ∧ w16.cell? ⟨(ad131.add ((x6_1).toNat * 6)).block, (ad131.add ((x6_1).toNat * 6)).off + 2, none⟩ = some (.int .i64 ((rd_T39 l1 x6_1).f2)) ∧ w16.cell? ⟨(ad131.add ((x6_1).toNat * 6)).block, (ad131.add ((x6_1).toNat * 6)).off + 3, none⟩ = some (.int .i64 ((rd_T39 l1 x6_1).f3)) ∧ w16.cell? ⟨(ad131.add ((x6_1).toNat * 6)).block, (ad131.add ((x6_1).toNat * 6)).off + 4, none⟩ = some (.int .i64 ((rd_T39 l1 x6_1).f4)) ∧ w16.cell? ⟨(ad131.add ((x6_1).toNat * 6)).block, (ad131.add ((x6_1).toNat * 6)).off + 5, none⟩ = some (.int .i64 ((rd_T39 l1 x6_1).f5)) ∧ w16.cell? (ad131.add ((x6_1).toNat * 6)) = some (.int .i64 ((rd_T39 l1 x6_1).f0)) ∧ w16.cell? ⟨(ad131.add ((x6_1).toNat * 6)).block, (ad131.add ((x6_1).toNat * 6)).off + 1, none⟩ = some (.int .i64 ((rd_T39 l1 x6_1).f1)) ∧ w16.cell? ⟨(ad131.add ((x6_1).toNat * 6)).block, (ad131.add ((x6_1).toNat * 6)).off + 2, none⟩ = some (.int .i64 ((rd_T39 l1 x6_1).f2)) ∧ w16.cell? ⟨(ad131.add ((x6_1).toNat * 6)).block, (ad131.add ((x6_1).toNat * 6)).off + 3, none⟩ = some (.int .i64 ((rd_T39 l1 x6_1).f3)) ∧ w16.cell? ⟨(ad131.add ((x6_1).toNat * 6)).block, (ad131.add ((x6_1).toNat * 6)).off + 4, none⟩ = some (.int .i64 ((rd_T39 l1 x6_1).f4)) ∧ w16.cell? ⟨(ad131.add ((x6_1).toNat * 6)).block, (ad131.add ((x6_1).toNat * 6)).off + 5, none⟩ = some (.int .i64 ((rd_T39 l1 x6_1).f5)) ∧ w16.cell? (ad131.add ((x6_1).toNat * 6)) = some (.int .i64 ((rd_T39 l1 x6_1).f0)) ∧ w16.cell? ⟨(ad131.add ((x6_1).toNat * 6)).block, (ad131.add ((x6_1).toNat * 6)).off + 1, none⟩ = some (.int .i64 ((rd_T39 l1 x6_1).f1)) ∧ w16.cell? ⟨(ad131.add ((x6_1).toNat * 6)).block, (ad131.add ((x6_1).toNat * 6)).off + 2, none⟩ = some (.int .i64 ((rd_T39 l1 x6_1).f2)) ∧ w16.cell? ⟨(ad131.add ((x6_1).toNat * 6)).block, (ad131.add ((x6_1).toNat * 6)).off + 3, none⟩ = some (.int .i64 ((rd_T39 l1 x6_1).f3)) ∧ w16.cell? ⟨(ad131.add ((x6_1).toNat * 6)).block, (ad131.add ((x6_1).toNat * 6)).off + 4, none⟩ = some (.int .i64 ((rd_T39 l1 x6_1).f4)) ∧ w16.cell? ⟨(ad131.add ((x6_1).toNat * 6)).block, (ad131.add ((x6_1).toNat * 6)).off + 5, none⟩ = some (.int .i64 ((rd_T39 l1 x6_1).f5)) := hS_
                                  obtain ⟨Ao18, co18, eo18⟩ := Kd.R_slice HO134.out
                                  (first | subst eo18 | (injection eo18 with f1_ f2_ f3_; have f4_ := f1_.symm; have f5_ := f3_.symm; clear f1_ f2_ f3_; subst f4_; subst f5_))
                                  refine norm_ (a' := ?_) ?_ ?_
                                  rotate_left
                                  · simp only [putAll, Act.put, List.setIfInBounds_toArray, List.set_cons_zero, List.set_cons_succ]
                                    rfl
                                  refine two_ (i := 7) (j := 13) (Ni := some 22) (Nj := some 28) #[true, true, true, true, true, true, true, true, true, true, true, true, true, false, false, true, true, true, true, true, true, false, false] #[true, true, true, true, true, true, true, false, true, true, true, true, true, true, false, true, true, true, true, true, true, false, false] rfl rfl rfl rfl (two_of HT_.out (by kernel_rfl)) (by decide) (by decide) (fun K hK => ?_) (fun K hK => ?_)
                                  · skip
                                    refine Kd.R_append_rows_step (Kd.int .i64) (w0 := w) w.heap.size (by rfl) (.tmp 15) (.tmp 21) 40 3 (.int .i64 0) 8 rfl Try.underlying40 info3 rfl (by decide) (by omega) (.slice Ao10 x5_1.length co10) x5_1 y132 _ _ _ (fun k_ => some k_ ≠ (.slice Ao18 y132.length co18 : Value).ownBlock ∧ some k_ ≠ (v147 : Value).ownBlock) (fun _ => False) rfl rfl ?aO ?aR (fun _ _ h => h) (fun _ h => h.elim) ?aF ?aB ?aS ?aL ?_
                                    (case aR => repeat (first | exact (Kd.R_reads' HO134.out).2.2 | (with_reducible refine Kd.C_alloc ?_ _) | (with_reducible refine Kd.C_drewN ?_ _) | (with_reducible refine Kd.C_drew ?_)))
                                    (case aB => exact (by repeat (first | (with_reducible first | exact HB.out | apply below_alloc | apply pw_below_drewN | apply below_drew1) | exact HB.out)))
                                    (case aF => exact (fun k_ hk => ⟨Kd.fresh' (Kd.R_lt (by (with_reducible repeat (first | apply Kd.R_alloc | apply Kd.R_drewN | apply Kd.R_drew)); exact HO134.out)) k_ hk, Kd.fresh' (Kd.R_lt (by (with_reducible repeat (first | apply Kd.R_alloc | apply Kd.R_drewN | apply Kd.R_drew)); exact HO148.out)) k_ hk⟩))
                                    (case aO => exact (by (with_reducible repeat (first | apply Kd.R_alloc | apply Kd.R_drewN | apply Kd.R_drew)); exact HO_5.out))
                                    (case aS => exact (below_size (by repeat (first | (with_reducible first | exact HB.out | apply below_alloc | apply pw_below_drewN | apply below_drew1) | exact HB.out))))
                                    (case aL => have := LMc7.out; omega)
                                    intro v136 w17 ho hb hg hat
                                    rw [← Ny135.out] at ho
                                    have n0_ := Aside0.mk (Kd.R_after (ok := (fun k_ => some k_ ≠ (v147 : Value).ownBlock)) (by (with_reducible repeat (first | apply Kd.R_alloc | apply Kd.R_drewN | apply Kd.R_drew)); exact HO134.out) hg hat)
                                    have n1_ := Aside0.mk (Kd.R_after (ok := (fun k_ => some k_ ≠ (.slice Ao18 y132.length co18 : Value).ownBlock)) (by (with_reducible repeat (first | apply Kd.R_alloc | apply Kd.R_drewN | apply Kd.R_drew)); exact HO148.out) hg hat)
                                    have n2_ := Aside0.mk (hb)
                                    have n3_ := Aside0.mk (ho)
                                    clear HO134
                                    clear HO148
                                    clear HB
                                    clear HO_5
                                    have HO134 := n0_
                                    have HO148 := n1_
                                    have HB := n2_
                                    have HO137 := n3_
                                    clear n0_ n1_ n2_ n3_
                                    clear ho hb hg hat
                                    refine hK.out _ _ ⟨((HB.out.cell (World.block_lt_of_cell? w _ hw131_0)).trans hw131_0), ((HB.out.cell (World.block_lt_of_cell? w _ hw131_1)).trans hw131_1), ((HB.out.cell (World.block_lt_of_cell? w _ hw131_2)).trans hw131_2), ((HB.out.cell (World.block_lt_of_cell? w _ hw131_3)).trans hw131_3), ((HB.out.cell (World.block_lt_of_cell? w _ hw131_4)).trans hw131_4), ((HB.out.cell (World.block_lt_of_cell? w _ hw131_5)).trans hw131_5), ((HB.out.cell (World.block_lt_of_cell? w _ hw138_0)).trans hw138_0), ((HB.out.cell (World.block_lt_of_cell? w _ hw138_1)).trans hw138_1), ((HB.out.cell (World.block_lt_of_cell? w _ hw138_2)).trans hw138_2), ((HB.out.cell (World.block_lt_of_cell? w _ hw138_3)).trans hw138_3), ((HB.out.cell (World.block_lt_of_cell? w _ hw138_4)).trans hw138_4), ((HB.out.cell (World.block_lt_of_cell? w _ hw138_5)).trans hw138_5), ((HB.out.cell (World.block_lt_of_cell? w _ hw145_0)).trans hw145_0), ((HB.out.cell (World.block_lt_of_cell? w _ hw145_1)).trans hw145_1), ((HB.out.cell (World.block_lt_of_cell? w _ hw145_2)).trans hw145_2), ((HB.out.cell (World.block_lt_of_cell? w _ hw145_3)).trans hw145_3), ((HB.out.cell (World.block_lt_of_cell? w _ hw145_4)).trans hw145_4), ((HB.out.cell (World.block_lt_of_cell? w _ hw145_5)).trans hw145_5)⟩ (fun hHeld => ?_)
                                    clear hK K
                                    refine norm_ (a' := ?_) ?_ ?_
                                    rotate_left
                                    · show Act.put _ (some 22) _ = _
                                      simp only [Act.put, List.setIfInBounds_toArray, List.set_cons_zero, List.set_cons_succ, i64_w, i32_w]
                                      rfl
                                    exact norm_ (by first | (simp only [putAll, Act.put, List.setIfInBounds_toArray, List.set_cons_zero, List.set_cons_succ]; done) | (simp only [putAll, Act.put, List.setIfInBounds_toArray, List.set_cons_zero, List.set_cons_succ]; rfl)) (hJ6_7_20 (.slice Ao18 y132.length co18, v136, v147) _ ⟨hHeld, (by (with_reducible repeat (first | apply Kd.R_alloc | apply Kd.R_drewN | apply Kd.R_drew)); exact Kd.R_mono HO134.out (fun _ hk => ⟨hk.2, hk.1⟩)), (by (with_reducible repeat (first | apply Kd.R_alloc | apply Kd.R_drewN | apply Kd.R_drew)); exact HO137.out), (by (with_reducible repeat (first | apply Kd.R_alloc | apply Kd.R_drewN | apply Kd.R_drew)); exact HO148.out), (by repeat (first | (with_reducible first | exact HB.out | apply below_alloc | apply pw_below_drewN | apply below_drew1) | exact HB.out))⟩)
                                  · skip
                                    refine Kd.R_lit_step (Kd.int .i64) _ 3 ?hg (N := 28) ?hd (xs := ([(rd_T39 l1 x6_1).f4] : List Int)) (inner := [.int .i64 ((rd_T39 l1 x6_1).f4)]) (ok := fun _ => True) (okp := fun _ => True) ?hr ?hp (fun _ hk => hk) trivial (Below.refl _ _) (Nat.le_refl _) (by simp) ?_; (case hd => rfl); (case hg => rfl); (case hr => first | (go_simp; done) | (go_simp; rfl)); (case hp => exact (Reps.one (show Kd.M (Kd.int .i64) _ _ _ ((rd_T39 l1 x6_1).f4) [.int .i64 ((rd_T39 l1 x6_1).f4)] from rfl) (Reps.none _ _)))
                                    intro v140 w17 ho18 hb hg_ hnew_
                                    clear hg_ hnew_
                                    (first | rw [← Ny139.out] at ho18 | (simp only [Int.reduceToNat] at ho18; rw [← Ny139.out] at ho18))
                                    have n0_ := Aside0.mk (Kd.R_elder' (by (with_reducible repeat (first | apply Kd.R_alloc | apply Kd.R_drewN | apply Kd.R_drew)); exact HO_5.out) (Kd.R_base ho18) hb)
                                    have n1_ := Aside0.mk (Kd.R_elder' (by (with_reducible repeat (first | apply Kd.R_alloc | apply Kd.R_drewN | apply Kd.R_drew)); exact HO134.out) (Kd.R_base ho18) hb)
                                    have n2_ := Aside0.mk (Kd.R_elder' (by (with_reducible repeat (first | apply Kd.R_alloc | apply Kd.R_drewN | apply Kd.R_drew)); exact HO148.out) (Kd.R_base ho18) hb)
                                    have n3_ := Aside0.mk (Kd.R_lower (Kd.R_new' (Kd.R_new' (Kd.R_new' ho18 (Kd.R_lt (by (with_reducible repeat (first | apply Kd.R_alloc | apply Kd.R_drewN | apply Kd.R_drew)); exact HO_5.out))) (Kd.R_lt (by (with_reducible repeat (first | apply Kd.R_alloc | apply Kd.R_drewN | apply Kd.R_drew)); exact HO134.out))) (Kd.R_lt (by (with_reducible repeat (first | apply Kd.R_alloc | apply Kd.R_drewN | apply Kd.R_drew)); exact HO148.out))) (below_size (by repeat (first | (with_reducible first | exact HB.out | apply below_alloc | apply pw_below_drewN | apply below_drew1) | exact HB.out))))
                                    have n4_ := Aside0.mk (below_step (by repeat (first | (with_reducible first | exact HB.out | apply below_alloc | apply pw_below_drewN | apply below_drew1) | exact HB.out)) hb)
                                    clear HO_5
                                    clear HO134
                                    clear HO148
                                    clear HB
                                    have HO_5 := n0_
                                    have HO134 := n1_
                                    have HO148 := n2_
                                    have HO141 := n3_
                                    have HB := n4_
                                    clear n0_ n1_ n2_ n3_ n4_
                                    clear hb ho18
                                    refine hK.out _ _ ⟨((HB.out.cell (World.block_lt_of_cell? w _ hw131_0)).trans hw131_0), ((HB.out.cell (World.block_lt_of_cell? w _ hw131_1)).trans hw131_1), ((HB.out.cell (World.block_lt_of_cell? w _ hw131_2)).trans hw131_2), ((HB.out.cell (World.block_lt_of_cell? w _ hw131_3)).trans hw131_3), ((HB.out.cell (World.block_lt_of_cell? w _ hw131_4)).trans hw131_4), ((HB.out.cell (World.block_lt_of_cell? w _ hw131_5)).trans hw131_5), ((HB.out.cell (World.block_lt_of_cell? w _ hw138_0)).trans hw138_0), ((HB.out.cell (World.block_lt_of_cell? w _ hw138_1)).trans hw138_1), ((HB.out.cell (World.block_lt_of_cell? w _ hw138_2)).trans hw138_2), ((HB.out.cell (World.block_lt_of_cell? w _ hw138_3)).trans hw138_3), ((HB.out.cell (World.block_lt_of_cell? w _ hw138_4)).trans hw138_4), ((HB.out.cell (World.block_lt_of_cell? w _ hw138_5)).trans hw138_5), ((HB.out.cell (World.block_lt_of_cell? w _ hw145_0)).trans hw145_0), ((HB.out.cell (World.block_lt_of_cell? w _ hw145_1)).trans hw145_1), ((HB.out.cell (World.block_lt_of_cell? w _ hw145_2)).trans hw145_2), ((HB.out.cell (World.block_lt_of_cell? w _ hw145_3)).trans hw145_3), ((HB.out.cell (World.block_lt_of_cell? w _ hw145_4)).trans hw145_4), ((HB.out.cell (World.block_lt_of_cell? w _ hw145_5)).trans hw145_5)⟩ (fun hHeld => ?_)
                                    clear hK K
                                    refine norm_ (a' := ?_) ?_ ?_
                                    rotate_left
                                    · show Act.put _ (some 28) _ = _
                                      simp only [Act.put, List.setIfInBounds_toArray, List.set_cons_zero, List.set_cons_succ, i64_w, i32_w]
                                      rfl
                                    exact norm_ (by first | (simp only [putAll, Act.put, List.setIfInBounds_toArray, List.set_cons_zero, List.set_cons_succ]; done) | (simp only [putAll, Act.put, List.setIfInBounds_toArray, List.set_cons_zero, List.set_cons_succ]; rfl)) (hJ6_13_20 (_, _, _) _ ⟨hHeld, (by (with_reducible repeat (first | apply Kd.R_alloc | apply Kd.R_drewN | apply Kd.R_drew)); exact Kd.R_mono HO134.out (fun _ hk => ⟨hk.2, ⟨hk.1.1, hk.1.2⟩⟩)), (by (with_reducible repeat (first | apply Kd.R_alloc | apply Kd.R_drewN | apply Kd.R_drew)); exact Kd.R_mono HO141.out (fun _ hk => ⟨hk.1.2, ⟨hk.2, hk.1.1.2⟩⟩)), (by (with_reducible repeat (first | apply Kd.R_alloc | apply Kd.R_drewN | apply Kd.R_drew)); exact Kd.R_mono HO148.out (fun _ hk => ⟨hk.1.1, ⟨hk.2, hk.1.2⟩⟩)), (by (with_reducible repeat (first | apply Kd.R_alloc | apply Kd.R_drewN | apply Kd.R_drew)); exact Kd.R_mono HO_5.out (fun _ hk => ⟨hk.1.1, ⟨hk.2, hk.1.2⟩⟩)), (by repeat (first | (with_reducible first | exact HB.out | apply below_alloc | apply pw_below_drewN | apply below_drew1) | exact HB.out))⟩)
                              · skip
                                rintro ⟨v133, v140⟩ w16 ⟨hS_, h0_, h1_, h2_, h3_⟩
                                have n0_ : Aside0 (Kd.R (Kd.int .i64) 3 w16 w.heap.size (fun k_ => some k_ ≠ (v140 : Value).ownBlock ∧ some k_ ≠ (.slice Ao10 x5_1.length co10 : Value).ownBlock) v133 y132) := ⟨h0_⟩
                                have n1_ : Aside0 (Kd.R (Kd.int .i64) 3 w16 w.heap.size (fun k_ => some k_ ≠ (v133 : Value).ownBlock ∧ some k_ ≠ (.slice Ao10 x5_1.length co10 : Value).ownBlock) v140 y139) := ⟨h1_⟩
                                have n2_ : Aside0 (Kd.R (Kd.int .i64) 3 w16 w.heap.size (fun k_ => some k_ ≠ (v133 : Value).ownBlock ∧ some k_ ≠ (v140 : Value).ownBlock) (.slice Ao10 x5_1.length co10) x5_1) := ⟨h2_⟩
                                have n3_ : Aside0 (Below w.heap.size w w16) := ⟨h3_⟩
                                clear HO_5
                                clear HB
                                clear h0_ h1_ h2_ h3_
                                have HO134 := n0_
                                have HO141 := n1_
                                have HO_5 := n2_
                                have HB := n3_
                                clear n0_ n1_ n2_ n3_
                                have hHeld : w16.cell? (ad131.add ((x6_1).toNat * 6)) = some (.int .i64 ((rd_T39 l1 x6_1).f0)) ∧ w16.cell? ⟨(ad131.add ((x6_1).toNat * 6)).block, (ad131.add ((x6_1).toNat * 6)).off + 1, none⟩ = some (.int .i64 ((rd_T39 l1 x6_1).f1)) ∧ w16.cell? ⟨(ad131.add ((x6_1).toNat * 6)).block, (ad131.add ((x6_1).toNat * 6)).off + 2, none⟩ = some (.int .i64 ((rd_T39 l1 x6_1).f2)) ∧ w16.cell? ⟨(ad131.add ((x6_1).toNat * 6)).block, (ad131.add ((x6_1).toNat * 6)).off + 3, none⟩ = some (.int .i64 ((rd_T39 l1 x6_1).f3)) ∧ w16.cell? ⟨(ad131.add ((x6_1).toNat * 6)).block, (ad131.add ((x6_1).toNat * 6)).off + 4, none⟩ = some (.int .i64 ((rd_T39 l1 x6_1).f4)) ∧ w16.cell? ⟨(ad131.add ((x6_1).toNat * 6)).block, (ad131.add ((x6_1).toNat * 6)).off + 5, none⟩ = some (.int .i64 ((rd_T39 l1 x6_1).f5)) ∧ w16.cell? (ad131.add ((x6_1).toNat * 6)) = some (.int .i64 ((rd_T39 l1 x6_1).f0)) ∧ w16.cell? ⟨(ad131.add ((x6_1).toNat * 6)).block, (ad131.add ((x6_1).toNat * 6)).off + 1, none⟩ = some (.int .i64 ((rd_T39 l1 x6_1).f1)) ∧ w16.cell? ⟨(ad131.add ((x6_1).toNat * 6)).block, (ad131.add ((x6_1).toNat * 6)).off + 2, none⟩ = some (.int .i64 ((rd_T39 l1 x6_1).f2)) ∧ w16.cell? ⟨(ad131.add ((x6_1).toNat * 6)).block, (ad131.add ((x6_1).toNat * 6)).off + 3, none⟩ = some (.int .i64 ((rd_T39 l1 x6_1).f3)) ∧ w16.cell? ⟨(ad131.add ((x6_1).toNat * 6)).block, (ad131.add ((x6_1).toNat * 6)).off + 4, none⟩ = some (.int .i64 ((rd_T39 l1 x6_1).f4)) ∧ w16.cell? ⟨(ad131.add ((x6_1).toNat * 6)).block, (ad131.add ((x6_1).toNat * 6)).off + 5, none⟩ = some (.int .i64 ((rd_T39 l1 x6_1).f5)) ∧ w16.cell? (ad131.add ((x6_1).toNat * 6)) = some (.int .i64 ((rd_T39 l1 x6_1).f0)) ∧ w16.cell? ⟨(ad131.add ((x6_1).toNat * 6)).block, (ad131.add ((x6_1).toNat * 6)).off + 1, none⟩ = some (.int .i64 ((rd_T39 l1 x6_1).f1)) ∧ w16.cell? ⟨(ad131.add ((x6_1).toNat * 6)).block, (ad131.add ((x6_1).toNat * 6)).off + 2, none⟩ = some (.int .i64 ((rd_T39 l1 x6_1).f2)) ∧ w16.cell? ⟨(ad131.add ((x6_1).toNat * 6)).block, (ad131.add ((x6_1).toNat * 6)).off + 3, none⟩ = some (.int .i64 ((rd_T39 l1 x6_1).f3)) ∧ w16.cell? ⟨(ad131.add ((x6_1).toNat * 6)).block, (ad131.add ((x6_1).toNat * 6)).off + 4, none⟩ = some (.int .i64 ((rd_T39 l1 x6_1).f4)) ∧ w16.cell? ⟨(ad131.add ((x6_1).toNat * 6)).block, (ad131.add ((x6_1).toNat * 6)).off + 5, none⟩ = some (.int .i64 ((rd_T39 l1 x6_1).f5)) := hS_
                                obtain ⟨Ao18, co18, eo18⟩ := Kd.R_slice HO134.out
                                (first | subst eo18 | (injection eo18 with f1_ f2_ f3_; have f4_ := f1_.symm; have f5_ := f3_.symm; clear f1_ f2_ f3_; subst f4_; subst f5_))
                                refine norm_ (a' := ?_) ?_ ?_
                                rotate_left
                                · simp only [putAll, Act.put, List.setIfInBounds_toArray, List.set_cons_zero, List.set_cons_succ]
                                  rfl
                                refine two_ (i := 7) (j := 20) (Ni := some 22) (Nj := some 35) #[true, true, true, true, true, true, true, true, true, true, true, true, true, true, false, true, true, true, true, true, false, false, false] #[true, true, true, true, true, true, true, false, true, true, true, true, true, true, false, true, true, true, true, true, true, false, false] rfl rfl rfl rfl (two_of HT_.out (by kernel_rfl)) (by decide) (by decide) (fun K hK => ?_) (fun K hK => ?_)
                                · skip
                                  refine Kd.R_append_rows_step (Kd.int .i64) (w0 := w) w.heap.size (by rfl) (.tmp 15) (.tmp 21) 40 3 (.int .i64 0) 8 rfl Try.underlying40 info3 rfl (by decide) (by omega) (.slice Ao10 x5_1.length co10) x5_1 y132 _ _ _ (fun k_ => some k_ ≠ (.slice Ao18 y132.length co18 : Value).ownBlock ∧ some k_ ≠ (v140 : Value).ownBlock) (fun _ => False) rfl rfl ?aO ?aR (fun _ _ h => h) (fun _ h => h.elim) ?aF ?aB ?aS ?aL ?_
                                  (case aR => repeat (first | exact (Kd.R_reads' HO134.out).2.2 | (with_reducible refine Kd.C_alloc ?_ _) | (with_reducible refine Kd.C_drewN ?_ _) | (with_reducible refine Kd.C_drew ?_)))
                                  (case aB => exact (by repeat (first | (with_reducible first | exact HB.out | apply below_alloc | apply pw_below_drewN | apply below_drew1) | exact HB.out)))
                                  (case aF => exact (fun k_ hk => ⟨Kd.fresh' (Kd.R_lt (by (with_reducible repeat (first | apply Kd.R_alloc | apply Kd.R_drewN | apply Kd.R_drew)); exact HO134.out)) k_ hk, Kd.fresh' (Kd.R_lt (by (with_reducible repeat (first | apply Kd.R_alloc | apply Kd.R_drewN | apply Kd.R_drew)); exact HO141.out)) k_ hk⟩))
                                  (case aO => exact (by (with_reducible repeat (first | apply Kd.R_alloc | apply Kd.R_drewN | apply Kd.R_drew)); exact HO_5.out))
                                  (case aS => exact (below_size (by repeat (first | (with_reducible first | exact HB.out | apply below_alloc | apply pw_below_drewN | apply below_drew1) | exact HB.out))))
                                  (case aL => have := LMc7.out; omega)
                                  intro v136 w17 ho hb hg hat
                                  rw [← Ny135.out] at ho
                                  have n0_ := Aside0.mk (Kd.R_after (ok := (fun k_ => some k_ ≠ (v140 : Value).ownBlock)) (by (with_reducible repeat (first | apply Kd.R_alloc | apply Kd.R_drewN | apply Kd.R_drew)); exact HO134.out) hg hat)
                                  have n1_ := Aside0.mk (Kd.R_after (ok := (fun k_ => some k_ ≠ (.slice Ao18 y132.length co18 : Value).ownBlock)) (by (with_reducible repeat (first | apply Kd.R_alloc | apply Kd.R_drewN | apply Kd.R_drew)); exact HO141.out) hg hat)
                                  have n2_ := Aside0.mk (hb)
                                  have n3_ := Aside0.mk (ho)
                                  clear HO134
                                  clear HO141
                                  clear HB
                                  clear HO_5
                                  have HO134 := n0_
                                  have HO141 := n1_
                                  have HB := n2_
                                  have HO137 := n3_
                                  clear n0_ n1_ n2_ n3_
                                  clear ho hb hg hat
                                  refine hK.out _ _ ⟨((HB.out.cell (World.block_lt_of_cell? w _ hw131_0)).trans hw131_0), ((HB.out.cell (World.block_lt_of_cell? w _ hw131_1)).trans hw131_1), ((HB.out.cell (World.block_lt_of_cell? w _ hw131_2)).trans hw131_2), ((HB.out.cell (World.block_lt_of_cell? w _ hw131_3)).trans hw131_3), ((HB.out.cell (World.block_lt_of_cell? w _ hw131_4)).trans hw131_4), ((HB.out.cell (World.block_lt_of_cell? w _ hw131_5)).trans hw131_5), ((HB.out.cell (World.block_lt_of_cell? w _ hw138_0)).trans hw138_0), ((HB.out.cell (World.block_lt_of_cell? w _ hw138_1)).trans hw138_1), ((HB.out.cell (World.block_lt_of_cell? w _ hw138_2)).trans hw138_2), ((HB.out.cell (World.block_lt_of_cell? w _ hw138_3)).trans hw138_3), ((HB.out.cell (World.block_lt_of_cell? w _ hw138_4)).trans hw138_4), ((HB.out.cell (World.block_lt_of_cell? w _ hw138_5)).trans hw138_5), ((HB.out.cell (World.block_lt_of_cell? w _ hw145_0)).trans hw145_0), ((HB.out.cell (World.block_lt_of_cell? w _ hw145_1)).trans hw145_1), ((HB.out.cell (World.block_lt_of_cell? w _ hw145_2)).trans hw145_2), ((HB.out.cell (World.block_lt_of_cell? w _ hw145_3)).trans hw145_3), ((HB.out.cell (World.block_lt_of_cell? w _ hw145_4)).trans hw145_4), ((HB.out.cell (World.block_lt_of_cell? w _ hw145_5)).trans hw145_5)⟩ (fun hHeld => ?_)
                                  clear hK K
                                  refine norm_ (a' := ?_) ?_ ?_
                                  rotate_left
                                  · show Act.put _ (some 22) _ = _
                                    simp only [Act.put, List.setIfInBounds_toArray, List.set_cons_zero, List.set_cons_succ, i64_w, i32_w]
                                    rfl
                                  exact norm_ (by first | (simp only [putAll, Act.put, List.setIfInBounds_toArray, List.set_cons_zero, List.set_cons_succ]; done) | (simp only [putAll, Act.put, List.setIfInBounds_toArray, List.set_cons_zero, List.set_cons_succ]; rfl)) (hJ6_7_13 (.slice Ao18 y132.length co18, v136, v140) _ ⟨hHeld, (by (with_reducible repeat (first | apply Kd.R_alloc | apply Kd.R_drewN | apply Kd.R_drew)); exact Kd.R_mono HO134.out (fun _ hk => ⟨hk.2, hk.1⟩)), (by (with_reducible repeat (first | apply Kd.R_alloc | apply Kd.R_drewN | apply Kd.R_drew)); exact HO137.out), (by (with_reducible repeat (first | apply Kd.R_alloc | apply Kd.R_drewN | apply Kd.R_drew)); exact HO141.out), (by repeat (first | (with_reducible first | exact HB.out | apply below_alloc | apply pw_below_drewN | apply below_drew1) | exact HB.out))⟩)
                                · skip
                                  refine Kd.R_lit_step (Kd.int .i64) _ 3 ?hg (N := 35) ?hd (xs := ([(rd_T39 l1 x6_1).f5] : List Int)) (inner := [.int .i64 ((rd_T39 l1 x6_1).f5)]) (ok := fun _ => True) (okp := fun _ => True) ?hr ?hp (fun _ hk => hk) trivial (Below.refl _ _) (Nat.le_refl _) (by simp) ?_; (case hd => rfl); (case hg => rfl); (case hr => first | (go_simp; done) | (go_simp; rfl)); (case hp => exact (Reps.one (show Kd.M (Kd.int .i64) _ _ _ ((rd_T39 l1 x6_1).f5) [.int .i64 ((rd_T39 l1 x6_1).f5)] from rfl) (Reps.none _ _)))
                                  intro v147 w17 ho18 hb hg_ hnew_
                                  clear hg_ hnew_
                                  (first | rw [← Ny146.out] at ho18 | (simp only [Int.reduceToNat] at ho18; rw [← Ny146.out] at ho18))
                                  have n0_ := Aside0.mk (Kd.R_elder' (by (with_reducible repeat (first | apply Kd.R_alloc | apply Kd.R_drewN | apply Kd.R_drew)); exact HO_5.out) (Kd.R_base ho18) hb)
                                  have n1_ := Aside0.mk (Kd.R_elder' (by (with_reducible repeat (first | apply Kd.R_alloc | apply Kd.R_drewN | apply Kd.R_drew)); exact HO134.out) (Kd.R_base ho18) hb)
                                  have n2_ := Aside0.mk (Kd.R_elder' (by (with_reducible repeat (first | apply Kd.R_alloc | apply Kd.R_drewN | apply Kd.R_drew)); exact HO141.out) (Kd.R_base ho18) hb)
                                  have n3_ := Aside0.mk (Kd.R_lower (Kd.R_new' (Kd.R_new' (Kd.R_new' ho18 (Kd.R_lt (by (with_reducible repeat (first | apply Kd.R_alloc | apply Kd.R_drewN | apply Kd.R_drew)); exact HO_5.out))) (Kd.R_lt (by (with_reducible repeat (first | apply Kd.R_alloc | apply Kd.R_drewN | apply Kd.R_drew)); exact HO134.out))) (Kd.R_lt (by (with_reducible repeat (first | apply Kd.R_alloc | apply Kd.R_drewN | apply Kd.R_drew)); exact HO141.out))) (below_size (by repeat (first | (with_reducible first | exact HB.out | apply below_alloc | apply pw_below_drewN | apply below_drew1) | exact HB.out))))
                                  have n4_ := Aside0.mk (below_step (by repeat (first | (with_reducible first | exact HB.out | apply below_alloc | apply pw_below_drewN | apply below_drew1) | exact HB.out)) hb)
                                  clear HO_5
                                  clear HO134
                                  clear HO141
                                  clear HB
                                  have HO_5 := n0_
                                  have HO134 := n1_
                                  have HO141 := n2_
                                  have HO148 := n3_
                                  have HB := n4_
                                  clear n0_ n1_ n2_ n3_ n4_
                                  clear hb ho18
                                  refine hK.out _ _ ⟨((HB.out.cell (World.block_lt_of_cell? w _ hw131_0)).trans hw131_0), ((HB.out.cell (World.block_lt_of_cell? w _ hw131_1)).trans hw131_1), ((HB.out.cell (World.block_lt_of_cell? w _ hw131_2)).trans hw131_2), ((HB.out.cell (World.block_lt_of_cell? w _ hw131_3)).trans hw131_3), ((HB.out.cell (World.block_lt_of_cell? w _ hw131_4)).trans hw131_4), ((HB.out.cell (World.block_lt_of_cell? w _ hw131_5)).trans hw131_5), ((HB.out.cell (World.block_lt_of_cell? w _ hw138_0)).trans hw138_0), ((HB.out.cell (World.block_lt_of_cell? w _ hw138_1)).trans hw138_1), ((HB.out.cell (World.block_lt_of_cell? w _ hw138_2)).trans hw138_2), ((HB.out.cell (World.block_lt_of_cell? w _ hw138_3)).trans hw138_3), ((HB.out.cell (World.block_lt_of_cell? w _ hw138_4)).trans hw138_4), ((HB.out.cell (World.block_lt_of_cell? w _ hw138_5)).trans hw138_5), ((HB.out.cell (World.block_lt_of_cell? w _ hw145_0)).trans hw145_0), ((HB.out.cell (World.block_lt_of_cell? w _ hw145_1)).trans hw145_1), ((HB.out.cell (World.block_lt_of_cell? w _ hw145_2)).trans hw145_2), ((HB.out.cell (World.block_lt_of_cell? w _ hw145_3)).trans hw145_3), ((HB.out.cell (World.block_lt_of_cell? w _ hw145_4)).trans hw145_4), ((HB.out.cell (World.block_lt_of_cell? w _ hw145_5)).trans hw145_5)⟩ (fun hHeld => ?_)
                                  clear hK K
                                  refine norm_ (a' := ?_) ?_ ?_
                                  rotate_left
                                  · show Act.put _ (some 35) _ = _
                                    simp only [Act.put, List.setIfInBounds_toArray, List.set_cons_zero, List.set_cons_succ, i64_w, i32_w]
                                    rfl
                                  exact norm_ (by first | (simp only [putAll, Act.put, List.setIfInBounds_toArray, List.set_cons_zero, List.set_cons_succ]; done) | (simp only [putAll, Act.put, List.setIfInBounds_toArray, List.set_cons_zero, List.set_cons_succ]; rfl)) (hJ6_13_20 (_, _, _) _ ⟨hHeld, (by (with_reducible repeat (first | apply Kd.R_alloc | apply Kd.R_drewN | apply Kd.R_drew)); exact Kd.R_mono HO134.out (fun _ hk => ⟨hk.1.1, ⟨hk.2, hk.1.2⟩⟩)), (by (with_reducible repeat (first | apply Kd.R_alloc | apply Kd.R_drewN | apply Kd.R_drew)); exact Kd.R_mono HO141.out (fun _ hk => ⟨hk.1.1, ⟨hk.2, hk.1.2⟩⟩)), (by (with_reducible repeat (first | apply Kd.R_alloc | apply Kd.R_drewN | apply Kd.R_drew)); exact Kd.R_mono HO148.out (fun _ hk => ⟨hk.1.2, ⟨hk.2, hk.1.1.2⟩⟩)), (by (with_reducible repeat (first | apply Kd.R_alloc | apply Kd.R_drewN | apply Kd.R_drew)); exact Kd.R_mono HO_5.out (fun _ hk => ⟨hk.1.1, ⟨hk.1.2, hk.2⟩⟩)), (by repeat (first | (with_reducible first | exact HB.out | apply below_alloc | apply pw_below_drewN | apply below_drew1) | exact HB.out))⟩)
                            · skip
                              rintro ⟨v133, v136⟩ w16 ⟨hS_, h0_, h1_, h2_⟩
                              have n0_ : Aside0 (Kd.R (Kd.int .i64) 3 w16 w.heap.size (fun k_ => some k_ ≠ (v136 : Value).ownBlock) v133 y132) := ⟨h0_⟩
                              have n1_ : Aside0 (Kd.R (Kd.int .i64) 3 w16 w.heap.size (fun k_ => some k_ ≠ (v133 : Value).ownBlock) v136 y135) := ⟨h1_⟩
                              have n2_ : Aside0 (Below w.heap.size w w16) := ⟨h2_⟩
                              clear HO_5
                              clear HB
                              clear h0_ h1_ h2_
                              have HO134 := n0_
                              have HO137 := n1_
                              have HB := n2_
                              clear n0_ n1_ n2_
                              have hHeld : w16.cell? (ad131.add ((x6_1).toNat * 6)) = some (.int .i64 ((rd_T39 l1 x6_1).f0)) ∧ w16.cell? ⟨(ad131.add ((x6_1).toNat * 6)).block, (ad131.add ((x6_1).toNat * 6)).off + 1, none⟩ = some (.int .i64 ((rd_T39 l1 x6_1).f1)) ∧ w16.cell? ⟨(ad131.add ((x6_1).toNat * 6)).block, (ad131.add ((x6_1).toNat * 6)).off + 2, none⟩ = some (.int .i64 ((rd_T39 l1 x6_1).f2)) ∧ w16.cell? ⟨(ad131.add ((x6_1).toNat * 6)).block, (ad131.add ((x6_1).toNat * 6)).off + 3, none⟩ = some (.int .i64 ((rd_T39 l1 x6_1).f3)) ∧ w16.cell? ⟨(ad131.add ((x6_1).toNat * 6)).block, (ad131.add ((x6_1).toNat * 6)).off + 4, none⟩ = some (.int .i64 ((rd_T39 l1 x6_1).f4)) ∧ w16.cell? ⟨(ad131.add ((x6_1).toNat * 6)).block, (ad131.add ((x6_1).toNat * 6)).off + 5, none⟩ = some (.int .i64 ((rd_T39 l1 x6_1).f5)) ∧ w16.cell? (ad131.add ((x6_1).toNat * 6)) = some (.int .i64 ((rd_T39 l1 x6_1).f0)) ∧ w16.cell? ⟨(ad131.add ((x6_1).toNat * 6)).block, (ad131.add ((x6_1).toNat * 6)).off + 1, none⟩ = some (.int .i64 ((rd_T39 l1 x6_1).f1)) ∧ w16.cell? ⟨(ad131.add ((x6_1).toNat * 6)).block, (ad131.add ((x6_1).toNat * 6)).off + 2, none⟩ = some (.int .i64 ((rd_T39 l1 x6_1).f2)) ∧ w16.cell? ⟨(ad131.add ((x6_1).toNat * 6)).block, (ad131.add ((x6_1).toNat * 6)).off + 3, none⟩ = some (.int .i64 ((rd_T39 l1 x6_1).f3)) ∧ w16.cell? ⟨(ad131.add ((x6_1).toNat * 6)).block, (ad131.add ((x6_1).toNat * 6)).off + 4, none⟩ = some (.int .i64 ((rd_T39 l1 x6_1).f4)) ∧ w16.cell? ⟨(ad131.add ((x6_1).toNat * 6)).block, (ad131.add ((x6_1).toNat * 6)).off + 5, none⟩ = some (.int .i64 ((rd_T39 l1 x6_1).f5)) ∧ w16.cell? (ad131.add ((x6_1).toNat * 6)) = some (.int .i64 ((rd_T39 l1 x6_1).f0)) ∧ w16.cell? ⟨(ad131.add ((x6_1).toNat * 6)).block, (ad131.add ((x6_1).toNat * 6)).off + 1, none⟩ = some (.int .i64 ((rd_T39 l1 x6_1).f1)) ∧ w16.cell? ⟨(ad131.add ((x6_1).toNat * 6)).block, (ad131.add ((x6_1).toNat * 6)).off + 2, none⟩ = some (.int .i64 ((rd_T39 l1 x6_1).f2)) ∧ w16.cell? ⟨(ad131.add ((x6_1).toNat * 6)).block, (ad131.add ((x6_1).toNat * 6)).off + 3, none⟩ = some (.int .i64 ((rd_T39 l1 x6_1).f3)) ∧ w16.cell? ⟨(ad131.add ((x6_1).toNat * 6)).block, (ad131.add ((x6_1).toNat * 6)).off + 4, none⟩ = some (.int .i64 ((rd_T39 l1 x6_1).f4)) ∧ w16.cell? ⟨(ad131.add ((x6_1).toNat * 6)).block, (ad131.add ((x6_1).toNat * 6)).off + 5, none⟩ = some (.int .i64 ((rd_T39 l1 x6_1).f5)) := hS_
                              refine norm_ (a' := ?_) ?_ ?_
                              rotate_left
                              · simp only [putAll, Act.put, List.setIfInBounds_toArray, List.set_cons_zero, List.set_cons_succ]
                                rfl
                              refine two_ (i := 13) (j := 20) (Ni := some 28) (Nj := some 35) #[true, true, true, true, true, true, true, true, true, true, true, true, true, true, false, true, true, true, true, true, false, false, false] #[true, true, true, true, true, true, true, true, true, true, true, true, true, false, false, true, true, true, true, true, true, false, false] rfl rfl rfl rfl (two_of HT_.out (by kernel_rfl)) (by decide) (by decide) (fun K hK => ?_) (fun K hK => ?_)
                              · skip
                                refine Kd.R_lit_step (Kd.int .i64) _ 3 ?hg (N := 28) ?hd (xs := ([(rd_T39 l1 x6_1).f4] : List Int)) (inner := [.int .i64 ((rd_T39 l1 x6_1).f4)]) (ok := fun _ => True) (okp := fun _ => True) ?hr ?hp (fun _ hk => hk) trivial (Below.refl _ _) (Nat.le_refl _) (by simp) ?_; (case hd => rfl); (case hg => rfl); (case hr => first | (go_simp; done) | (go_simp; rfl)); (case hp => exact (Reps.one (show Kd.M (Kd.int .i64) _ _ _ ((rd_T39 l1 x6_1).f4) [.int .i64 ((rd_T39 l1 x6_1).f4)] from rfl) (Reps.none _ _)))
                                intro v140 w17 ho18 hb hg_ hnew_
                                clear hg_ hnew_
                                (first | rw [← Ny139.out] at ho18 | (simp only [Int.reduceToNat] at ho18; rw [← Ny139.out] at ho18))
                                have n0_ := Aside0.mk (Kd.R_elder' (by (with_reducible repeat (first | apply Kd.R_alloc | apply Kd.R_drewN | apply Kd.R_drew)); exact HO134.out) (Kd.R_base ho18) hb)
                                have n1_ := Aside0.mk (Kd.R_elder' (by (with_reducible repeat (first | apply Kd.R_alloc | apply Kd.R_drewN | apply Kd.R_drew)); exact HO137.out) (Kd.R_base ho18) hb)
                                have n2_ := Aside0.mk (Kd.R_lower (Kd.R_new' (Kd.R_new' ho18 (Kd.R_lt (by (with_reducible repeat (first | apply Kd.R_alloc | apply Kd.R_drewN | apply Kd.R_drew)); exact HO134.out))) (Kd.R_lt (by (with_reducible repeat (first | apply Kd.R_alloc | apply Kd.R_drewN | apply Kd.R_drew)); exact HO137.out))) (below_size (by repeat (first | (with_reducible first | exact HB.out | apply below_alloc | apply pw_below_drewN | apply below_drew1) | exact HB.out))))
                                have n3_ := Aside0.mk (below_step (by repeat (first | (with_reducible first | exact HB.out | apply below_alloc | apply pw_below_drewN | apply below_drew1) | exact HB.out)) hb)
                                clear HO134
                                clear HO137
                                clear HB
                                have HO134 := n0_
                                have HO137 := n1_
                                have HO141 := n2_
                                have HB := n3_
                                clear n0_ n1_ n2_ n3_
                                clear hb ho18
                                refine hK.out _ _ ⟨((HB.out.cell (World.block_lt_of_cell? w _ hw131_0)).trans hw131_0), ((HB.out.cell (World.block_lt_of_cell? w _ hw131_1)).trans hw131_1), ((HB.out.cell (World.block_lt_of_cell? w _ hw131_2)).trans hw131_2), ((HB.out.cell (World.block_lt_of_cell? w _ hw131_3)).trans hw131_3), ((HB.out.cell (World.block_lt_of_cell? w _ hw131_4)).trans hw131_4), ((HB.out.cell (World.block_lt_of_cell? w _ hw131_5)).trans hw131_5), ((HB.out.cell (World.block_lt_of_cell? w _ hw138_0)).trans hw138_0), ((HB.out.cell (World.block_lt_of_cell? w _ hw138_1)).trans hw138_1), ((HB.out.cell (World.block_lt_of_cell? w _ hw138_2)).trans hw138_2), ((HB.out.cell (World.block_lt_of_cell? w _ hw138_3)).trans hw138_3), ((HB.out.cell (World.block_lt_of_cell? w _ hw138_4)).trans hw138_4), ((HB.out.cell (World.block_lt_of_cell? w _ hw138_5)).trans hw138_5), ((HB.out.cell (World.block_lt_of_cell? w _ hw145_0)).trans hw145_0), ((HB.out.cell (World.block_lt_of_cell? w _ hw145_1)).trans hw145_1), ((HB.out.cell (World.block_lt_of_cell? w _ hw145_2)).trans hw145_2), ((HB.out.cell (World.block_lt_of_cell? w _ hw145_3)).trans hw145_3), ((HB.out.cell (World.block_lt_of_cell? w _ hw145_4)).trans hw145_4), ((HB.out.cell (World.block_lt_of_cell? w _ hw145_5)).trans hw145_5)⟩ (fun hHeld => ?_)
                                clear hK K
                                refine norm_ (a' := ?_) ?_ ?_
                                rotate_left
                                · show Act.put _ (some 28) _ = _
                                  simp only [Act.put, List.setIfInBounds_toArray, List.set_cons_zero, List.set_cons_succ, i64_w, i32_w]
                                  rfl
                                exact norm_ (by first | (simp only [putAll, Act.put, List.setIfInBounds_toArray, List.set_cons_zero, List.set_cons_succ]; done) | (simp only [putAll, Act.put, List.setIfInBounds_toArray, List.set_cons_zero, List.set_cons_succ]; rfl)) (hJ6_7_13 (_, _, _) _ ⟨hHeld, (by (with_reducible repeat (first | apply Kd.R_alloc | apply Kd.R_drewN | apply Kd.R_drew)); exact HO134.out), (by (with_reducible repeat (first | apply Kd.R_alloc | apply Kd.R_drewN | apply Kd.R_drew)); exact HO137.out), (by (with_reducible repeat (first | apply Kd.R_alloc | apply Kd.R_drewN | apply Kd.R_drew)); exact Kd.R_mono HO141.out (fun _ hk => ⟨hk.1.2, hk.2⟩)), (by repeat (first | (with_reducible first | exact HB.out | apply below_alloc | apply pw_below_drewN | apply below_drew1) | exact HB.out))⟩)
                              · skip
                                refine Kd.R_lit_step (Kd.int .i64) _ 3 ?hg (N := 35) ?hd (xs := ([(rd_T39 l1 x6_1).f5] : List Int)) (inner := [.int .i64 ((rd_T39 l1 x6_1).f5)]) (ok := fun _ => True) (okp := fun _ => True) ?hr ?hp (fun _ hk => hk) trivial (Below.refl _ _) (Nat.le_refl _) (by simp) ?_; (case hd => rfl); (case hg => rfl); (case hr => first | (go_simp; done) | (go_simp; rfl)); (case hp => exact (Reps.one (show Kd.M (Kd.int .i64) _ _ _ ((rd_T39 l1 x6_1).f5) [.int .i64 ((rd_T39 l1 x6_1).f5)] from rfl) (Reps.none _ _)))
                                intro v147 w17 ho18 hb hg_ hnew_
                                clear hg_ hnew_
                                (first | rw [← Ny146.out] at ho18 | (simp only [Int.reduceToNat] at ho18; rw [← Ny146.out] at ho18))
                                have n0_ := Aside0.mk (Kd.R_elder' (by (with_reducible repeat (first | apply Kd.R_alloc | apply Kd.R_drewN | apply Kd.R_drew)); exact HO134.out) (Kd.R_base ho18) hb)
                                have n1_ := Aside0.mk (Kd.R_elder' (by (with_reducible repeat (first | apply Kd.R_alloc | apply Kd.R_drewN | apply Kd.R_drew)); exact HO137.out) (Kd.R_base ho18) hb)
                                have n2_ := Aside0.mk (Kd.R_lower (Kd.R_new' (Kd.R_new' ho18 (Kd.R_lt (by (with_reducible repeat (first | apply Kd.R_alloc | apply Kd.R_drewN | apply Kd.R_drew)); exact HO134.out))) (Kd.R_lt (by (with_reducible repeat (first | apply Kd.R_alloc | apply Kd.R_drewN | apply Kd.R_drew)); exact HO137.out))) (below_size (by repeat (first | (with_reducible first | exact HB.out | apply below_alloc | apply pw_below_drewN | apply below_drew1) | exact HB.out))))
                                have n3_ := Aside0.mk (below_step (by repeat (first | (with_reducible first | exact HB.out | apply below_alloc | apply pw_below_drewN | apply below_drew1) | exact HB.out)) hb)
                                clear HO134
                                clear HO137
                                clear HB
                                have HO134 := n0_
                                have HO137 := n1_
                                have HO148 := n2_
                                have HB := n3_
                                clear n0_ n1_ n2_ n3_
                                clear hb ho18
                                refine hK.out _ _ ⟨((HB.out.cell (World.block_lt_of_cell? w _ hw131_0)).trans hw131_0), ((HB.out.cell (World.block_lt_of_cell? w _ hw131_1)).trans hw131_1), ((HB.out.cell (World.block_lt_of_cell? w _ hw131_2)).trans hw131_2), ((HB.out.cell (World.block_lt_of_cell? w _ hw131_3)).trans hw131_3), ((HB.out.cell (World.block_lt_of_cell? w _ hw131_4)).trans hw131_4), ((HB.out.cell (World.block_lt_of_cell? w _ hw131_5)).trans hw131_5), ((HB.out.cell (World.block_lt_of_cell? w _ hw138_0)).trans hw138_0), ((HB.out.cell (World.block_lt_of_cell? w _ hw138_1)).trans hw138_1), ((HB.out.cell (World.block_lt_of_cell? w _ hw138_2)).trans hw138_2), ((HB.out.cell (World.block_lt_of_cell? w _ hw138_3)).trans hw138_3), ((HB.out.cell (World.block_lt_of_cell? w _ hw138_4)).trans hw138_4), ((HB.out.cell (World.block_lt_of_cell? w _ hw138_5)).trans hw138_5), ((HB.out.cell (World.block_lt_of_cell? w _ hw145_0)).trans hw145_0), ((HB.out.cell (World.block_lt_of_cell? w _ hw145_1)).trans hw145_1), ((HB.out.cell (World.block_lt_of_cell? w _ hw145_2)).trans hw145_2), ((HB.out.cell (World.block_lt_of_cell? w _ hw145_3)).trans hw145_3), ((HB.out.cell (World.block_lt_of_cell? w _ hw145_4)).trans hw145_4), ((HB.out.cell (World.block_lt_of_cell? w _ hw145_5)).trans hw145_5)⟩ (fun hHeld => ?_)
                                clear hK K
                                refine norm_ (a' := ?_) ?_ ?_
                                rotate_left
                                · show Act.put _ (some 35) _ = _
                                  simp only [Act.put, List.setIfInBounds_toArray, List.set_cons_zero, List.set_cons_succ, i64_w, i32_w]
                                  rfl
                                exact norm_ (by first | (simp only [putAll, Act.put, List.setIfInBounds_toArray, List.set_cons_zero, List.set_cons_succ]; done) | (simp only [putAll, Act.put, List.setIfInBounds_toArray, List.set_cons_zero, List.set_cons_succ]; rfl)) (hJ6_7_20 (_, _, _) _ ⟨hHeld, (by (with_reducible repeat (first | apply Kd.R_alloc | apply Kd.R_drewN | apply Kd.R_drew)); exact HO134.out), (by (with_reducible repeat (first | apply Kd.R_alloc | apply Kd.R_drewN | apply Kd.R_drew)); exact HO137.out), (by (with_reducible repeat (first | apply Kd.R_alloc | apply Kd.R_drewN | apply Kd.R_drew)); exact Kd.R_mono HO148.out (fun _ hk => ⟨hk.1.2, hk.2⟩)), (by repeat (first | (with_reducible first | exact HB.out | apply below_alloc | apply pw_below_drewN | apply below_drew1) | exact HB.out))⟩)
                          · skip
                            rintro ⟨v133, v140, v147⟩ w18 ⟨hS_, h0_, h1_, h2_, h3_, h4_⟩
                            have n0_ : Aside0 (Kd.R (Kd.int .i64) 3 w18 w.heap.size (fun k_ => some k_ ≠ (v140 : Value).ownBlock ∧ some k_ ≠ (v147 : Value).ownBlock ∧ some k_ ≠ (.slice Ao10 x5_1.length co10 : Value).ownBlock) v133 y132) := ⟨h0_⟩
                            have n1_ : Aside0 (Kd.R (Kd.int .i64) 3 w18 w.heap.size (fun k_ => some k_ ≠ (v133 : Value).ownBlock ∧ some k_ ≠ (v147 : Value).ownBlock ∧ some k_ ≠ (.slice Ao10 x5_1.length co10 : Value).ownBlock) v140 y139) := ⟨h1_⟩
                            have n2_ : Aside0 (Kd.R (Kd.int .i64) 3 w18 w.heap.size (fun k_ => some k_ ≠ (v133 : Value).ownBlock ∧ some k_ ≠ (v140 : Value).ownBlock ∧ some k_ ≠ (.slice Ao10 x5_1.length co10 : Value).ownBlock) v147 y146) := ⟨h2_⟩
                            have n3_ : Aside0 (Kd.R (Kd.int .i64) 3 w18 w.heap.size (fun k_ => some k_ ≠ (v133 : Value).ownBlock ∧ some k_ ≠ (v140 : Value).ownBlock ∧ some k_ ≠ (v147 : Value).ownBlock) (.slice Ao10 x5_1.length co10) x5_1) := ⟨h3_⟩
                            have n4_ : Aside0 (Below w.heap.size w w18) := ⟨h4_⟩
                            clear HO_5
                            clear HB
                            clear h0_ h1_ h2_ h3_ h4_
                            have HO134 := n0_
                            have HO141 := n1_
                            have HO148 := n2_
                            have HO_5 := n3_
                            have HB := n4_
                            clear n0_ n1_ n2_ n3_ n4_
                            have hHeld : w18.cell? (ad131.add ((x6_1).toNat * 6)) = some (.int .i64 ((rd_T39 l1 x6_1).f0)) ∧ w18.cell? ⟨(ad131.add ((x6_1).toNat * 6)).block, (ad131.add ((x6_1).toNat * 6)).off + 1, none⟩ = some (.int .i64 ((rd_T39 l1 x6_1).f1)) ∧ w18.cell? ⟨(ad131.add ((x6_1).toNat * 6)).block, (ad131.add ((x6_1).toNat * 6)).off + 2, none⟩ = some (.int .i64 ((rd_T39 l1 x6_1).f2)) ∧ w18.cell? ⟨(ad131.add ((x6_1).toNat * 6)).block, (ad131.add ((x6_1).toNat * 6)).off + 3, none⟩ = some (.int .i64 ((rd_T39 l1 x6_1).f3)) ∧ w18.cell? ⟨(ad131.add ((x6_1).toNat * 6)).block, (ad131.add ((x6_1).toNat * 6)).off + 4, none⟩ = some (.int .i64 ((rd_T39 l1 x6_1).f4)) ∧ w18.cell? ⟨(ad131.add ((x6_1).toNat * 6)).block, (ad131.add ((x6_1).toNat * 6)).off + 5, none⟩ = some (.int .i64 ((rd_T39 l1 x6_1).f5)) ∧ w18.cell? (ad131.add ((x6_1).toNat * 6)) = some (.int .i64 ((rd_T39 l1 x6_1).f0)) ∧ w18.cell? ⟨(ad131.add ((x6_1).toNat * 6)).block, (ad131.add ((x6_1).toNat * 6)).off + 1, none⟩ = some (.int .i64 ((rd_T39 l1 x6_1).f1)) ∧ w18.cell? ⟨(ad131.add ((x6_1).toNat * 6)).block, (ad131.add ((x6_1).toNat * 6)).off + 2, none⟩ = some (.int .i64 ((rd_T39 l1 x6_1).f2)) ∧ w18.cell? ⟨(ad131.add ((x6_1).toNat * 6)).block, (ad131.add ((x6_1).toNat * 6)).off + 3, none⟩ = some (.int .i64 ((rd_T39 l1 x6_1).f3)) ∧ w18.cell? ⟨(ad131.add ((x6_1).toNat * 6)).block, (ad131.add ((x6_1).toNat * 6)).off + 4, none⟩ = some (.int .i64 ((rd_T39 l1 x6_1).f4)) ∧ w18.cell? ⟨(ad131.add ((x6_1).toNat * 6)).block, (ad131.add ((x6_1).toNat * 6)).off + 5, none⟩ = some (.int .i64 ((rd_T39 l1 x6_1).f5)) ∧ w18.cell? (ad131.add ((x6_1).toNat * 6)) = some (.int .i64 ((rd_T39 l1 x6_1).f0)) ∧ w18.cell? ⟨(ad131.add ((x6_1).toNat * 6)).block, (ad131.add ((x6_1).toNat * 6)).off + 1, none⟩ = some (.int .i64 ((rd_T39 l1 x6_1).f1)) ∧ w18.cell? ⟨(ad131.add ((x6_1).toNat * 6)).block, (ad131.add ((x6_1).toNat * 6)).off + 2, none⟩ = some (.int .i64 ((rd_T39 l1 x6_1).f2)) ∧ w18.cell? ⟨(ad131.add ((x6_1).toNat * 6)).block, (ad131.add ((x6_1).toNat * 6)).off + 3, none⟩ = some (.int .i64 ((rd_T39 l1 x6_1).f3)) ∧ w18.cell? ⟨(ad131.add ((x6_1).toNat * 6)).block, (ad131.add ((x6_1).toNat * 6)).off + 4, none⟩ = some (.int .i64 ((rd_T39 l1 x6_1).f4)) ∧ w18.cell? ⟨(ad131.add ((x6_1).toNat * 6)).block, (ad131.add ((x6_1).toNat * 6)).off + 5, none⟩ = some (.int .i64 ((rd_T39 l1 x6_1).f5)) := hS_
                            obtain ⟨Ao20, co20, eo20⟩ := Kd.R_slice HO134.out
                            (first | subst eo20 | (injection eo20 with f1_ f2_ f3_; have f4_ := f1_.symm; have f5_ := f3_.symm; clear f1_ f2_ f3_; subst f4_; subst f5_))
                            refine norm_ (a' := ?_) ?_ ?_
                            rotate_left
                            · simp only [putAll, Act.put, List.setIfInBounds_toArray, List.set_cons_zero, List.set_cons_succ]
                              rfl
                            refine one_ (i := 7) (N := some 22) #[true, true, true, true, true, true, true, true, true, true, true, true, true, true, false, true, true, true, true, true, true, false, false] rfl rfl (one_of HT_.out (by kernel_rfl)) (by decide) (fun K hK => ?_)
                            refine Kd.R_append_rows_step (Kd.int .i64) (w0 := w) w.heap.size (by rfl) (.tmp 15) (.tmp 21) 40 3 (.int .i64 0) 8 rfl Try.underlying40 info3 rfl (by decide) (by omega) (.slice Ao10 x5_1.length co10) x5_1 y132 _ _ _ (fun k_ => some k_ ≠ (.slice Ao20 y132.length co20 : Value).ownBlock ∧ some k_ ≠ (v140 : Value).ownBlock ∧ some k_ ≠ (v147 : Value).ownBlock) (fun _ => False) rfl rfl ?aO ?aR (fun _ _ h => h) (fun _ h => h.elim) ?aF ?aB ?aS ?aL ?_
                            (case aR => repeat (first | exact (Kd.R_reads' HO134.out).2.2 | (with_reducible refine Kd.C_alloc ?_ _) | (with_reducible refine Kd.C_drewN ?_ _) | (with_reducible refine Kd.C_drew ?_)))
                            (case aB => exact (by repeat (first | (with_reducible first | exact HB.out | apply below_alloc | apply pw_below_drewN | apply below_drew1) | exact HB.out)))
                            (case aF => exact (fun k_ hk => ⟨Kd.fresh' (Kd.R_lt (by (with_reducible repeat (first | apply Kd.R_alloc | apply Kd.R_drewN | apply Kd.R_drew)); exact HO134.out)) k_ hk, Kd.fresh' (Kd.R_lt (by (with_reducible repeat (first | apply Kd.R_alloc | apply Kd.R_drewN | apply Kd.R_drew)); exact HO141.out)) k_ hk, Kd.fresh' (Kd.R_lt (by (with_reducible repeat (first | apply Kd.R_alloc | apply Kd.R_drewN | apply Kd.R_drew)); exact HO148.out)) k_ hk⟩))
                            (case aO => exact (by (with_reducible repeat (first | apply Kd.R_alloc | apply Kd.R_drewN | apply Kd.R_drew)); exact HO_5.out))
                            (case aS => exact (below_size (by repeat (first | (with_reducible first | exact HB.out | apply below_alloc | apply pw_below_drewN | apply below_drew1) | exact HB.out))))
                            (case aL => have := LMc7.out; omega)
                            intro v136 w19 ho hb hg hat
                            rw [← Ny135.out] at ho
                            have n0_ := Aside0.mk (Kd.R_after (ok := (fun k_ => some k_ ≠ (v140 : Value).ownBlock ∧ some k_ ≠ (v147 : Value).ownBlock)) (by (with_reducible repeat (first | apply Kd.R_alloc | apply Kd.R_drewN | apply Kd.R_drew)); exact Kd.R_mono HO134.out (fun _ hk => ⟨⟨hk.1, hk.2.1⟩, hk.2.2⟩)) hg hat)
                            have n1_ := Aside0.mk (Kd.R_after (ok := (fun k_ => some k_ ≠ (.slice Ao20 y132.length co20 : Value).ownBlock ∧ some k_ ≠ (v147 : Value).ownBlock)) (by (with_reducible repeat (first | apply Kd.R_alloc | apply Kd.R_drewN | apply Kd.R_drew)); exact Kd.R_mono HO141.out (fun _ hk => ⟨⟨hk.1, hk.2.1⟩, hk.2.2⟩)) hg hat)
                            have n2_ := Aside0.mk (Kd.R_after (ok := (fun k_ => some k_ ≠ (.slice Ao20 y132.length co20 : Value).ownBlock ∧ some k_ ≠ (v140 : Value).ownBlock)) (by (with_reducible repeat (first | apply Kd.R_alloc | apply Kd.R_drewN | apply Kd.R_drew)); exact Kd.R_mono HO148.out (fun _ hk => ⟨⟨hk.1, hk.2.1⟩, hk.2.2⟩)) hg hat)
                            have n3_ := Aside0.mk (hb)
                            have n4_ := Aside0.mk (ho)
                            clear HO134
                            clear HO141
                            clear HO148
                            clear HB
                            clear HO_5
                            have HO134 := n0_
                            have HO141 := n1_
                            have HO148 := n2_
                            have HB := n3_
                            have HO137 := n4_
                            clear n0_ n1_ n2_ n3_ n4_
                            clear ho hb hg hat
                            refine hK.out _ _ ⟨((HB.out.cell (World.block_lt_of_cell? w _ hw131_0)).trans hw131_0), ((HB.out.cell (World.block_lt_of_cell? w _ hw131_1)).trans hw131_1), ((HB.out.cell (World.block_lt_of_cell? w _ hw131_2)).trans hw131_2), ((HB.out.cell (World.block_lt_of_cell? w _ hw131_3)).trans hw131_3), ((HB.out.cell (World.block_lt_of_cell? w _ hw131_4)).trans hw131_4), ((HB.out.cell (World.block_lt_of_cell? w _ hw131_5)).trans hw131_5), ((HB.out.cell (World.block_lt_of_cell? w _ hw138_0)).trans hw138_0), ((HB.out.cell (World.block_lt_of_cell? w _ hw138_1)).trans hw138_1), ((HB.out.cell (World.block_lt_of_cell? w _ hw138_2)).trans hw138_2), ((HB.out.cell (World.block_lt_of_cell? w _ hw138_3)).trans hw138_3), ((HB.out.cell (World.block_lt_of_cell? w _ hw138_4)).trans hw138_4), ((HB.out.cell (World.block_lt_of_cell? w _ hw138_5)).trans hw138_5), ((HB.out.cell (World.block_lt_of_cell? w _ hw145_0)).trans hw145_0), ((HB.out.cell (World.block_lt_of_cell? w _ hw145_1)).trans hw145_1), ((HB.out.cell (World.block_lt_of_cell? w _ hw145_2)).trans hw145_2), ((HB.out.cell (World.block_lt_of_cell? w _ hw145_3)).trans hw145_3), ((HB.out.cell (World.block_lt_of_cell? w _ hw145_4)).trans hw145_4), ((HB.out.cell (World.block_lt_of_cell? w _ hw145_5)).trans hw145_5)⟩ (fun hHeld => ?_)
                            clear hK K
                            refine norm_ (a' := ?_) ?_ ?_
                            rotate_left
                            · show Act.put _ (some 22) _ = _
                              simp only [Act.put, List.setIfInBounds_toArray, List.set_cons_zero, List.set_cons_succ, i64_w, i32_w]
                              rfl
                            exact norm_ (by first | (simp only [putAll, Act.put, List.setIfInBounds_toArray, List.set_cons_zero, List.set_cons_succ]; done) | (simp only [putAll, Act.put, List.setIfInBounds_toArray, List.set_cons_zero, List.set_cons_succ]; rfl)) (hJ6_7_13_20 (.slice Ao20 y132.length co20, v136, v140, v147) _ ⟨hHeld, (by (with_reducible repeat (first | apply Kd.R_alloc | apply Kd.R_drewN | apply Kd.R_drew)); exact Kd.R_mono HO134.out (fun _ hk => ⟨hk.2, ⟨hk.1.1, hk.1.2⟩⟩)), (by (with_reducible repeat (first | apply Kd.R_alloc | apply Kd.R_drewN | apply Kd.R_drew)); exact HO137.out), (by (with_reducible repeat (first | apply Kd.R_alloc | apply Kd.R_drewN | apply Kd.R_drew)); exact Kd.R_mono HO141.out (fun _ hk => ⟨hk.1.1, ⟨hk.2, hk.1.2⟩⟩)), (by (with_reducible repeat (first | apply Kd.R_alloc | apply Kd.R_drewN | apply Kd.R_drew)); exact Kd.R_mono HO148.out (fun _ hk => ⟨hk.1.1, ⟨hk.2, hk.1.2⟩⟩)), (by repeat (first | (with_reducible first | exact HB.out | apply below_alloc | apply pw_below_drewN | apply below_drew1) | exact HB.out))⟩)
                        · skip
                          rintro ⟨v133, v136, v147⟩ w18 ⟨hS_, h0_, h1_, h2_, h3_⟩
                          have n0_ : Aside0 (Kd.R (Kd.int .i64) 3 w18 w.heap.size (fun k_ => some k_ ≠ (v136 : Value).ownBlock ∧ some k_ ≠ (v147 : Value).ownBlock) v133 y132) := ⟨h0_⟩
                          have n1_ : Aside0 (Kd.R (Kd.int .i64) 3 w18 w.heap.size (fun k_ => some k_ ≠ (v133 : Value).ownBlock ∧ some k_ ≠ (v147 : Value).ownBlock) v136 y135) := ⟨h1_⟩
                          have n2_ : Aside0 (Kd.R (Kd.int .i64) 3 w18 w.heap.size (fun k_ => some k_ ≠ (v133 : Value).ownBlock ∧ some k_ ≠ (v136 : Value).ownBlock) v147 y146) := ⟨h2_⟩
                          have n3_ : Aside0 (Below w.heap.size w w18) := ⟨h3_⟩
                          clear HO_5
                          clear HB
                          clear h0_ h1_ h2_ h3_
                          have HO134 := n0_
                          have HO137 := n1_
                          have HO148 := n2_
                          have HB := n3_
                          clear n0_ n1_ n2_ n3_
                          have hHeld : w18.cell? (ad131.add ((x6_1).toNat * 6)) = some (.int .i64 ((rd_T39 l1 x6_1).f0)) ∧ w18.cell? ⟨(ad131.add ((x6_1).toNat * 6)).block, (ad131.add ((x6_1).toNat * 6)).off + 1, none⟩ = some (.int .i64 ((rd_T39 l1 x6_1).f1)) ∧ w18.cell? ⟨(ad131.add ((x6_1).toNat * 6)).block, (ad131.add ((x6_1).toNat * 6)).off + 2, none⟩ = some (.int .i64 ((rd_T39 l1 x6_1).f2)) ∧ w18.cell? ⟨(ad131.add ((x6_1).toNat * 6)).block, (ad131.add ((x6_1).toNat * 6)).off + 3, none⟩ = some (.int .i64 ((rd_T39 l1 x6_1).f3)) ∧ w18.cell? ⟨(ad131.add ((x6_1).toNat * 6)).block, (ad131.add ((x6_1).toNat * 6)).off + 4, none⟩ = some (.int .i64 ((rd_T39 l1 x6_1).f4)) ∧ w18.cell? ⟨(ad131.add ((x6_1).toNat * 6)).block, (ad131.add ((x6_1).toNat * 6)).off + 5, none⟩ = some (.int .i64 ((rd_T39 l1 x6_1).f5)) ∧ w18.cell? (ad131.add ((x6_1).toNat * 6)) = some (.int .i64 ((rd_T39 l1 x6_1).f0)) ∧ w18.cell? ⟨(ad131.add ((x6_1).toNat * 6)).block, (ad131.add ((x6_1).toNat * 6)).off + 1, none⟩ = some (.int .i64 ((rd_T39 l1 x6_1).f1)) ∧ w18.cell? ⟨(ad131.add ((x6_1).toNat * 6)).block, (ad131.add ((x6_1).toNat * 6)).off + 2, none⟩ = some (.int .i64 ((rd_T39 l1 x6_1).f2)) ∧ w18.cell? ⟨(ad131.add ((x6_1).toNat * 6)).block, (ad131.add ((x6_1).toNat * 6)).off + 3, none⟩ = some (.int .i64 ((rd_T39 l1 x6_1).f3)) ∧ w18.cell? ⟨(ad131.add ((x6_1).toNat * 6)).block, (ad131.add ((x6_1).toNat * 6)).off + 4, none⟩ = some (.int .i64 ((rd_T39 l1 x6_1).f4)) ∧ w18.cell? ⟨(ad131.add ((x6_1).toNat * 6)).block, (ad131.add ((x6_1).toNat * 6)).off + 5, none⟩ = some (.int .i64 ((rd_T39 l1 x6_1).f5)) ∧ w18.cell? (ad131.add ((x6_1).toNat * 6)) = some (.int .i64 ((rd_T39 l1 x6_1).f0)) ∧ w18.cell? ⟨(ad131.add ((x6_1).toNat * 6)).block, (ad131.add ((x6_1).toNat * 6)).off + 1, none⟩ = some (.int .i64 ((rd_T39 l1 x6_1).f1)) ∧ w18.cell? ⟨(ad131.add ((x6_1).toNat * 6)).block, (ad131.add ((x6_1).toNat * 6)).off + 2, none⟩ = some (.int .i64 ((rd_T39 l1 x6_1).f2)) ∧ w18.cell? ⟨(ad131.add ((x6_1).toNat * 6)).block, (ad131.add ((x6_1).toNat * 6)).off + 3, none⟩ = some (.int .i64 ((rd_T39 l1 x6_1).f3)) ∧ w18.cell? ⟨(ad131.add ((x6_1).toNat * 6)).block, (ad131.add ((x6_1).toNat * 6)).off + 4, none⟩ = some (.int .i64 ((rd_T39 l1 x6_1).f4)) ∧ w18.cell? ⟨(ad131.add ((x6_1).toNat * 6)).block, (ad131.add ((x6_1).toNat * 6)).off + 5, none⟩ = some (.int .i64 ((rd_T39 l1 x6_1).f5)) := hS_
                          refine norm_ (a' := ?_) ?_ ?_
                          rotate_left
                          · simp only [putAll, Act.put, List.setIfInBounds_toArray, List.set_cons_zero, List.set_cons_succ]
                            rfl
                          refine one_ (i := 13) (N := some 28) #[true, true, true, true, true, true, true, true, true, true, true, true, true, true, false, true, true, true, true, true, true, false, false] rfl rfl (one_of HT_.out (by kernel_rfl)) (by decide) (fun K hK => ?_)
                          refine Kd.R_lit_step (Kd.int .i64) _ 3 ?hg (N := 28) ?hd (xs := ([(rd_T39 l1 x6_1).f4] : List Int)) (inner := [.int .i64 ((rd_T39 l1 x6_1).f4)]) (ok := fun _ => True) (okp := fun _ => True) ?hr ?hp (fun _ hk => hk) trivial (Below.refl _ _) (Nat.le_refl _) (by simp) ?_; (case hd => rfl); (case hg => rfl); (case hr => first | (go_simp; done) | (go_simp; rfl)); (case hp => exact (Reps.one (show Kd.M (Kd.int .i64) _ _ _ ((rd_T39 l1 x6_1).f4) [.int .i64 ((rd_T39 l1 x6_1).f4)] from rfl) (Reps.none _ _)))
                          intro v140 w19 ho20 hb hg_ hnew_
                          clear hg_ hnew_
                          (first | rw [← Ny139.out] at ho20 | (simp only [Int.reduceToNat] at ho20; rw [← Ny139.out] at ho20))
                          have n0_ := Aside0.mk (Kd.R_elder' (by (with_reducible repeat (first | apply Kd.R_alloc | apply Kd.R_drewN | apply Kd.R_drew)); exact HO134.out) (Kd.R_base ho20) hb)
                          have n1_ := Aside0.mk (Kd.R_elder' (by (with_reducible repeat (first | apply Kd.R_alloc | apply Kd.R_drewN | apply Kd.R_drew)); exact HO137.out) (Kd.R_base ho20) hb)
                          have n2_ := Aside0.mk (Kd.R_elder' (by (with_reducible repeat (first | apply Kd.R_alloc | apply Kd.R_drewN | apply Kd.R_drew)); exact HO148.out) (Kd.R_base ho20) hb)
                          have n3_ := Aside0.mk (Kd.R_lower (Kd.R_new' (Kd.R_new' (Kd.R_new' ho20 (Kd.R_lt (by (with_reducible repeat (first | apply Kd.R_alloc | apply Kd.R_drewN | apply Kd.R_drew)); exact HO134.out))) (Kd.R_lt (by (with_reducible repeat (first | apply Kd.R_alloc | apply Kd.R_drewN | apply Kd.R_drew)); exact HO137.out))) (Kd.R_lt (by (with_reducible repeat (first | apply Kd.R_alloc | apply Kd.R_drewN | apply Kd.R_drew)); exact HO148.out))) (below_size (by repeat (first | (with_reducible first | exact HB.out | apply below_alloc | apply pw_below_drewN | apply below_drew1) | exact HB.out))))
                          have n4_ := Aside0.mk (below_step (by repeat (first | (with_reducible first | exact HB.out | apply below_alloc | apply pw_below_drewN | apply below_drew1) | exact HB.out)) hb)
                          clear HO134
                          clear HO137
                          clear HO148
                          clear HB
                          have HO134 := n0_
                          have HO137 := n1_
                          have HO148 := n2_
                          have HO141 := n3_
                          have HB := n4_
                          clear n0_ n1_ n2_ n3_ n4_
                          clear hb ho20
                          refine hK.out _ _ ⟨((HB.out.cell (World.block_lt_of_cell? w _ hw131_0)).trans hw131_0), ((HB.out.cell (World.block_lt_of_cell? w _ hw131_1)).trans hw131_1), ((HB.out.cell (World.block_lt_of_cell? w _ hw131_2)).trans hw131_2), ((HB.out.cell (World.block_lt_of_cell? w _ hw131_3)).trans hw131_3), ((HB.out.cell (World.block_lt_of_cell? w _ hw131_4)).trans hw131_4), ((HB.out.cell (World.block_lt_of_cell? w _ hw131_5)).trans hw131_5), ((HB.out.cell (World.block_lt_of_cell? w _ hw138_0)).trans hw138_0), ((HB.out.cell (World.block_lt_of_cell? w _ hw138_1)).trans hw138_1), ((HB.out.cell (World.block_lt_of_cell? w _ hw138_2)).trans hw138_2), ((HB.out.cell (World.block_lt_of_cell? w _ hw138_3)).trans hw138_3), ((HB.out.cell (World.block_lt_of_cell? w _ hw138_4)).trans hw138_4), ((HB.out.cell (World.block_lt_of_cell? w _ hw138_5)).trans hw138_5), ((HB.out.cell (World.block_lt_of_cell? w _ hw145_0)).trans hw145_0), ((HB.out.cell (World.block_lt_of_cell? w _ hw145_1)).trans hw145_1), ((HB.out.cell (World.block_lt_of_cell? w _ hw145_2)).trans hw145_2), ((HB.out.cell (World.block_lt_of_cell? w _ hw145_3)).trans hw145_3), ((HB.out.cell (World.block_lt_of_cell? w _ hw145_4)).trans hw145_4), ((HB.out.cell (World.block_lt_of_cell? w _ hw145_5)).trans hw145_5)⟩ (fun hHeld => ?_)
                          clear hK K
                          refine norm_ (a' := ?_) ?_ ?_
                          rotate_left
                          · show Act.put _ (some 28) _ = _
                            simp only [Act.put, List.setIfInBounds_toArray, List.set_cons_zero, List.set_cons_succ, i64_w, i32_w]
                            rfl
                          exact norm_ (by first | (simp only [putAll, Act.put, List.setIfInBounds_toArray, List.set_cons_zero, List.set_cons_succ]; done) | (simp only [putAll, Act.put, List.setIfInBounds_toArray, List.set_cons_zero, List.set_cons_succ]; rfl)) (hJ6_7_13_20 (_, _, _, _) _ ⟨hHeld, (by (with_reducible repeat (first | apply Kd.R_alloc | apply Kd.R_drewN | apply Kd.R_drew)); exact Kd.R_mono HO134.out (fun _ hk => ⟨hk.1.1, ⟨hk.2, hk.1.2⟩⟩)), (by (with_reducible repeat (first | apply Kd.R_alloc | apply Kd.R_drewN | apply Kd.R_drew)); exact Kd.R_mono HO137.out (fun _ hk => ⟨hk.1.1, ⟨hk.2, hk.1.2⟩⟩)), (by (with_reducible repeat (first | apply Kd.R_alloc | apply Kd.R_drewN | apply Kd.R_drew)); exact Kd.R_mono HO141.out (fun _ hk => ⟨hk.1.1.2, ⟨hk.1.2, hk.2⟩⟩)), (by (with_reducible repeat (first | apply Kd.R_alloc | apply Kd.R_drewN | apply Kd.R_drew)); exact Kd.R_mono HO148.out (fun _ hk => ⟨hk.1.1, ⟨hk.1.2, hk.2⟩⟩)), (by repeat (first | (with_reducible first | exact HB.out | apply below_alloc | apply pw_below_drewN | apply below_drew1) | exact HB.out))⟩)
                      · skip
                        rintro ⟨v133, v136, v140⟩ w18 ⟨hS_, h0_, h1_, h2_, h3_⟩
                        have n0_ : Aside0 (Kd.R (Kd.int .i64) 3 w18 w.heap.size (fun k_ => some k_ ≠ (v136 : Value).ownBlock ∧ some k_ ≠ (v140 : Value).ownBlock) v133 y132) := ⟨h0_⟩
                        have n1_ : Aside0 (Kd.R (Kd.int .i64) 3 w18 w.heap.size (fun k_ => some k_ ≠ (v133 : Value).ownBlock ∧ some k_ ≠ (v140 : Value).ownBlock) v136 y135) := ⟨h1_⟩
                        have n2_ : Aside0 (Kd.R (Kd.int .i64) 3 w18 w.heap.size (fun k_ => some k_ ≠ (v133 : Value).ownBlock ∧ some k_ ≠ (v136 : Value).ownBlock) v140 y139) := ⟨h2_⟩
                        have n3_ : Aside0 (Below w.heap.size w w18) := ⟨h3_⟩
                        clear HO_5
                        clear HB
                        clear h0_ h1_ h2_ h3_
                        have HO134 := n0_
                        have HO137 := n1_
                        have HO141 := n2_
                        have HB := n3_
                        clear n0_ n1_ n2_ n3_
                        have hHeld : w18.cell? (ad131.add ((x6_1).toNat * 6)) = some (.int .i64 ((rd_T39 l1 x6_1).f0)) ∧ w18.cell? ⟨(ad131.add ((x6_1).toNat * 6)).block, (ad131.add ((x6_1).toNat * 6)).off + 1, none⟩ = some (.int .i64 ((rd_T39 l1 x6_1).f1)) ∧ w18.cell? ⟨(ad131.add ((x6_1).toNat * 6)).block, (ad131.add ((x6_1).toNat * 6)).off + 2, none⟩ = some (.int .i64 ((rd_T39 l1 x6_1).f2)) ∧ w18.cell? ⟨(ad131.add ((x6_1).toNat * 6)).block, (ad131.add ((x6_1).toNat * 6)).off + 3, none⟩ = some (.int .i64 ((rd_T39 l1 x6_1).f3)) ∧ w18.cell? ⟨(ad131.add ((x6_1).toNat * 6)).block, (ad131.add ((x6_1).toNat * 6)).off + 4, none⟩ = some (.int .i64 ((rd_T39 l1 x6_1).f4)) ∧ w18.cell? ⟨(ad131.add ((x6_1).toNat * 6)).block, (ad131.add ((x6_1).toNat * 6)).off + 5, none⟩ = some (.int .i64 ((rd_T39 l1 x6_1).f5)) ∧ w18.cell? (ad131.add ((x6_1).toNat * 6)) = some (.int .i64 ((rd_T39 l1 x6_1).f0)) ∧ w18.cell? ⟨(ad131.add ((x6_1).toNat * 6)).block, (ad131.add ((x6_1).toNat * 6)).off + 1, none⟩ = some (.int .i64 ((rd_T39 l1 x6_1).f1)) ∧ w18.cell? ⟨(ad131.add ((x6_1).toNat * 6)).block, (ad131.add ((x6_1).toNat * 6)).off + 2, none⟩ = some (.int .i64 ((rd_T39 l1 x6_1).f2)) ∧ w18.cell? ⟨(ad131.add ((x6_1).toNat * 6)).block, (ad131.add ((x6_1).toNat * 6)).off + 3, none⟩ = some (.int .i64 ((rd_T39 l1 x6_1).f3)) ∧ w18.cell? ⟨(ad131.add ((x6_1).toNat * 6)).block, (ad131.add ((x6_1).toNat * 6)).off + 4, none⟩ = some (.int .i64 ((rd_T39 l1 x6_1).f4)) ∧ w18.cell? ⟨(ad131.add ((x6_1).toNat * 6)).block, (ad131.add ((x6_1).toNat * 6)).off + 5, none⟩ = some (.int .i64 ((rd_T39 l1 x6_1).f5)) ∧ w18.cell? (ad131.add ((x6_1).toNat * 6)) = some (.int .i64 ((rd_T39 l1 x6_1).f0)) ∧ w18.cell? ⟨(ad131.add ((x6_1).toNat * 6)).block, (ad131.add ((x6_1).toNat * 6)).off + 1, none⟩ = some (.int .i64 ((rd_T39 l1 x6_1).f1)) ∧ w18.cell? ⟨(ad131.add ((x6_1).toNat * 6)).block, (ad131.add ((x6_1).toNat * 6)).off + 2, none⟩ = some (.int .i64 ((rd_T39 l1 x6_1).f2)) ∧ w18.cell? ⟨(ad131.add ((x6_1).toNat * 6)).block, (ad131.add ((x6_1).toNat * 6)).off + 3, none⟩ = some (.int .i64 ((rd_T39 l1 x6_1).f3)) ∧ w18.cell? ⟨(ad131.add ((x6_1).toNat * 6)).block, (ad131.add ((x6_1).toNat * 6)).off + 4, none⟩ = some (.int .i64 ((rd_T39 l1 x6_1).f4)) ∧ w18.cell? ⟨(ad131.add ((x6_1).toNat * 6)).block, (ad131.add ((x6_1).toNat * 6)).off + 5, none⟩ = some (.int .i64 ((rd_T39 l1 x6_1).f5)) := hS_
                        obtain ⟨Ao20, co20, eo20⟩ := Kd.R_slice HO141.out
                        (first | subst eo20 | (injection eo20 with f1_ f2_ f3_; have f4_ := f1_.symm; have f5_ := f3_.symm; clear f1_ f2_ f3_; subst f4_; subst f5_))
                        refine norm_ (a' := ?_) ?_ ?_
                        rotate_left
                        · simp only [putAll, Act.put, List.setIfInBounds_toArray, List.set_cons_zero, List.set_cons_succ]
                          rfl
                        refine two_ (i := 14) (j := 20) (Ni := some 29) (Nj := some 35) #[true, true, true, true, true, true, true, true, true, true, true, true, true, true, true, true, true, true, true, true, false, false, false] #[true, true, true, true, true, true, true, true, true, true, true, true, true, true, false, true, true, true, true, true, true, false, false] rfl rfl rfl rfl (two_of HT_.out (by kernel_rfl)) (by decide) (by decide) (fun K hK => ?_) (fun K hK => ?_)
                        · skip
                          refine Kd.R_append_rows_step (Kd.int .i64) (w0 := w) w.heap.size (by rfl) (.tmp 22) (.tmp 28) 40 3 (.int .i64 0) 8 rfl Try.underlying40 info3 rfl (by decide) (by omega) v136 y135 y139 _ _ _ (fun k_ => some k_ ≠ (v133 : Value).ownBlock ∧ some k_ ≠ (.slice Ao20 y139.length co20 : Value).ownBlock) (fun _ => False) rfl rfl ?aO ?aR (fun _ _ h => h) (fun _ h => h.elim) ?aF ?aB ?aS ?aL ?_
                          (case aR => repeat (first | exact (Kd.R_reads' HO141.out).2.2 | (with_reducible refine Kd.C_alloc ?_ _) | (with_reducible refine Kd.C_drewN ?_ _) | (with_reducible refine Kd.C_drew ?_)))
                          (case aB => exact (by repeat (first | (with_reducible first | exact HB.out | apply below_alloc | apply pw_below_drewN | apply below_drew1) | exact HB.out)))
                          (case aF => exact (fun k_ hk => ⟨Kd.fresh' (Kd.R_lt (by (with_reducible repeat (first | apply Kd.R_alloc | apply Kd.R_drewN | apply Kd.R_drew)); exact HO134.out)) k_ hk, Kd.fresh' (Kd.R_lt (by (with_reducible repeat (first | apply Kd.R_alloc | apply Kd.R_drewN | apply Kd.R_drew)); exact HO141.out)) k_ hk⟩))
                          (case aO => exact (by (with_reducible repeat (first | apply Kd.R_alloc | apply Kd.R_drewN | apply Kd.R_drew)); exact HO137.out))
                          (case aS => exact (below_size (by repeat (first | (with_reducible first | exact HB.out | apply below_alloc | apply pw_below_drewN | apply below_drew1) | exact HB.out))))
                          (case aL => have := LMc8.out; omega)
                          intro v143 w19 ho hb hg hat
                          rw [← Ny142.out] at ho
                          have n0_ := Aside0.mk (Kd.R_after (ok := (fun k_ => some k_ ≠ (.slice Ao20 y139.length co20 : Value).ownBlock)) (by (with_reducible repeat (first | apply Kd.R_alloc | apply Kd.R_drewN | apply Kd.R_drew)); exact Kd.R_mono HO134.out (fun _ hk => ⟨hk.2, hk.1⟩)) hg hat)
                          have n1_ := Aside0.mk (Kd.R_after (ok := (fun k_ => some k_ ≠ (v133 : Value).ownBlock)) (by (with_reducible repeat (first | apply Kd.R_alloc | apply Kd.R_drewN | apply Kd.R_drew)); exact HO141.out) hg hat)
                          have n2_ := Aside0.mk (hb)
                          have n3_ := Aside0.mk (ho)
                          clear HO134
                          clear HO141
                          clear HB
                          clear HO137
                          have HO134 := n0_
                          have HO141 := n1_
                          have HB := n2_
                          have HO144 := n3_
                          clear n0_ n1_ n2_ n3_
                          clear ho hb hg hat
                          refine hK.out _ _ ⟨((HB.out.cell (World.block_lt_of_cell? w _ hw131_0)).trans hw131_0), ((HB.out.cell (World.block_lt_of_cell? w _ hw131_1)).trans hw131_1), ((HB.out.cell (World.block_lt_of_cell? w _ hw131_2)).trans hw131_2), ((HB.out.cell (World.block_lt_of_cell? w _ hw131_3)).trans hw131_3), ((HB.out.cell (World.block_lt_of_cell? w _ hw131_4)).trans hw131_4), ((HB.out.cell (World.block_lt_of_cell? w _ hw131_5)).trans hw131_5), ((HB.out.cell (World.block_lt_of_cell? w _ hw138_0)).trans hw138_0), ((HB.out.cell (World.block_lt_of_cell? w _ hw138_1)).trans hw138_1), ((HB.out.cell (World.block_lt_of_cell? w _ hw138_2)).trans hw138_2), ((HB.out.cell (World.block_lt_of_cell? w _ hw138_3)).trans hw138_3), ((HB.out.cell (World.block_lt_of_cell? w _ hw138_4)).trans hw138_4), ((HB.out.cell (World.block_lt_of_cell? w _ hw138_5)).trans hw138_5), ((HB.out.cell (World.block_lt_of_cell? w _ hw145_0)).trans hw145_0), ((HB.out.cell (World.block_lt_of_cell? w _ hw145_1)).trans hw145_1), ((HB.out.cell (World.block_lt_of_cell? w _ hw145_2)).trans hw145_2), ((HB.out.cell (World.block_lt_of_cell? w _ hw145_3)).trans hw145_3), ((HB.out.cell (World.block_lt_of_cell? w _ hw145_4)).trans hw145_4), ((HB.out.cell (World.block_lt_of_cell? w _ hw145_5)).trans hw145_5)⟩ (fun hHeld => ?_)
                          clear hK K
                          refine norm_ (a' := ?_) ?_ ?_
                          rotate_left
                          · show Act.put _ (some 29) _ = _
                            simp only [Act.put, List.setIfInBounds_toArray, List.set_cons_zero, List.set_cons_succ, i64_w, i32_w]
                            rfl
                          exact norm_ (by first | (simp only [putAll, Act.put, List.setIfInBounds_toArray, List.set_cons_zero, List.set_cons_succ]; done) | (simp only [putAll, Act.put, List.setIfInBounds_toArray, List.set_cons_zero, List.set_cons_succ]; rfl)) (hJ6_7_13_14 (v133, v136, .slice Ao20 y139.length co20, v143) _ ⟨hHeld, (by (with_reducible repeat (first | apply Kd.R_alloc | apply Kd.R_drewN | apply Kd.R_drew)); exact HO134.out), (by (with_reducible repeat (first | apply Kd.R_alloc | apply Kd.R_drewN | apply Kd.R_drew)); exact HO141.out), (by (with_reducible repeat (first | apply Kd.R_alloc | apply Kd.R_drewN | apply Kd.R_drew)); exact HO144.out), (by repeat (first | (with_reducible first | exact HB.out | apply below_alloc | apply pw_below_drewN | apply below_drew1) | exact HB.out))⟩)
                        · skip
                          refine Kd.R_lit_step (Kd.int .i64) _ 3 ?hg (N := 35) ?hd (xs := ([(rd_T39 l1 x6_1).f5] : List Int)) (inner := [.int .i64 ((rd_T39 l1 x6_1).f5)]) (ok := fun _ => True) (okp := fun _ => True) ?hr ?hp (fun _ hk => hk) trivial (Below.refl _ _) (Nat.le_refl _) (by simp) ?_; (case hd => rfl); (case hg => rfl); (case hr => first | (go_simp; done) | (go_simp; rfl)); (case hp => exact (Reps.one (show Kd.M (Kd.int .i64) _ _ _ ((rd_T39 l1 x6_1).f5) [.int .i64 ((rd_T39 l1 x6_1).f5)] from rfl) (Reps.none _ _)))
                          intro v147 w19 ho20 hb hg_ hnew_
                          clear hg_ hnew_
                          (first | rw [← Ny146.out] at ho20 | (simp only [Int.reduceToNat] at ho20; rw [← Ny146.out] at ho20))
                          have n0_ := Aside0.mk (Kd.R_elder' (by (with_reducible repeat (first | apply Kd.R_alloc | apply Kd.R_drewN | apply Kd.R_drew)); exact HO134.out) (Kd.R_base ho20) hb)
                          have n1_ := Aside0.mk (Kd.R_elder' (by (with_reducible repeat (first | apply Kd.R_alloc | apply Kd.R_drewN | apply Kd.R_drew)); exact HO137.out) (Kd.R_base ho20) hb)
                          have n2_ := Aside0.mk (Kd.R_elder' (by (with_reducible repeat (first | apply Kd.R_alloc | apply Kd.R_drewN | apply Kd.R_drew)); exact HO141.out) (Kd.R_base ho20) hb)
                          have n3_ := Aside0.mk (Kd.R_lower (Kd.R_new' (Kd.R_new' (Kd.R_new' ho20 (Kd.R_lt (by (with_reducible repeat (first | apply Kd.R_alloc | apply Kd.R_drewN | apply Kd.R_drew)); exact HO134.out))) (Kd.R_lt (by (with_reducible repeat (first | apply Kd.R_alloc | apply Kd.R_drewN | apply Kd.R_drew)); exact HO137.out))) (Kd.R_lt (by (with_reducible repeat (first | apply Kd.R_alloc | apply Kd.R_drewN | apply Kd.R_drew)); exact HO141.out))) (below_size (by repeat (first | (with_reducible first | exact HB.out | apply below_alloc | apply pw_below_drewN | apply below_drew1) | exact HB.out))))
                          have n4_ := Aside0.mk (below_step (by repeat (first | (with_reducible first | exact HB.out | apply below_alloc | apply pw_below_drewN | apply below_drew1) | exact HB.out)) hb)
                          clear HO134
                          clear HO137
                          clear HO141
                          clear HB
                          have HO134 := n0_
                          have HO137 := n1_
                          have HO141 := n2_
                          have HO148 := n3_
                          have HB := n4_
                          clear n0_ n1_ n2_ n3_ n4_
                          clear hb ho20
                          refine hK.out _ _ ⟨((HB.out.cell (World.block_lt_of_cell? w _ hw131_0)).trans hw131_0), ((HB.out.cell (World.block_lt_of_cell? w _ hw131_1)).trans hw131_1), ((HB.out.cell (World.block_lt_of_cell? w _ hw131_2)).trans hw131_2), ((HB.out.cell (World.block_lt_of_cell? w _ hw131_3)).trans hw131_3), ((HB.out.cell (World.block_lt_of_cell? w _ hw131_4)).trans hw131_4), ((HB.out.cell (World.block_lt_of_cell? w _ hw131_5)).trans hw131_5), ((HB.out.cell (World.block_lt_of_cell? w _ hw138_0)).trans hw138_0), ((HB.out.cell (World.block_lt_of_cell? w _ hw138_1)).trans hw138_1), ((HB.out.cell (World.block_lt_of_cell? w _ hw138_2)).trans hw138_2), ((HB.out.cell (World.block_lt_of_cell? w _ hw138_3)).trans hw138_3), ((HB.out.cell (World.block_lt_of_cell? w _ hw138_4)).trans hw138_4), ((HB.out.cell (World.block_lt_of_cell? w _ hw138_5)).trans hw138_5), ((HB.out.cell (World.block_lt_of_cell? w _ hw145_0)).trans hw145_0), ((HB.out.cell (World.block_lt_of_cell? w _ hw145_1)).trans hw145_1), ((HB.out.cell (World.block_lt_of_cell? w _ hw145_2)).trans hw145_2), ((HB.out.cell (World.block_lt_of_cell? w _ hw145_3)).trans hw145_3), ((HB.out.cell (World.block_lt_of_cell? w _ hw145_4)).trans hw145_4), ((HB.out.cell (World.block_lt_of_cell? w _ hw145_5)).trans hw145_5)⟩ (fun hHeld => ?_)
                          clear hK K
                          refine norm_ (a' := ?_) ?_ ?_
                          rotate_left
                          · show Act.put _ (some 35) _ = _
                            simp only [Act.put, List.setIfInBounds_toArray, List.set_cons_zero, List.set_cons_succ, i64_w, i32_w]
                            rfl
                          exact norm_ (by first | (simp only [putAll, Act.put, List.setIfInBounds_toArray, List.set_cons_zero, List.set_cons_succ]; done) | (simp only [putAll, Act.put, List.setIfInBounds_toArray, List.set_cons_zero, List.set_cons_succ]; rfl)) (hJ6_7_13_20 (_, _, _, _) _ ⟨hHeld, (by (with_reducible repeat (first | apply Kd.R_alloc | apply Kd.R_drewN | apply Kd.R_drew)); exact Kd.R_mono HO134.out (fun _ hk => ⟨hk.1.1, ⟨hk.1.2, hk.2⟩⟩)), (by (with_reducible repeat (first | apply Kd.R_alloc | apply Kd.R_drewN | apply Kd.R_drew)); exact Kd.R_mono HO137.out (fun _ hk => ⟨hk.1.1, ⟨hk.1.2, hk.2⟩⟩)), (by (with_reducible repeat (first | apply Kd.R_alloc | apply Kd.R_drewN | apply Kd.R_drew)); exact Kd.R_mono HO141.out (fun _ hk => ⟨hk.1.1, ⟨hk.1.2, hk.2⟩⟩)), (by (with_reducible repeat (first | apply Kd.R_alloc | apply Kd.R_drewN | apply Kd.R_drew)); exact Kd.R_mono HO148.out (fun _ hk => ⟨hk.1.1.2, ⟨hk.1.2, hk.2⟩⟩)), (by repeat (first | (with_reducible first | exact HB.out | apply below_alloc | apply pw_below_drewN | apply below_drew1) | exact HB.out))⟩)
                    · skip
                      rintro ⟨v133, v136, v140, v147⟩ w20 ⟨hS_, h0_, h1_, h2_, h3_, h4_⟩
                      have n0_ : Aside0 (Kd.R (Kd.int .i64) 3 w20 w.heap.size (fun k_ => some k_ ≠ (v136 : Value).ownBlock ∧ some k_ ≠ (v140 : Value).ownBlock ∧ some k_ ≠ (v147 : Value).ownBlock) v133 y132) := ⟨h0_⟩
                      have n1_ : Aside0 (Kd.R (Kd.int .i64) 3 w20 w.heap.size (fun k_ => some k_ ≠ (v133 : Value).ownBlock ∧ some k_ ≠ (v140 : Value).ownBlock ∧ some k_ ≠ (v147 : Value).ownBlock) v136 y135) := ⟨h1_⟩
                      have n2_ : Aside0 (Kd.R (Kd.int .i64) 3 w20 w.heap.size (fun k_ => some k_ ≠ (v133 : Value).ownBlock ∧ some k_ ≠ (v136 : Value).ownBlock ∧ some k_ ≠ (v147 : Value).ownBlock) v140 y139) := ⟨h2_⟩
                      have n3_ : Aside0 (Kd.R (Kd.int .i64) 3 w20 w.heap.size (fun k_ => some k_ ≠ (v133 : Value).ownBlock ∧ some k_ ≠ (v136 : Value).ownBlock ∧ some k_ ≠ (v140 : Value).ownBlock) v147 y146) := ⟨h3_⟩
                      have n4_ : Aside0 (Below w.heap.size w w20) := ⟨h4_⟩
                      clear HO_5
                      clear HB
                      clear h0_ h1_ h2_ h3_ h4_
                      have HO134 := n0_
                      have HO137 := n1_
                      have HO141 := n2_
                      have HO148 := n3_
                      have HB := n4_
                      clear n0_ n1_ n2_ n3_ n4_
                      have hHeld : w20.cell? (ad131.add ((x6_1).toNat * 6)) = some (.int .i64 ((rd_T39 l1 x6_1).f0)) ∧ w20.cell? ⟨(ad131.add ((x6_1).toNat * 6)).block, (ad131.add ((x6_1).toNat * 6)).off + 1, none⟩ = some (.int .i64 ((rd_T39 l1 x6_1).f1)) ∧ w20.cell? ⟨(ad131.add ((x6_1).toNat * 6)).block, (ad131.add ((x6_1).toNat * 6)).off + 2, none⟩ = some (.int .i64 ((rd_T39 l1 x6_1).f2)) ∧ w20.cell? ⟨(ad131.add ((x6_1).toNat * 6)).block, (ad131.add ((x6_1).toNat * 6)).off + 3, none⟩ = some (.int .i64 ((rd_T39 l1 x6_1).f3)) ∧ w20.cell? ⟨(ad131.add ((x6_1).toNat * 6)).block, (ad131.add ((x6_1).toNat * 6)).off + 4, none⟩ = some (.int .i64 ((rd_T39 l1 x6_1).f4)) ∧ w20.cell? ⟨(ad131.add ((x6_1).toNat * 6)).block, (ad131.add ((x6_1).toNat * 6)).off + 5, none⟩ = some (.int .i64 ((rd_T39 l1 x6_1).f5)) ∧ w20.cell? (ad131.add ((x6_1).toNat * 6)) = some (.int .i64 ((rd_T39 l1 x6_1).f0)) ∧ w20.cell? ⟨(ad131.add ((x6_1).toNat * 6)).block, (ad131.add ((x6_1).toNat * 6)).off + 1, none⟩ = some (.int .i64 ((rd_T39 l1 x6_1).f1)) ∧ w20.cell? ⟨(ad131.add ((x6_1).toNat * 6)).block, (ad131.add ((x6_1).toNat * 6)).off + 2, none⟩ = some (.int .i64 ((rd_T39 l1 x6_1).f2)) ∧ w20.cell? ⟨(ad131.add ((x6_1).toNat * 6)).block, (ad131.add ((x6_1).toNat * 6)).off + 3, none⟩ = some (.int .i64 ((rd_T39 l1 x6_1).f3)) ∧ w20.cell? ⟨(ad131.add ((x6_1).toNat * 6)).block, (ad131.add ((x6_1).toNat * 6)).off + 4, none⟩ = some (.int .i64 ((rd_T39 l1 x6_1).f4)) ∧ w20.cell? ⟨(ad131.add ((x6_1).toNat * 6)).block, (ad131.add ((x6_1).toNat * 6)).off + 5, none⟩ = some (.int .i64 ((rd_T39 l1 x6_1).f5)) ∧ w20.cell? (ad131.add ((x6_1).toNat * 6)) = some (.int .i64 ((rd_T39 l1 x6_1).f0)) ∧ w20.cell? ⟨(ad131.add ((x6_1).toNat * 6)).block, (ad131.add ((x6_1).toNat * 6)).off + 1, none⟩ = some (.int .i64 ((rd_T39 l1 x6_1).f1)) ∧ w20.cell? ⟨(ad131.add ((x6_1).toNat * 6)).block, (ad131.add ((x6_1).toNat * 6)).off + 2, none⟩ = some (.int .i64 ((rd_T39 l1 x6_1).f2)) ∧ w20.cell? ⟨(ad131.add ((x6_1).toNat * 6)).block, (ad131.add ((x6_1).toNat * 6)).off + 3, none⟩ = some (.int .i64 ((rd_T39 l1 x6_1).f3)) ∧ w20.cell? ⟨(ad131.add ((x6_1).toNat * 6)).block, (ad131.add ((x6_1).toNat * 6)).off + 4, none⟩ = some (.int .i64 ((rd_T39 l1 x6_1).f4)) ∧ w20.cell? ⟨(ad131.add ((x6_1).toNat * 6)).block, (ad131.add ((x6_1).toNat * 6)).off + 5, none⟩ = some (.int .i64 ((rd_T39 l1 x6_1).f5)) := hS_
                      obtain ⟨Ao22, co22, eo22⟩ := Kd.R_slice HO141.out
                      (first | subst eo22 | (injection eo22 with f1_ f2_ f3_; have f4_ := f1_.symm; have f5_ := f3_.symm; clear f1_ f2_ f3_; subst f4_; subst f5_))
                      refine norm_ (a' := ?_) ?_ ?_
                      rotate_left
                      · simp only [putAll, Act.put, List.setIfInBounds_toArray, List.set_cons_zero, List.set_cons_succ]
                        rfl
                      refine one_ (i := 14) (N := some 29) #[true, true, true, true, true, true, true, true, true, true, true, true, true, true, true, true, true, true, true, true, true, false, false] rfl rfl (one_of HT_.out (by kernel_rfl)) (by decide) (fun K hK => ?_)
                      refine Kd.R_append_rows_step (Kd.int .i64) (w0 := w) w.heap.size (by rfl) (.tmp 22) (.tmp 28) 40 3 (.int .i64 0) 8 rfl Try.underlying40 info3 rfl (by decide) (by omega) v136 y135 y139 _ _ _ (fun k_ => some k_ ≠ (v133 : Value).ownBlock ∧ some k_ ≠ (.slice Ao22 y139.length co22 : Value).ownBlock ∧ some k_ ≠ (v147 : Value).ownBlock) (fun _ => False) rfl rfl ?aO ?aR (fun _ _ h => h) (fun _ h => h.elim) ?aF ?aB ?aS ?aL ?_
                      (case aR => repeat (first | exact (Kd.R_reads' HO141.out).2.2 | (with_reducible refine Kd.C_alloc ?_ _) | (with_reducible refine Kd.C_drewN ?_ _) | (with_reducible refine Kd.C_drew ?_)))
                      (case aB => exact (by repeat (first | (with_reducible first | exact HB.out | apply below_alloc | apply pw_below_drewN | apply below_drew1) | exact HB.out)))
                      (case aF => exact (fun k_ hk => ⟨Kd.fresh' (Kd.R_lt (by (with_reducible repeat (first | apply Kd.R_alloc | apply Kd.R_drewN | apply Kd.R_drew)); exact HO134.out)) k_ hk, Kd.fresh' (Kd.R_lt (by (with_reducible repeat (first | apply Kd.R_alloc | apply Kd.R_drewN | apply Kd.R_drew)); exact HO141.out)) k_ hk, Kd.fresh' (Kd.R_lt (by (with_reducible repeat (first | apply Kd.R_alloc | apply Kd.R_drewN | apply Kd.R_drew)); exact HO148.out)) k_ hk⟩))
                      (case aO => exact (by (with_reducible repeat (first | apply Kd.R_alloc | apply Kd.R_drewN | apply Kd.R_drew)); exact HO137.out))
                      (case aS => exact (below_size (by repeat (first | (with_reducible first | exact HB.out | apply below_alloc | apply pw_below_drewN | apply below_drew1) | exact HB.out))))
                      (case aL => have := LMc8.out; omega)
                      intro v143 w21 ho hb hg hat
                      rw [← Ny142.out] at ho
                      have n0_ := Aside0.mk (Kd.R_after (ok := (fun k_ => some k_ ≠ (.slice Ao22 y139.length co22 : Value).ownBlock ∧ some k_ ≠ (v147 : Value).ownBlock)) (by (with_reducible repeat (first | apply Kd.R_alloc | apply Kd.R_drewN | apply Kd.R_drew)); exact Kd.R_mono HO134.out (fun _ hk => ⟨⟨hk.2.1, hk.2.2⟩, hk.1⟩)) hg hat)
                      have n1_ := Aside0.mk (Kd.R_after (ok := (fun k_ => some k_ ≠ (v133 : Value).ownBlock ∧ some k_ ≠ (v147 : Value).ownBlock)) (by (with_reducible repeat (first | apply Kd.R_alloc | apply Kd.R_drewN | apply Kd.R_drew)); exact Kd.R_mono HO141.out (fun _ hk => ⟨⟨hk.1, hk.2.2⟩, hk.2.1⟩)) hg hat)
                      have n2_ := Aside0.mk (Kd.R_after (ok := (fun k_ => some k_ ≠ (v133 : Value).ownBlock ∧ some k_ ≠ (.slice Ao22 y139.length co22 : Value).ownBlock)) (by (with_reducible repeat (first | apply Kd.R_alloc | apply Kd.R_drewN | apply Kd.R_drew)); exact Kd.R_mono HO148.out (fun _ hk => ⟨⟨hk.1, hk.2.2⟩, hk.2.1⟩)) hg hat)
                      have n3_ := Aside0.mk (hb)
                      have n4_ := Aside0.mk (ho)
                      clear HO134
                      clear HO141
                      clear HO148
                      clear HB
                      clear HO137
                      have HO134 := n0_
                      have HO141 := n1_
                      have HO148 := n2_
                      have HB := n3_
                      have HO144 := n4_
                      clear n0_ n1_ n2_ n3_ n4_
                      clear ho hb hg hat
                      refine hK.out _ _ ⟨((HB.out.cell (World.block_lt_of_cell? w _ hw131_0)).trans hw131_0), ((HB.out.cell (World.block_lt_of_cell? w _ hw131_1)).trans hw131_1), ((HB.out.cell (World.block_lt_of_cell? w _ hw131_2)).trans hw131_2), ((HB.out.cell (World.block_lt_of_cell? w _ hw131_3)).trans hw131_3), ((HB.out.cell (World.block_lt_of_cell? w _ hw131_4)).trans hw131_4), ((HB.out.cell (World.block_lt_of_cell? w _ hw131_5)).trans hw131_5), ((HB.out.cell (World.block_lt_of_cell? w _ hw138_0)).trans hw138_0), ((HB.out.cell (World.block_lt_of_cell? w _ hw138_1)).trans hw138_1), ((HB.out.cell (World.block_lt_of_cell? w _ hw138_2)).trans hw138_2), ((HB.out.cell (World.block_lt_of_cell? w _ hw138_3)).trans hw138_3), ((HB.out.cell (World.block_lt_of_cell? w _ hw138_4)).trans hw138_4), ((HB.out.cell (World.block_lt_of_cell? w _ hw138_5)).trans hw138_5), ((HB.out.cell (World.block_lt_of_cell? w _ hw145_0)).trans hw145_0), ((HB.out.cell (World.block_lt_of_cell? w _ hw145_1)).trans hw145_1), ((HB.out.cell (World.block_lt_of_cell? w _ hw145_2)).trans hw145_2), ((HB.out.cell (World.block_lt_of_cell? w _ hw145_3)).trans hw145_3), ((HB.out.cell (World.block_lt_of_cell? w _ hw145_4)).trans hw145_4), ((HB.out.cell (World.block_lt_of_cell? w _ hw145_5)).trans hw145_5)⟩ (fun hHeld => ?_)
                      clear hK K
                      refine norm_ (a' := ?_) ?_ ?_
                      rotate_left
                      · show Act.put _ (some 29) _ = _
                        simp only [Act.put, List.setIfInBounds_toArray, List.set_cons_zero, List.set_cons_succ, i64_w, i32_w]
                        rfl
                      exact norm_ (by first | (simp only [putAll, Act.put, List.setIfInBounds_toArray, List.set_cons_zero, List.set_cons_succ]; done) | (simp only [putAll, Act.put, List.setIfInBounds_toArray, List.set_cons_zero, List.set_cons_succ]; rfl)) (hJ6_7_13_14_20 (v133, v136, .slice Ao22 y139.length co22, v143, v147) _ ⟨hHeld, (by (with_reducible repeat (first | apply Kd.R_alloc | apply Kd.R_drewN | apply Kd.R_drew)); exact Kd.R_mono HO134.out (fun _ hk => ⟨hk.1.1, ⟨hk.2, hk.1.2⟩⟩)), (by (with_reducible repeat (first | apply Kd.R_alloc | apply Kd.R_drewN | apply Kd.R_drew)); exact Kd.R_mono HO141.out (fun _ hk => ⟨hk.1.1, ⟨hk.2, hk.1.2⟩⟩)), (by (with_reducible repeat (first | apply Kd.R_alloc | apply Kd.R_drewN | apply Kd.R_drew)); exact HO144.out), (by (with_reducible repeat (first | apply Kd.R_alloc | apply Kd.R_drewN | apply Kd.R_drew)); exact Kd.R_mono HO148.out (fun _ hk => ⟨hk.1.1, ⟨hk.1.2, hk.2⟩⟩)), (by repeat (first | (with_reducible first | exact HB.out | apply below_alloc | apply pw_below_drewN | apply below_drew1) | exact HB.out))⟩)
                  · skip
                    rintro ⟨v133, v136, v140, v143⟩ w20 ⟨hS_, h0_, h1_, h2_, h3_⟩
                    have n0_ : Aside0 (Kd.R (Kd.int .i64) 3 w20 w.heap.size (fun k_ => some k_ ≠ (v140 : Value).ownBlock ∧ some k_ ≠ (v143 : Value).ownBlock) v133 y132) := ⟨h0_⟩
                    have n1_ : Aside0 (Kd.R (Kd.int .i64) 3 w20 w.heap.size (fun k_ => some k_ ≠ (v133 : Value).ownBlock ∧ some k_ ≠ (v143 : Value).ownBlock) v140 y139) := ⟨h1_⟩
                    have n2_ : Aside0 (Kd.R (Kd.int .i64) 3 w20 w.heap.size (fun k_ => some k_ ≠ (v133 : Value).ownBlock ∧ some k_ ≠ (v140 : Value).ownBlock) v143 y142) := ⟨h2_⟩
                    have n3_ : Aside0 (Below w.heap.size w w20) := ⟨h3_⟩
                    clear HO_5
                    clear HB
                    clear h0_ h1_ h2_ h3_
                    have HO134 := n0_
                    have HO141 := n1_
                    have HO144 := n2_
                    have HB := n3_
                    clear n0_ n1_ n2_ n3_
                    have hHeld : w20.cell? (ad131.add ((x6_1).toNat * 6)) = some (.int .i64 ((rd_T39 l1 x6_1).f0)) ∧ w20.cell? ⟨(ad131.add ((x6_1).toNat * 6)).block, (ad131.add ((x6_1).toNat * 6)).off + 1, none⟩ = some (.int .i64 ((rd_T39 l1 x6_1).f1)) ∧ w20.cell? ⟨(ad131.add ((x6_1).toNat * 6)).block, (ad131.add ((x6_1).toNat * 6)).off + 2, none⟩ = some (.int .i64 ((rd_T39 l1 x6_1).f2)) ∧ w20.cell? ⟨(ad131.add ((x6_1).toNat * 6)).block, (ad131.add ((x6_1).toNat * 6)).off + 3, none⟩ = some (.int .i64 ((rd_T39 l1 x6_1).f3)) ∧ w20.cell? ⟨(ad131.add ((x6_1).toNat * 6)).block, (ad131.add ((x6_1).toNat * 6)).off + 4, none⟩ = some (.int .i64 ((rd_T39 l1 x6_1).f4)) ∧ w20.cell? ⟨(ad131.add ((x6_1).toNat * 6)).block, (ad131.add ((x6_1).toNat * 6)).off + 5, none⟩ = some (.int .i64 ((rd_T39 l1 x6_1).f5)) ∧ w20.cell? (ad131.add ((x6_1).toNat * 6)) = some (.int .i64 ((rd_T39 l1 x6_1).f0)) ∧ w20.cell? ⟨(ad131.add ((x6_1).toNat * 6)).block, (ad131.add ((x6_1).toNat * 6)).off + 1, none⟩ = some (.int .i64 ((rd_T39 l1 x6_1).f1)) ∧ w20.cell? ⟨(ad131.add ((x6_1).toNat * 6)).block, (ad131.add ((x6_1).toNat * 6)).off + 2, none⟩ = some (.int .i64 ((rd_T39 l1 x6_1).f2)) ∧ w20.cell? ⟨(ad131.add ((x6_1).toNat * 6)).block, (ad131.add ((x6_1).toNat * 6)).off + 3, none⟩ = some (.int .i64 ((rd_T39 l1 x6_1).f3)) ∧ w20.cell? ⟨(ad131.add ((x6_1).toNat * 6)).block, (ad131.add ((x6_1).toNat * 6)).off + 4, none⟩ = some (.int .i64 ((rd_T39 l1 x6_1).f4)) ∧ w20.cell? ⟨(ad131.add ((x6_1).toNat * 6)).block, (ad131.add ((x6_1).toNat * 6)).off + 5, none⟩ = some (.int .i64 ((rd_T39 l1 x6_1).f5)) ∧ w20.cell? (ad131.add ((x6_1).toNat * 6)) = some (.int .i64 ((rd_T39 l1 x6_1).f0)) ∧ w20.cell? ⟨(ad131.add ((x6_1).toNat * 6)).block, (ad131.add ((x6_1).toNat * 6)).off + 1, none⟩ = some (.int .i64 ((rd_T39 l1 x6_1).f1)) ∧ w20.cell? ⟨(ad131.add ((x6_1).toNat * 6)).block, (ad131.add ((x6_1).toNat * 6)).off + 2, none⟩ = some (.int .i64 ((rd_T39 l1 x6_1).f2)) ∧ w20.cell? ⟨(ad131.add ((x6_1).toNat * 6)).block, (ad131.add ((x6_1).toNat * 6)).off + 3, none⟩ = some (.int .i64 ((rd_T39 l1 x6_1).f3)) ∧ w20.cell? ⟨(ad131.add ((x6_1).toNat * 6)).block, (ad131.add ((x6_1).toNat * 6)).off + 4, none⟩ = some (.int .i64 ((rd_T39 l1 x6_1).f4)) ∧ w20.cell? ⟨(ad131.add ((x6_1).toNat * 6)).block, (ad131.add ((x6_1).toNat * 6)).off + 5, none⟩ = some (.int .i64 ((rd_T39 l1 x6_1).f5)) := hS_
                    refine norm_ (a' := ?_) ?_ ?_
                    rotate_left
                    · simp only [putAll, Act.put, List.setIfInBounds_toArray, List.set_cons_zero, List.set_cons_succ]
                      rfl
                    refine one_ (i := 20) (N := some 35) #[true, true, true, true, true, true, true, true, true, true, true, true, true, true, true, true, true, true, true, true, true, false, false] rfl rfl (one_of HT_.out (by kernel_rfl)) (by decide) (fun K hK => ?_)
                    refine Kd.R_lit_step (Kd.int .i64) _ 3 ?hg (N := 35) ?hd (xs := ([(rd_T39 l1 x6_1).f5] : List Int)) (inner := [.int .i64 ((rd_T39 l1 x6_1).f5)]) (ok := fun _ => True) (okp := fun _ => True) ?hr ?hp (fun _ hk => hk) trivial (Below.refl _ _) (Nat.le_refl _) (by simp) ?_; (case hd => rfl); (case hg => rfl); (case hr => first | (go_simp; done) | (go_simp; rfl)); (case hp => exact (Reps.one (show Kd.M (Kd.int .i64) _ _ _ ((rd_T39 l1 x6_1).f5) [.int .i64 ((rd_T39 l1 x6_1).f5)] from rfl) (Reps.none _ _)))
                    intro v147 w21 ho22 hb hg_ hnew_
                    clear hg_ hnew_
                    (first | rw [← Ny146.out] at ho22 | (simp only [Int.reduceToNat] at ho22; rw [← Ny146.out] at ho22))
                    have n0_ := Aside0.mk (Kd.R_elder' (by (with_reducible repeat (first | apply Kd.R_alloc | apply Kd.R_drewN | apply Kd.R_drew)); exact HO134.out) (Kd.R_base ho22) hb)
                    have n1_ := Aside0.mk (Kd.R_elder' (by (with_reducible repeat (first | apply Kd.R_alloc | apply Kd.R_drewN | apply Kd.R_drew)); exact HO141.out) (Kd.R_base ho22) hb)
                    have n2_ := Aside0.mk (Kd.R_elder' (by (with_reducible repeat (first | apply Kd.R_alloc | apply Kd.R_drewN | apply Kd.R_drew)); exact HO144.out) (Kd.R_base ho22) hb)
                    have n3_ := Aside0.mk (Kd.R_lower (Kd.R_new' (Kd.R_new' (Kd.R_new' ho22 (Kd.R_lt (by (with_reducible repeat (first | apply Kd.R_alloc | apply Kd.R_drewN | apply Kd.R_drew)); exact HO134.out))) (Kd.R_lt (by (with_reducible repeat (first | apply Kd.R_alloc | apply Kd.R_drewN | apply Kd.R_drew)); exact HO141.out))) (Kd.R_lt (by (with_reducible repeat (first | apply Kd.R_alloc | apply Kd.R_drewN | apply Kd.R_drew)); exact HO144.out))) (below_size (by repeat (first | (with_reducible first | exact HB.out | apply below_alloc | apply pw_below_drewN | apply below_drew1) | exact HB.out))))
                    have n4_ := Aside0.mk (below_step (by repeat (first | (with_reducible first | exact HB.out | apply below_alloc | apply pw_below_drewN | apply below_drew1) | exact HB.out)) hb)
                    clear HO134
                    clear HO141
                    clear HO144
                    clear HB
                    have HO134 := n0_
                    have HO141 := n1_
                    have HO144 := n2_
                    have HO148 := n3_
                    have HB := n4_
                    clear n0_ n1_ n2_ n3_ n4_
                    clear hb ho22
                    refine hK.out _ _ ⟨((HB.out.cell (World.block_lt_of_cell? w _ hw131_0)).trans hw131_0), ((HB.out.cell (World.block_lt_of_cell? w _ hw131_1)).trans hw131_1), ((HB.out.cell (World.block_lt_of_cell? w _ hw131_2)).trans hw131_2), ((HB.out.cell (World.block_lt_of_cell? w _ hw131_3)).trans hw131_3), ((HB.out.cell (World.block_lt_of_cell? w _ hw131_4)).trans hw131_4), ((HB.out.cell (World.block_lt_of_cell? w _ hw131_5)).trans hw131_5), ((HB.out.cell (World.block_lt_of_cell? w _ hw138_0)).trans hw138_0), ((HB.out.cell (World.block_lt_of_cell? w _ hw138_1)).trans hw138_1), ((HB.out.cell (World.block_lt_of_cell? w _ hw138_2)).trans hw138_2), ((HB.out.cell (World.block_lt_of_cell? w _ hw138_3)).trans hw138_3), ((HB.out.cell (World.block_lt_of_cell? w _ hw138_4)).trans hw138_4), ((HB.out.cell (World.block_lt_of_cell? w _ hw138_5)).trans hw138_5), ((HB.out.cell (World.block_lt_of_cell? w _ hw145_0)).trans hw145_0), ((HB.out.cell (World.block_lt_of_cell? w _ hw145_1)).trans hw145_1), ((HB.out.cell (World.block_lt_of_cell? w _ hw145_2)).trans hw145_2), ((HB.out.cell (World.block_lt_of_cell? w _ hw145_3)).trans hw145_3), ((HB.out.cell (World.block_lt_of_cell? w _ hw145_4)).trans hw145_4), ((HB.out.cell (World.block_lt_of_cell? w _ hw145_5)).trans hw145_5)⟩ (fun hHeld => ?_)
                    clear hK K
                    refine norm_ (a' := ?_) ?_ ?_
                    rotate_left
                    · show Act.put _ (some 35) _ = _
                      simp only [Act.put, List.setIfInBounds_toArray, List.set_cons_zero, List.set_cons_succ, i64_w, i32_w]
                      rfl
                    exact norm_ (by first | (simp only [putAll, Act.put, List.setIfInBounds_toArray, List.set_cons_zero, List.set_cons_succ]; done) | (simp only [putAll, Act.put, List.setIfInBounds_toArray, List.set_cons_zero, List.set_cons_succ]; rfl)) (hJ6_7_13_14_20 (_, _, _, _, _) _ ⟨hHeld, (by (with_reducible repeat (first | apply Kd.R_alloc | apply Kd.R_drewN | apply Kd.R_drew)); exact Kd.R_mono HO134.out (fun _ hk => ⟨hk.1.1, ⟨hk.1.2, hk.2⟩⟩)), (by (with_reducible repeat (first | apply Kd.R_alloc | apply Kd.R_drewN | apply Kd.R_drew)); exact Kd.R_mono HO141.out (fun _ hk => ⟨hk.1.1, ⟨hk.1.2, hk.2⟩⟩)), (by (with_reducible repeat (first | apply Kd.R_alloc | apply Kd.R_drewN | apply Kd.R_drew)); exact Kd.R_mono HO144.out (fun _ hk => ⟨hk.1.1, ⟨hk.1.2, hk.2⟩⟩)), (by (with_reducible repeat (first | apply Kd.R_alloc | apply Kd.R_drewN | apply Kd.R_drew)); exact Kd.R_mono HO148.out (fun _ hk => ⟨hk.1.1.2, ⟨hk.1.2, hk.2⟩⟩)), (by repeat (first | (with_reducible first | exact HB.out | apply below_alloc | apply pw_below_drewN | apply below_drew1) | exact HB.out))⟩)
                rintro ⟨v133, v136, v140, v143, v147⟩ w22 ⟨hS_, h0_, h1_, h2_, h3_, h4_⟩
                have n0_ : Aside0 (Kd.R (Kd.int .i64) 3 w22 w.heap.size (fun k_ => some k_ ≠ (v140 : Value).ownBlock ∧ some k_ ≠ (v143 : Value).ownBlock ∧ some k_ ≠ (v147 : Value).ownBlock) v133 y132) := ⟨h0_⟩
                have n1_ : Aside0 (Kd.R (Kd.int .i64) 3 w22 w.heap.size (fun k_ => some k_ ≠ (v133 : Value).ownBlock ∧ some k_ ≠ (v143 : Value).ownBlock ∧ some k_ ≠ (v147 : Value).ownBlock) v140 y139) := ⟨h1_⟩
                have n2_ : Aside0 (Kd.R (Kd.int .i64) 3 w22 w.heap.size (fun k_ => some k_ ≠ (v133 : Value).ownBlock ∧ some k_ ≠ (v140 : Value).ownBlock ∧ some k_ ≠ (v147 : Value).ownBlock) v143 y142) := ⟨h2_⟩
                have n3_ : Aside0 (Kd.R (Kd.int .i64) 3 w22 w.heap.size (fun k_ => some k_ ≠ (v133 : Value).ownBlock ∧ some k_ ≠ (v140 : Value).ownBlock ∧ some k_ ≠ (v143 : Value).ownBlock) v147 y146) := ⟨h3_⟩
                have n4_ : Aside0 (Below w.heap.size w w22) := ⟨h4_⟩
                clear HO_5
                clear HB
                clear h0_ h1_ h2_ h3_ h4_
                have HO134 := n0_
                have HO141 := n1_
                have HO144 := n2_
                have HO148 := n3_
                have HB := n4_
                clear n0_ n1_ n2_ n3_ n4_
                have hHeld : w22.cell? (ad131.add ((x6_1).toNat * 6)) = some (.int .i64 ((rd_T39 l1 x6_1).f0)) ∧ w22.cell? ⟨(ad131.add ((x6_1).toNat * 6)).block, (ad131.add ((x6_1).toNat * 6)).off + 1, none⟩ = some (.int .i64 ((rd_T39 l1 x6_1).f1)) ∧ w22.cell? ⟨(ad131.add ((x6_1).toNat * 6)).block, (ad131.add ((x6_1).toNat * 6)).off + 2, none⟩ = some (.int .i64 ((rd_T39 l1 x6_1).f2)) ∧ w22.cell? ⟨(ad131.add ((x6_1).toNat * 6)).block, (ad131.add ((x6_1).toNat * 6)).off + 3, none⟩ = some (.int .i64 ((rd_T39 l1 x6_1).f3)) ∧ w22.cell? ⟨(ad131.add ((x6_1).toNat * 6)).block, (ad131.add ((x6_1).toNat * 6)).off + 4, none⟩ = some (.int .i64 ((rd_T39 l1 x6_1).f4)) ∧ w22.cell? ⟨(ad131.add ((x6_1).toNat * 6)).block, (ad131.add ((x6_1).toNat * 6)).off + 5, none⟩ = some (.int .i64 ((rd_T39 l1 x6_1).f5)) ∧ w22.cell? (ad131.add ((x6_1).toNat * 6)) = some (.int .i64 ((rd_T39 l1 x6_1).f0)) ∧ w22.cell? ⟨(ad131.add ((x6_1).toNat * 6)).block, (ad131.add ((x6_1).toNat * 6)).off + 1, none⟩ = some (.int .i64 ((rd_T39 l1 x6_1).f1)) ∧ w22.cell? ⟨(ad131.add ((x6_1).toNat * 6)).block, (ad131.add ((x6_1).toNat * 6)).off + 2, none⟩ = some (.int .i64 ((rd_T39 l1 x6_1).f2)) ∧ w22.cell? ⟨(ad131.add ((x6_1).toNat * 6)).block, (ad131.add ((x6_1).toNat * 6)).off + 3, none⟩ = some (.int .i64 ((rd_T39 l1 x6_1).f3)) ∧ w22.cell? ⟨(ad131.add ((x6_1).toNat * 6)).block, (ad131.add ((x6_1).toNat * 6)).off + 4, none⟩ = some (.int .i64 ((rd_T39 l1 x6_1).f4)) ∧ w22.cell? ⟨(ad131.add ((x6_1).toNat * 6)).block, (ad131.add ((x6_1).toNat * 6)).off + 5, none⟩ = some (.int .i64 ((rd_T39 l1 x6_1).f5)) ∧ w22.cell? (ad131.add ((x6_1).toNat * 6)) = some (.int .i64 ((rd_T39 l1 x6_1).f0)) ∧ w22.cell? ⟨(ad131.add ((x6_1).toNat * 6)).block, (ad131.add ((x6_1).toNat * 6)).off + 1, none⟩ = some (.int .i64 ((rd_T39 l1 x6_1).f1)) ∧ w22.cell? ⟨(ad131.add ((x6_1).toNat * 6)).block, (ad131.add ((x6_1).toNat * 6)).off + 2, none⟩ = some (.int .i64 ((rd_T39 l1 x6_1).f2)) ∧ w22.cell? ⟨(ad131.add ((x6_1).toNat * 6)).block, (ad131.add ((x6_1).toNat * 6)).off + 3, none⟩ = some (.int .i64 ((rd_T39 l1 x6_1).f3)) ∧ w22.cell? ⟨(ad131.add ((x6_1).toNat * 6)).block, (ad131.add ((x6_1).toNat * 6)).off + 4, none⟩ = some (.int .i64 ((rd_T39 l1 x6_1).f4)) ∧ w22.cell? ⟨(ad131.add ((x6_1).toNat * 6)).block, (ad131.add ((x6_1).toNat * 6)).off + 5, none⟩ = some (.int .i64 ((rd_T39 l1 x6_1).f5)) := hS_
                obtain ⟨Ao24, co24, eo24⟩ := Kd.R_slice HO148.out
                (first | subst eo24 | (injection eo24 with f1_ f2_ f3_; have f4_ := f1_.symm; have f5_ := f3_.symm; clear f1_ f2_ f3_; subst f4_; subst f5_))
                refine norm_ (a' := ?_) ?_ ?_
                rotate_left
                · simp only [putAll, Act.put, List.setIfInBounds_toArray, List.set_cons_zero, List.set_cons_succ]
                  rfl
                refine one_ (i := 21) (N := some 36) #[true, true, true, true, true, true, true, true, true, true, true, true, true, true, true, true, true, true, true, true, true, true, false] rfl rfl (one_of HT_.out (by kernel_rfl)) (by decide) (fun K hK => ?_)
                refine Kd.R_append_rows_step (Kd.int .i64) (w0 := w) w.heap.size (by rfl) (.tmp 29) (.tmp 35) 40 3 (.int .i64 0) 8 rfl Try.underlying40 info3 rfl (by decide) (by omega) v143 y142 y146 _ _ _ (fun k_ => some k_ ≠ (v133 : Value).ownBlock ∧ some k_ ≠ (v140 : Value).ownBlock ∧ some k_ ≠ (.slice Ao24 y146.length co24 : Value).ownBlock) (fun _ => False) rfl rfl ?aO ?aR (fun _ _ h => h) (fun _ h => h.elim) ?aF ?aB ?aS ?aL ?_
                (case aR => repeat (first | exact (Kd.R_reads' HO148.out).2.2 | (with_reducible refine Kd.C_alloc ?_ _) | (with_reducible refine Kd.C_drewN ?_ _) | (with_reducible refine Kd.C_drew ?_)))
                (case aB => exact (by repeat (first | (with_reducible first | exact HB.out | apply below_alloc | apply pw_below_drewN | apply below_drew1) | exact HB.out)))
                (case aF => exact (fun k_ hk => ⟨Kd.fresh' (Kd.R_lt (by (with_reducible repeat (first | apply Kd.R_alloc | apply Kd.R_drewN | apply Kd.R_drew)); exact HO134.out)) k_ hk, Kd.fresh' (Kd.R_lt (by (with_reducible repeat (first | apply Kd.R_alloc | apply Kd.R_drewN | apply Kd.R_drew)); exact HO141.out)) k_ hk, Kd.fresh' (Kd.R_lt (by (with_reducible repeat (first | apply Kd.R_alloc | apply Kd.R_drewN | apply Kd.R_drew)); exact HO148.out)) k_ hk⟩))
                (case aO => exact (by (with_reducible repeat (first | apply Kd.R_alloc | apply Kd.R_drewN | apply Kd.R_drew)); exact HO144.out))
                (case aS => exact (below_size (by repeat (first | (with_reducible first | exact HB.out | apply below_alloc | apply pw_below_drewN | apply below_drew1) | exact HB.out))))
                (case aL => have := LMc9.out; omega)
                intro v150 w23 ho hb hg hat
                rw [← Ny149.out] at ho
                have n0_ := Aside0.mk (Kd.R_after (ok := (fun k_ => some k_ ≠ (v140 : Value).ownBlock ∧ some k_ ≠ (.slice Ao24 y146.length co24 : Value).ownBlock)) (by (with_reducible repeat (first | apply Kd.R_alloc | apply Kd.R_drewN | apply Kd.R_drew)); exact Kd.R_mono HO134.out (fun _ hk => ⟨⟨hk.1, hk.2.2⟩, hk.2.1⟩)) hg hat)
                have n1_ := Aside0.mk (Kd.R_after (ok := (fun k_ => some k_ ≠ (v133 : Value).ownBlock ∧ some k_ ≠ (.slice Ao24 y146.length co24 : Value).ownBlock)) (by (with_reducible repeat (first | apply Kd.R_alloc | apply Kd.R_drewN | apply Kd.R_drew)); exact Kd.R_mono HO141.out (fun _ hk => ⟨⟨hk.1, hk.2.2⟩, hk.2.1⟩)) hg hat)
                have n2_ := Aside0.mk (Kd.R_after (ok := (fun k_ => some k_ ≠ (v133 : Value).ownBlock ∧ some k_ ≠ (v140 : Value).ownBlock)) (by (with_reducible repeat (first | apply Kd.R_alloc | apply Kd.R_drewN | apply Kd.R_drew)); exact Kd.R_mono HO148.out (fun _ hk => ⟨⟨hk.1, hk.2.1⟩, hk.2.2⟩)) hg hat)
                have n3_ := Aside0.mk (hb)
                have n4_ := Aside0.mk (ho)
                clear HO134
                clear HO141
                clear HO148
                clear HB
                clear HO144
                have HO134 := n0_
                have HO141 := n1_
                have HO148 := n2_
                have HB := n3_
                have HO151 := n4_
                clear n0_ n1_ n2_ n3_ n4_
                clear ho hb hg hat
                refine hK.out _ _ ⟨((HB.out.cell (World.block_lt_of_cell? w _ hw131_0)).trans hw131_0), ((HB.out.cell (World.block_lt_of_cell? w _ hw131_1)).trans hw131_1), ((HB.out.cell (World.block_lt_of_cell? w _ hw131_2)).trans hw131_2), ((HB.out.cell (World.block_lt_of_cell? w _ hw131_3)).trans hw131_3), ((HB.out.cell (World.block_lt_of_cell? w _ hw131_4)).trans hw131_4), ((HB.out.cell (World.block_lt_of_cell? w _ hw131_5)).trans hw131_5), ((HB.out.cell (World.block_lt_of_cell? w _ hw138_0)).trans hw138_0), ((HB.out.cell (World.block_lt_of_cell? w _ hw138_1)).trans hw138_1), ((HB.out.cell (World.block_lt_of_cell? w _ hw138_2)).trans hw138_2), ((HB.out.cell (World.block_lt_of_cell? w _ hw138_3)).trans hw138_3), ((HB.out.cell (World.block_lt_of_cell? w _ hw138_4)).trans hw138_4), ((HB.out.cell (World.block_lt_of_cell? w _ hw138_5)).trans hw138_5), ((HB.out.cell (World.block_lt_of_cell? w _ hw145_0)).trans hw145_0), ((HB.out.cell (World.block_lt_of_cell? w _ hw145_1)).trans hw145_1), ((HB.out.cell (World.block_lt_of_cell? w _ hw145_2)).trans hw145_2), ((HB.out.cell (World.block_lt_of_cell? w _ hw145_3)).trans hw145_3), ((HB.out.cell (World.block_lt_of_cell? w _ hw145_4)).trans hw145_4), ((HB.out.cell (World.block_lt_of_cell? w _ hw145_5)).trans hw145_5)⟩ (fun hHeld => ?_)
                clear hK K
                refine norm_ (a' := ?_) ?_ ?_
                rotate_left
                · show Act.put _ (some 36) _ = _
                  simp only [Act.put, List.setIfInBounds_toArray, List.set_cons_zero, List.set_cons_succ, i64_w, i32_w]
                  rfl
                refine pure_ (i := 22) (N := some 5) (v := ?_) (a' := ?_) #[true, true, true, true, true, true, true, true, true, true, true, true, true, true, true, true, true, true, true, true, true, true, true] rfl rfl (any_of HT_.out (by kernel_rfl)) (fun _ _ _ h => h) (Or.inl ⟨by rfl, ?_⟩) ?_ ?_
                rotate_left
                · intro w'
                  go_simp
                  with_reducible rfl
                rotate_left
                · simp only [Act.put, List.setIfInBounds_toArray, List.set_cons_zero, List.set_cons_succ, i64_w, i32_w]
                  rfl
                refine done_ (done_of HT_.out (by kernel_rfl)) ?_
                try go_wp2
                go_roundg k1
                case measure => have := HK1.out; omega
                case rel => exact ⟨(y149), (wrap64 (x6_1 + 1)), (by first | rfl | (simp; done) | (simp [*]; done)), H', ⟨by have := HK1.out; omega⟩, ⟨by (with_reducible repeat (first | apply Kd.R_alloc | apply Kd.R_drewN | apply Kd.R_drew)); exact Kd.R_mono HO151.out (fun _ hk => trivial)⟩, ⟨by repeat (first | (with_reducible first | exact HB.out | apply below_alloc | apply pw_below_drewN | apply below_drew1) | exact HB.out)⟩⟩
              · rw [if_neg c9] at H
                exact absurd H (by simp)
            · rw [if_neg c8] at H
              exact absurd H (by simp)
          · rw [if_neg c7] at H
            exact absurd H (by simp)
        · rw [if_neg c6] at H
          exact absurd H (by simp)
      · rw [if_neg c5] at H
        have c5b0 : decide (x6_1 < (l1.length : Int)) = false := decide_eq_false c5
        clear c5
        obtain rfl := Option.some.inj H
        go_wp2
        go_ret
        exact ⟨_, by first | rfl | (simp [errW_none, errW_some] <;> rfl) | (simp [*, errW_none, errW_some] <;> rfl), by (with_reducible repeat (first | apply Kd.R_alloc | apply Kd.R_drewN | apply Kd.R_drew)); exact HO_5.out, by repeat (first | (with_reducible first | exact HB.out | apply below_alloc | apply pw_below_drewN | apply below_drew1) | exact HB.out)⟩

end Go.Proofs.Ytkjkonkgcepanaa.PAll
