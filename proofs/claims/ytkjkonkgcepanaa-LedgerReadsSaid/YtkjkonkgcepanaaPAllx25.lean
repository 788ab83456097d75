/- Contracts of functions of the program, each with a plain function of the same answers; written by a program of this workplace. -/
import Derived.Test.YtkjkonkgcepanaaPAllx0
import Derived.Test.YtkjkonkgcepanaaPAllx5
namespace Go.Proofs.Ytkjkonkgcepanaa.PAll
open Go.RowKit Go.Proofs.YtkjkonkgcepanaaW.PrintWords Go.Proofs.YtkjkonkgcepanaaW.PrintLast Go.Proofs.YtkjkonkgcepanaaW.PrintMore
attribute [local go_sem] max2_int min2_int max_two min_two max_three min_three max_four min_four   -- for this text's walks alone
set_option linter.unusedVariables false
set_option linter.unusedSimpArgs false

/-! ### ledger_Total: function 16 -/
def ledger_Total.l0 : Nat → List Int → List (S39) → Int → Int → Option (Int × Int)
  | 0, _, _, _, _ => none
  | k + 1, x6, x11, x12, x13 => if x13 < x12 then (if 0 ≤ x13 then (if x13 < (x11.length : Int) then ((some (([(rd_T39 x11 x13).f3, (rd_T39 x11 x13).f4, (rd_T39 x11 x13).f5] : List Int) : List Int)).bind fun y362 => (if x6.length + y362.length < 17592186044416 then (ledger_Total.l0 k (x6 ++ y362) x11 x12 (wrap64 (x13 + 1))) else (none))) else (none)) else (none)) else ((money_Add.f k x6).bind fun bt368 => (some (bt368.1, bt368.2)))
def ledger_Total.f (k : Nat) (a0 : Int) (l1 : List (S39)) : Option (Int × Int) := ledger_Total.l0 k (([a0] : List Int)) l1 (l1.length : Int) 0
theorem ledger_Total.mono_l : ∀ k, (∀ y0 y1 y2 y3, LeO (ledger_Total.l0 k y0 y1 y2 y3) (ledger_Total.l0 (k + 1) y0 y1 y2 y3))
  | 0 => fun _ _ _ _ r h => by simp [ledger_Total.l0] at h
  | k + 1 => by
    have ih0 := ledger_Total.mono_l k
    · intro y0 y1 y2 y3
      unfold ledger_Total.l0
      repeat' first
      | (with_reducible exact ih0 _ _ _ _)
      | (with_reducible exact money_Add.mono _ _)
      | (with_reducible exact LeO.refl _)
      | (with_reducible exact LeO.none _)
      | (with_reducible refine LeO.ite ?_ ?_)
      | (with_reducible refine LeO.bind ?_ (fun _ => ?_))
      | exact ih0 _ _ _ _
      | exact money_Add.mono _ _
      | exact LeO.none _
      | refine LeO.ite ?_ ?_
      | refine LeO.bind ?_ (fun _ => ?_)
theorem ledger_Total.mono : ∀ a0 a1 k, LeO (ledger_Total.f k a0 a1) (ledger_Total.f (k + 1) a0 a1) := by
  intro a0 a1 k
  have ih0 := ledger_Total.mono_l k
  unfold ledger_Total.f
  repeat' first
      | (with_reducible exact ih0 _ _ _ _)
      | (with_reducible exact money_Add.mono _ _)
      | (with_reducible exact LeO.refl _)
      | (with_reducible exact LeO.none _)
      | (with_reducible refine LeO.ite ?_ ?_)
      | (with_reducible refine LeO.bind ?_ (fun _ => ?_))
      | exact ih0 _ _ _ _
      | exact money_Add.mono _ _
      | exact LeO.none _
      | refine LeO.ite ?_ ?_
      | refine LeO.bind ?_ (fun _ => ?_)
set_option maxHeartbeats 8000000 in
set_option maxRecDepth 100000 in
theorem ledger_Total.calls (k : Nat) (a0 : Int) (A1 : Option Addr) (c1 : Nat) (l1 : List (S39)) (r1 : Int) (r2 : Int) (w : World) (hr1 : Kd.C k39 w A1 l1.length l1) (hc1 : l1.length ≤ c1) (h : ledger_Total.f k a0 l1 = some (r1, r2)) :
    Calls Try.prog 16 #[.int .i64 a0, .slice A1 l1.length c1] w fun e w' => e = .returned (.tuple #[.int .i64 r1, .int .i64 r2]) ∧ Below w.heap.size w w' := by
  have hu39 := Try.underlying39
  have HR1 := Aside0.mk hr1
  have HC1 := Aside0.mk hc1
  clear hr1 hc1
  have HB := Aside0.mk (Below.refl w.heap.size w)
  have H : (ledger_Total.l0 k (([a0] : List Int)) l1 (l1.length : Int) 0) = some (r1, r2) := h
  clear h
  obtain ⟨y357, hy357⟩ : ∃ y_ : List Int, y_ = (([a0] : List Int)) := ⟨_, rfl⟩
  replace H : (ledger_Total.l0 k y357 l1 (l1.length : Int) 0) = some (r1, r2) := by first | (rw [hy357]; with_reducible exact H) | (have H2_ := (Option.bind_some _ _).symm.trans H; rw [hy357]; with_reducible exact H2_) | (have H2_ := (Option.bind_some _ _).symm.trans H; with_reducible exact H2_) | with_reducible exact H | (rw [hy357]; exact H) | exact H
  have Ny357 := Aside0.mk hy357
  clear hy357
  have H' := Aside0.mk H
  clear H
  go_enter Try.func16, Try.ntmps16
  go_wp2_with (first | ((with_reducible refine gate_dst (N := 10) rfl ?_); refine Kd.R_lit (Kd.int .i64) _ 3 ?hg (N := 10) ?hd (xs := ([a0] : List Int)) (inner := [.int .i64 a0]) (ok := fun _ => True) (okp := fun _ => True) ?hr ?hp (fun _ hk => hk) trivial (Below.refl _ _) (Nat.le_refl _) (by simp) ?_; (case hd => rfl); (case hg => rfl); (case hr => first | (go_simp; done) | (go_simp; rfl)); (case hp => exact (Reps.one (show Kd.M (Kd.int .i64) _ _ _ a0 [.int .i64 a0] from rfl) (Reps.none _ _))); intro v358 w3 ho4 hb hg_ hnew_; clear hg_ hnew_; (first | rw [← Ny357.out] at ho4 | (simp only [Int.reduceToNat] at ho4; rw [← Ny357.out] at ho4)); have n0_ := Aside0.mk (Kd.R_lower ho4 (below_size (by repeat (first | (with_reducible first | exact HB.out | apply below_alloc | apply pw_below_drewN | apply below_drew1) | exact HB.out)))); have n1_ := Aside0.mk (below_step (by repeat (first | (with_reducible first | exact HB.out | apply below_alloc | apply pw_below_drewN | apply below_drew1) | exact HB.out)) hb); clear HB; have HO359 := n0_; have HB := n1_; clear n0_ n1_; clear hb ho4))
  go_loopg [6, 13] k (fun kq v6 v13 w' => ∃ (x6_1 : List Int) (x13_1 : Int), v13 = .int .i64 x13_1 ∧ Aside0 (ledger_Total.l0 kq x6_1 l1 (l1.length : Int) x13_1 = some (r1, r2)) ∧ Aside0 (kq ≤ k) ∧ Aside0 (Kd.R (Kd.int .i64) 3 w' w.heap.size (fun _ => True) v6 x6_1) ∧ Aside0 (Below w.heap.size w w'))
  case atStart => exact ⟨(y357), (0), (by first | rfl | (simp; done) | (simp [*]; done)), H', ⟨Nat.le_refl _⟩, ⟨by (with_reducible repeat (first | apply Kd.R_alloc | apply Kd.R_drewN | apply Kd.R_drew)); exact HO359.out⟩, ⟨by repeat (first | (with_reducible first | exact HB.out | apply below_alloc | apply pw_below_drewN | apply below_drew1) | exact HB.out)⟩⟩
  case round =>
    clear H'
    try clear c1
    try clear p2
    obtain ⟨x6_1, x13_1, rfl, HA, HK1, HO_6, HB⟩ := hrel
    cases gk with
    | zero => exact absurd HA.out (by simp [ledger_Total.l0])
    | succ k1 =>
      have H := HA.out
      clear HA
      simp only [ledger_Total.l0] at H
      by_cases c5 : x13_1 < (l1.length : Int)
      · rw [if_pos c5] at H
        have c5b0 : decide (x13_1 < (l1.length : Int)) = true := decide_eq_true c5
        clear c5
        by_cases c6 : 0 ≤ x13_1
        · rw [if_pos c6] at H
          have c6b0 : decide (0 ≤ x13_1) = true := decide_eq_true c6
          clear c6
          by_cases c7 : x13_1 < (l1.length : Int)
          · rw [if_pos c7] at H
            have c7b0 : decide (x13_1 < (l1.length : Int)) = true := decide_eq_true c7
            clear c7
            obtain ⟨y362, hy362⟩ : ∃ y_ : List Int, y_ = (([(rd_T39 l1 x13_1).f3, (rd_T39 l1 x13_1).f4, (rd_T39 l1 x13_1).f5] : List Int)) := ⟨_, rfl⟩
            replace H : (if x6_1.length + y362.length < 17592186044416 then (ledger_Total.l0 k1 (x6_1 ++ y362) l1 (l1.length : Int) (wrap64 (x13_1 + 1))) else (none)) = some (r1, r2) := by first | (rw [hy362]; with_reducible exact H) | (have H2_ := (Option.bind_some _ _).symm.trans H; rw [hy362]; with_reducible exact H2_) | (have H2_ := (Option.bind_some _ _).symm.trans H; with_reducible exact H2_) | with_reducible exact H | (rw [hy362]; exact H) | exact H
            have Ny362 := Aside0.mk hy362
            clear hy362
            by_cases c8 : x6_1.length + y362.length < 17592186044416
            · rw [if_pos c8] at H
              have LMc8 := Aside0.mk c8
              clear c8
              obtain ⟨y365, hy365⟩ : ∃ y_ : List Int, y_ = (x6_1 ++ y362) := ⟨_, rfl⟩
              replace H : (ledger_Total.l0 k1 y365 l1 (l1.length : Int) (wrap64 (x13_1 + 1))) = some (r1, r2) := by first | (rw [hy365]; with_reducible exact H) | (have H2_ := (Option.bind_some _ _).symm.trans H; rw [hy365]; with_reducible exact H2_) | (have H2_ := (Option.bind_some _ _).symm.trans H; with_reducible exact H2_) | with_reducible exact H | (rw [hy365]; exact H) | exact H
              have Ny365 := Aside0.mk hy365
              clear hy365
              have H' := Aside0.mk H
              clear H
              have p360 : 0 ≤ (x13_1 : Int) := of_decide_eq_true (by first | (with_reducible assumption) | assumption)
              have q360 : x13_1 < (l1.length : Int) := of_decide_eq_true (by first | (with_reducible assumption) | assumption)
              obtain ⟨ad360, e360, hx360_0, hx360_1, hx360_2, hx360_3, hx360_4, hx360_5⟩ := at_T39 HR1.out x13_1 p360 q360
              cases e360
              replace hx360_0 := (HB.out.cell (World.block_lt_of_cell? w _ hx360_0)).trans hx360_0
              replace hx360_1 := (HB.out.cell (World.block_lt_of_cell? w _ hx360_1)).trans hx360_1
              replace hx360_2 := (HB.out.cell (World.block_lt_of_cell? w _ hx360_2)).trans hx360_2
              replace hx360_3 := (HB.out.cell (World.block_lt_of_cell? w _ hx360_3)).trans hx360_3
              replace hx360_4 := (HB.out.cell (World.block_lt_of_cell? w _ hx360_4)).trans hx360_4
              replace hx360_5 := (HB.out.cell (World.block_lt_of_cell? w _ hx360_5)).trans hx360_5
              replace p360 := eq_true p360
              replace q360 := eq_true q360
              go_wp2_with (first | ((with_reducible refine gate_dst (N := 8) rfl ?_); refine box_event ?hg (N := 8) ?hd (cs := #[.int .i64 0, .int .i64 0, .int .i64 0, .int .i64 0, .int .i64 0, .int .i64 0]) (t := 39) ?hr ?_; (case hd => rfl); (case hg => rfl); (case hr => first | (go_simp; done) | (go_simp; rfl)); intro gb361 hg w9 hbox hb; have n0_ := Aside0.mk (Kd.R_below (by (with_reducible repeat (first | apply Kd.R_alloc | apply Kd.R_drewN | apply Kd.R_drew)); exact HO_6.out) hb); have n1_ := Aside0.mk (below_step (by repeat (first | (with_reducible first | exact HB.out | apply below_alloc | apply pw_below_drewN | apply below_drew1) | exact HB.out)) hb); have n2_ := Aside0.mk (hbox); have n3_ := Aside0.mk ((by rw [hg]; exact (below_size (by repeat (first | (with_reducible first | exact HB.out | apply below_alloc | apply pw_below_drewN | apply below_drew1) | exact HB.out))) : w.heap.size ≤ gb361)); have n4_ := Aside0.mk ((by rw [hg]; exact (below_size (by repeat (first | (with_reducible first | exact HB.out | apply below_alloc | apply pw_below_drewN | apply below_drew1) | exact HB.out))) : w.heap.size ≤ gb361)); clear HO_6; clear HB; have HO_6 := n0_; have HB := n1_; have BK361 := n2_; have GW361 := n3_; have GE361 := n4_; clear n0_ n1_ n2_ n3_ n4_; clear hb hbox hg; have hcz10_0 : w9.cell? ⟨gb361, 0, none⟩ = some (.int .i64 0) := (blk_cell BK361.out 0).trans rfl; have hcz10_1 : w9.cell? ⟨gb361, 1, none⟩ = some (.int .i64 0) := (blk_cell BK361.out 1).trans rfl; have hcz10_2 : w9.cell? ⟨gb361, 2, none⟩ = some (.int .i64 0) := (blk_cell BK361.out 2).trans rfl; have hcz10_3 : w9.cell? ⟨gb361, 3, none⟩ = some (.int .i64 0) := (blk_cell BK361.out 3).trans rfl; have hcz10_4 : w9.cell? ⟨gb361, 4, none⟩ = some (.int .i64 0) := (blk_cell BK361.out 4).trans rfl; have hcz10_5 : w9.cell? ⟨gb361, 5, none⟩ = some (.int .i64 0) := (blk_cell BK361.out 5).trans rfl; have hfz10_0 := blk_frozen BK361.out 0; have hfz10_1 := blk_frozen BK361.out 1; have hfz10_2 := blk_frozen BK361.out 2; have hfz10_3 := blk_frozen BK361.out 3; have hfz10_4 := blk_frozen BK361.out 4; have hfz10_5 := blk_frozen BK361.out 5) | ((with_reducible refine gate_dst (N := 24) rfl ?_); refine Kd.R_lit (Kd.int .i64) _ 3 ?hg (N := 24) ?hd (xs := ([(rd_T39 l1 x13_1).f3, (rd_T39 l1 x13_1).f4, (rd_T39 l1 x13_1).f5] : List Int)) (inner := [.int .i64 ((rd_T39 l1 x13_1).f3), .int .i64 ((rd_T39 l1 x13_1).f4), .int .i64 ((rd_T39 l1 x13_1).f5)]) (ok := fun _ => True) (okp := fun _ => True) ?hr ?hp (fun _ hk => hk) trivial (Below.refl _ _) (Nat.le_refl _) (by simp) ?_; (case hd => rfl); (case hg => rfl); (case hr => first | (go_simp; done) | (go_simp; rfl)); (case hp => exact (Reps.one (show Kd.M (Kd.int .i64) _ _ _ ((rd_T39 l1 x13_1).f3) [.int .i64 ((rd_T39 l1 x13_1).f3)] from rfl) (Reps.one (show Kd.M (Kd.int .i64) _ _ _ ((rd_T39 l1 x13_1).f4) [.int .i64 ((rd_T39 l1 x13_1).f4)] from rfl) (Reps.one (show Kd.M (Kd.int .i64) _ _ _ ((rd_T39 l1 x13_1).f5) [.int .i64 ((rd_T39 l1 x13_1).f5)] from rfl) (Reps.none _ _))))); intro v363 w11 ho12 hb hg_ hnew_; clear hg_ hnew_; (first | rw [← Ny362.out] at ho12 | (simp only [Int.reduceToNat] at ho12; rw [← Ny362.out] at ho12)); have n0_ := Aside0.mk (Kd.R_elder' (by (with_reducible repeat (first | apply Kd.R_alloc | apply Kd.R_drewN | apply Kd.R_drew)); exact (Kd.R_mono (Kd.R_far (p := ⟨gb361, 5, none⟩) (Kd.R_far (p := ⟨gb361, 4, none⟩) (Kd.R_far (p := ⟨gb361, 3, none⟩) (Kd.R_far (p := ⟨gb361, 2, none⟩) (Kd.R_far (p := ⟨gb361, 1, none⟩) (Kd.R_far (p := ⟨gb361, 0, none⟩) (Kd.R_types HO_6.out BK361.out (by decide)) (fun _ hk => hk.2) (.int .i64 ((rd_T39 l1 x13_1).f0))) (fun _ hk => hk.2) (.int .i64 ((rd_T39 l1 x13_1).f1))) (fun _ hk => hk.2) (.int .i64 ((rd_T39 l1 x13_1).f2))) (fun _ hk => hk.2) (.int .i64 ((rd_T39 l1 x13_1).f3))) (fun _ hk => hk.2) (.int .i64 ((rd_T39 l1 x13_1).f4))) (fun _ hk => hk.2) (.int .i64 ((rd_T39 l1 x13_1).f5))) (fun _ h_ => h_.1))) (Kd.R_base ho12) hb); have n1_ := Aside0.mk (Kd.R_lower (Kd.R_new' ho12 (Kd.R_lt (by (with_reducible repeat (first | apply Kd.R_alloc | apply Kd.R_drewN | apply Kd.R_drew)); exact (Kd.R_mono (Kd.R_far (p := ⟨gb361, 5, none⟩) (Kd.R_far (p := ⟨gb361, 4, none⟩) (Kd.R_far (p := ⟨gb361, 3, none⟩) (Kd.R_far (p := ⟨gb361, 2, none⟩) (Kd.R_far (p := ⟨gb361, 1, none⟩) (Kd.R_far (p := ⟨gb361, 0, none⟩) (Kd.R_types HO_6.out BK361.out (by decide)) (fun _ hk => hk.2) (.int .i64 ((rd_T39 l1 x13_1).f0))) (fun _ hk => hk.2) (.int .i64 ((rd_T39 l1 x13_1).f1))) (fun _ hk => hk.2) (.int .i64 ((rd_T39 l1 x13_1).f2))) (fun _ hk => hk.2) (.int .i64 ((rd_T39 l1 x13_1).f3))) (fun _ hk => hk.2) (.int .i64 ((rd_T39 l1 x13_1).f4))) (fun _ hk => hk.2) (.int .i64 ((rd_T39 l1 x13_1).f5))) (fun _ h_ => h_.1))))) (below_size (by repeat (first | (with_reducible first | exact HB.out | apply below_alloc | apply pw_below_drewN | apply below_drew1 | refine below_set ?_ GE361.out) | exact HB.out)))); have n2_ := Aside0.mk (blk_below (g := gb361) (o := .cells #[.int .i64 ((rd_T39 l1 x13_1).f0), .int .i64 ((rd_T39 l1 x13_1).f1), .int .i64 ((rd_T39 l1 x13_1).f2), .int .i64 ((rd_T39 l1 x13_1).f3), .int .i64 ((rd_T39 l1 x13_1).f4), .int .i64 ((rd_T39 l1 x13_1).f5)] 39 (0, 0)) (by (with_reducible repeat (first | refine blk_drewN ?_ _ | refine blk_drew ?_ | refine blk_alloc ?_ _)); refine blk_put (cs := #[.int .i64 ((rd_T39 l1 x13_1).f0), .int .i64 ((rd_T39 l1 x13_1).f1), .int .i64 ((rd_T39 l1 x13_1).f2), .int .i64 ((rd_T39 l1 x13_1).f3), .int .i64 ((rd_T39 l1 x13_1).f4), .int .i64 0]) ?_ 5 _ rfl; (with_reducible repeat (first | refine blk_drewN ?_ _ | refine blk_drew ?_ | refine blk_alloc ?_ _)); refine blk_put (cs := #[.int .i64 ((rd_T39 l1 x13_1).f0), .int .i64 ((rd_T39 l1 x13_1).f1), .int .i64 ((rd_T39 l1 x13_1).f2), .int .i64 ((rd_T39 l1 x13_1).f3), .int .i64 0, .int .i64 0]) ?_ 4 _ rfl; (with_reducible repeat (first | refine blk_drewN ?_ _ | refine blk_drew ?_ | refine blk_alloc ?_ _)); refine blk_put (cs := #[.int .i64 ((rd_T39 l1 x13_1).f0), .int .i64 ((rd_T39 l1 x13_1).f1), .int .i64 ((rd_T39 l1 x13_1).f2), .int .i64 0, .int .i64 0, .int .i64 0]) ?_ 3 _ rfl; (with_reducible repeat (first | refine blk_drewN ?_ _ | refine blk_drew ?_ | refine blk_alloc ?_ _)); refine blk_put (cs := #[.int .i64 ((rd_T39 l1 x13_1).f0), .int .i64 ((rd_T39 l1 x13_1).f1), .int .i64 0, .int .i64 0, .int .i64 0, .int .i64 0]) ?_ 2 _ rfl; (with_reducible repeat (first | refine blk_drewN ?_ _ | refine blk_drew ?_ | refine blk_alloc ?_ _)); refine blk_put (cs := #[.int .i64 ((rd_T39 l1 x13_1).f0), .int .i64 0, .int .i64 0, .int .i64 0, .int .i64 0, .int .i64 0]) ?_ 1 _ rfl; (with_reducible repeat (first | refine blk_drewN ?_ _ | refine blk_drew ?_ | refine blk_alloc ?_ _)); refine blk_put (cs := #[.int .i64 0, .int .i64 0, .int .i64 0, .int .i64 0, .int .i64 0, .int .i64 0]) ?_ 0 _ rfl; (with_reducible repeat (first | refine blk_drewN ?_ _ | refine blk_drew ?_ | refine blk_alloc ?_ _)); exact BK361.out) hb); have n3_ := Aside0.mk (below_step (by repeat (first | (with_reducible first | exact HB.out | apply below_alloc | apply pw_below_drewN | apply below_drew1 | refine below_set ?_ GE361.out) | exact HB.out)) hb); clear HO_6; clear BK361; clear HB; have HO_6 := n0_; have HO364 := n1_; have BK361 := n2_; have HB := n3_; clear n0_ n1_ n2_ n3_; clear hb ho12; obtain ⟨Ao14, co14, eo14⟩ := Kd.R_slice HO364.out; subst eo14) | ((with_reducible refine gate_builtin (b := .append) (xs := #[.tmp 17, .tmp 24]) rfl ?_); at_builtin; refine Kd.R_append_rows (Kd.int .i64) (w0 := w) w.heap.size rfl (.tmp 17) (.tmp 24) 40 3 (.int .i64 0) 8 rfl Try.underlying40 info3 rfl (by decide) (by omega) u6 x6_1 y362 _ _ _ (fun k_ => some k_ ≠ (.slice Ao14 y362.length co14 : Value).ownBlock) (fun _ => False) rfl rfl ?aO ?aR (fun _ _ h => h) (fun _ h => h.elim) ?aF ?aB ?aS ?aL ?_; (case aR => repeat (first | exact (Kd.R_reads' HO364.out).2.2 | (with_reducible refine Kd.C_alloc ?_ _) | (with_reducible refine Kd.C_drewN ?_ _) | (with_reducible refine Kd.C_drew ?_))); (case aB => exact (by repeat (first | (with_reducible first | exact HB.out | apply below_alloc | apply pw_below_drewN | apply below_drew1 | refine below_set ?_ GE361.out) | exact HB.out))); (case aF => exact (fun k_ hk => Kd.fresh' (Kd.R_lt (by (with_reducible repeat (first | apply Kd.R_alloc | apply Kd.R_drewN | apply Kd.R_drew)); exact HO364.out)) k_ hk)); (case aO => exact (by (with_reducible repeat (first | apply Kd.R_alloc | apply Kd.R_drewN | apply Kd.R_drew)); exact Kd.R_mono HO_6.out (fun _ hk => hk.2))); (case aS => exact (below_size (by repeat (first | (with_reducible first | exact HB.out | apply below_alloc | apply pw_below_drewN | apply below_drew1 | refine below_set ?_ GE361.out) | exact HB.out)))); (case aL => have := LMc8.out; omega); intro v366 w13 ho hb hg hat; rw [← Ny365.out] at ho; have n0_ := Aside0.mk (blk_grown (g := gb361) (o := .cells #[.int .i64 ((rd_T39 l1 x13_1).f0), .int .i64 ((rd_T39 l1 x13_1).f1), .int .i64 ((rd_T39 l1 x13_1).f2), .int .i64 ((rd_T39 l1 x13_1).f3), .int .i64 ((rd_T39 l1 x13_1).f4), .int .i64 ((rd_T39 l1 x13_1).f5)] 39 (0, 0)) (by (with_reducible repeat (first | refine blk_drewN ?_ _ | refine blk_drew ?_ | refine blk_alloc ?_ _)); exact BK361.out) hg (Kd.R_ne HO_6.out BK361.out (by decide))); have n1_ := Aside0.mk (Kd.R_after (ok := (fun _ => True)) (by (with_reducible repeat (first | apply Kd.R_alloc | apply Kd.R_drewN | apply Kd.R_drew)); exact HO364.out) hg hat); have n2_ := Aside0.mk (hb); have n3_ := Aside0.mk (ho); clear BK361; clear HO364; clear HB; clear HO_6; have BK361 := n0_; have HO364 := n1_; have HB := n2_; have HO367 := n3_; clear n0_ n1_ n2_ n3_; clear ho hb hg hat))
              go_roundg k1
              case measure => have := HK1.out; omega
              case rel => exact ⟨(y365), (wrap64 (x13_1 + 1)), (by first | rfl | (simp; done) | (simp [*]; done)), H', ⟨by have := HK1.out; omega⟩, ⟨by (with_reducible repeat (first | apply Kd.R_alloc | apply Kd.R_drewN | apply Kd.R_drew)); exact Kd.R_mono HO367.out (fun _ hk => trivial)⟩, ⟨by repeat (first | (with_reducible first | exact HB.out | apply below_alloc | apply pw_below_drewN | apply below_drew1 | refine below_set ?_ GE361.out) | exact HB.out)⟩⟩
            · rw [if_neg c8] at H
              exact absurd H (by simp)
          · rw [if_neg c7] at H
            exact absurd H (by simp)
        · rw [if_neg c6] at H
          exact absurd H (by simp)
      · rw [if_neg c5] at H
        have c5b0 : decide (x13_1 < (l1.length : Int)) = false := decide_eq_false c5
        clear c5
        replace H := Option.bind_eq_some_iff.mp H
        obtain ⟨⟨t368, t369⟩, A150, H⟩ := H
        replace H : (some (t368, t369)) = some (r1, r2) := H
        have A15 := Aside0.mk A150
        clear A150
        simp only [Option.some.injEq, Prod.mk.injEq] at H
        obtain ⟨rfl, rfl⟩ := H
        obtain ⟨Ao16, co16, eo16⟩ := Kd.R_slice HO_6.out
        subst eo16
        go_wp2_with (first | ((with_reducible refine gate_callee (f := 23) rfl ?_); refine goesL_ (some 28) rfl rfl Try.func23 (by kernel_rfl) rfl #[.slice Ao16 x6_1.length co16] rfl (by (try simp only [List.map_toArray, List.map_cons, List.map_nil]); first | done | rfl | (simp only [List.length_drop, List.length_take]; rfl)) ?_; (with_reducible refine (money_Add.calls k1 _ _ x6_1 t368 t369 _ ?side1 ?side2 A15.out).mono ?_); (case side1 => repeat (first | exact (Kd.R_reads' HO_6.out).2.2 | (with_reducible refine Kd.C_alloc ?_ _) | (with_reducible refine Kd.C_drewN ?_ _) | (with_reducible refine Kd.C_drew ?_))); (case side2 => exact (Kd.R_reads' HO_6.out).2.1); rintro e w' ⟨rfl, ⟨nd, rfl⟩⟩; refine ⟨_, rfl, ?_⟩))
        go_ret2
        exact ⟨by first | rfl | (simp [errW_none, errW_some] <;> rfl) | (simp [*, errW_none, errW_some] <;> rfl), by repeat (first | (with_reducible first | exact HB.out | apply below_alloc | apply pw_below_drewN | apply below_drew1) | exact HB.out)⟩

end Go.Proofs.Ytkjkonkgcepanaa.PAll
