/- Words, plain functions and contracts of the functions that the law of this claim reaches; no conditions. -/
import Derived.Test.YtedpoahndddgfaaBConsPlans3
section
namespace Go.Proofs.Ytedpoahndddgfaa.PAll
open Go.RowKit Go.Proofs.YtedpoahndddgfaaW.PrintWords Go.Proofs.YtedpoahndddgfaaW.PrintLast Go.Proofs.YtedpoahndddgfaaW.PrintMore
attribute [local go_sem] max2_int min2_int max_two min_two max_three min_three max_four min_four   -- for this text's walks alone
set_option linter.unusedVariables false
set_option linter.unusedSimpArgs false

/-! ### profile_Fit: function 17 -/
def profile_Fit.l0 : Nat → List (S40) → Int → Int → Int → List (S40) → Int → Int → Option (Int × Bool)
 | 0, _, _, _, _, _, _, _ => none
 | k + 1, x0, x1, x2, x8, x11, x12, x13 => if x13 < x12 then (if 0 ≤ x13 then (if x13 < (x11.length : Int) then (if ((rd_T40 x11 x13).f1) < x1 then (if (-1) ≥ 0 then (if (wrap64 (x13 + 1)) = (x0.length : Int) then (if 0 ≤ (-1) then (if (-1) < (x0.length : Int) then (some ((rd_T40 x0 (-1)).f0, true)) else (none)) else (none)) else (if 0 ≤ (wrap64 (x13 + 1)) then (if (wrap64 (x13 + 1)) < (x0.length : Int) then (if 0 ≤ (-1) then (if (-1) < (x0.length : Int) then (if (wrap64 (((rd_T40 x0 (wrap64 (x13 + 1))).f0) - ((rd_T40 x0 (-1)).f0))) ≥ (mx x2 1) then (some ((rd_T40 x0 (-1)).f0, true)) else (profile_Fit.l0 k x0 x1 x2 (-1) x11 x12 (wrap64 (x13 + 1)))) else (none)) else (none)) else (none)) else (none))) else (profile_Fit.l0 k x0 x1 x2 (-1) x11 x12 (wrap64 (x13 + 1)))) else (if x8 < 0 then (if x13 ≥ 0 then (if (wrap64 (x13 + 1)) = (x0.length : Int) then (if x13 < (x0.length : Int) then (some ((rd_T40 x0 x13).f0, true)) else (none)) else (if 0 ≤ (wrap64 (x13 + 1)) then (if (wrap64 (x13 + 1)) < (x0.length : Int) then (if x13 < (x0.length : Int) then (if (wrap64 (((rd_T40 x0 (wrap64 (x13 + 1))).f0) - ((rd_T40 x0 x13).f0))) ≥ (mx x2 1) then (some ((rd_T40 x0 x13).f0, true)) else (profile_Fit.l0 k x0 x1 x2 x13 x11 x12 (wrap64 (x13 + 1)))) else (none)) else (none)) else (none))) else (profile_Fit.l0 k x0 x1 x2 x13 x11 x12 (wrap64 (x13 + 1)))) else (if x8 ≥ 0 then (if (wrap64 (x13 + 1)) = (x0.length : Int) then (if 0 ≤ x8 then (if x8 < (x0.length : Int) then (some ((rd_T40 x0 x8).f0, true)) else (none)) else (none)) else (if 0 ≤ (wrap64 (x13 + 1)) then (if (wrap64 (x13 + 1)) < (x0.length : Int) then (if 0 ≤ x8 then (if x8 < (x0.length : Int) then (if (wrap64 (((rd_T40 x0 (wrap64 (x13 + 1))).f0) - ((rd_T40 x0 x8).f0))) ≥ (mx x2 1) then (some ((rd_T40 x0 x8).f0, true)) else (profile_Fit.l0 k x0 x1 x2 x8 x11 x12 (wrap64 (x13 + 1)))) else (none)) else (none)) else (none)) else (none))) else (profile_Fit.l0 k x0 x1 x2 x8 x11 x12 (wrap64 (x13 + 1)))))) else (none)) else (none)) else (some (0, false))
def profile_Fit.f (k : Nat) (l0 : List (S40)) (a1 : Int) (a2 : Int) : Option (Int × Bool) := profile_Fit.l0 k l0 a1 a2 (-1) l0 (l0.length : Int) 0
theorem profile_Fit.mono_l : ∀ k, (∀ y0 y1 y2 y3 y4 y5 y6, LeO (profile_Fit.l0 k y0 y1 y2 y3 y4 y5 y6) (profile_Fit.l0 (k + 1) y0 y1 y2 y3 y4 y5 y6))
 | 0 => fun _ _ _ _ _ _ _ r h => by simp [profile_Fit.l0] at h
 | k + 1 => by
  have ih0 := profile_Fit.mono_l k
  ·intro y0 y1 y2 y3 y4 y5 y6
   unfold profile_Fit.l0
   repeat' first
   | (with_reducible exact ih0 _ _ _ _ _ _ _)
   | (with_reducible exact LeO.refl _)
   | (with_reducible exact LeO.none _)
   | (with_reducible refine LeO.ite ?_ ?_)
   | (with_reducible refine LeO.bind ?_ (fun _ => ?_))
   | exact ih0 _ _ _ _ _ _ _
   | exact LeO.none _
   | refine LeO.ite ?_ ?_
   | refine LeO.bind ?_ (fun _ => ?_)
theorem profile_Fit.mono : ∀ a0 a1 a2 k, LeO (profile_Fit.f k a0 a1 a2) (profile_Fit.f (k + 1) a0 a1 a2) := by
 intro a0 a1 a2 k
 have ih0 := profile_Fit.mono_l k
 unfold profile_Fit.f
 repeat' first
   | (with_reducible exact ih0 _ _ _ _ _ _ _)
   | (with_reducible exact LeO.refl _)
   | (with_reducible exact LeO.none _)
   | (with_reducible refine LeO.ite ?_ ?_)
   | (with_reducible refine LeO.bind ?_ (fun _ => ?_))
   | exact ih0 _ _ _ _ _ _ _
   | exact LeO.none _
   | refine LeO.ite ?_ ?_
   | refine LeO.bind ?_ (fun _ => ?_)
def profile_Fit.T9 : Bool × List (List Nat × List Nat) := (true, [([], []), ([0], [0]), ([1], [1]), ([2], [2]), ([3, 2], [2, 3]), ([2], [2]), ([5, 2], [2, 5]), ([4, 6, 2], [2, 4, 6]), ([7, 2, 2], [2, 7]), ([8], [8]), ([8], [8]), ([10, 8], [8, 10]), ([9, 11, 8], [8, 9, 11]), ([12, 8], [8, 12]), ([13, 8], [8, 13]), ([8], [8]), ([8], [8]), ([15, 16, 8], [8, 15, 16]), ([17, 8], [8, 17]), ([18, 8], [8, 18]), ([14, 19, 8], [8, 14, 19]), ([8], [8]), ([21, 8], [8, 21]), ([20, 22, 8], [8, 20, 22]), ([8, 23, 2], [2, 8, 23]), ([2, 24], [2, 24])])
def profile_Fit.B9 : List Nat := [0, 1, 3, 7, 15, 7, 39, 127, 255, 511, 511, 1535, 4095, 8191, 16383, 511, 511, 98815, 229887, 492031, 1048575, 511, 2097663, 8388607, 16777215, 33554431]
theorem profile_Fit.tab9 : rtab .any (opsOf Try.f17 9) = profile_Fit.T9 := by kernel_rfl
theorem profile_Fit.bits9 : waitsOk profile_Fit.T9.2 profile_Fit.B9 = true := by kernel_rfl
set_option maxHeartbeats 8000000 in
set_option maxRecDepth 100000 in
theorem profile_Fit.calls (k : Nat) (A0 : Option Addr) (c0 : Nat) (l0 : List (S40)) (a1 : Int) (a2 : Int) (r1 : Int) (r2 : Bool) (w : World) (hr0 : Kd.C k40 w A0 l0.length l0) (hc0 : l0.length ≤ c0) (h : profile_Fit.f k l0 a1 a2 = some (r1, r2)) :
  Calls Try.prog 17 #[.slice A0 l0.length c0, .int .i64 a1, .int .i64 a2] w fun e w' => e = .returned (.tuple #[.int .i64 r1, .bool r2]) ∧ Below w.heap.size w w' := by
 have hu40 := Try.underlying40
 have HR0 := Aside0.mk hr0
 have HC0 := Aside0.mk hc0
 clear hr0; clear hc0
 have HB := Aside0.mk (Below.refl w.heap.size w)
 have H : (profile_Fit.l0 k l0 a1 a2 (-1) l0 (l0.length : Int) 0) = some (r1, r2) := h
 clear h
 have H' := Aside0.mk H
 clear H
 go_enter Try.func17, Try.ntmps17
 go_wp2
 go_loopg [8, 13] k (fun kq v8 v13 w' => ∃ (x8_1 : Int) (x13_1 : Int), v8 = .int .i64 x8_1 ∧ v13 = .int .i64 x13_1 ∧ Aside0 (profile_Fit.l0 kq l0 a1 a2 x8_1 l0 (l0.length : Int) x13_1 = some (r1, r2)) ∧ Aside0 (kq ≤ k) ∧ Aside0 (Below w.heap.size w w'))
 case atStart => exact ⟨((-1)), (0), ez, ez, H', ⟨Nat.le_refl _⟩, ⟨mB HB.out⟩⟩
 case round =>
  clear H'
  (try clear c1); (try clear p2)
  obtain ⟨x8_1, x13_1, rfl, rfl, HA, HK1, HB⟩ := hrel
  cases gk with
  | zero => exact absurd HA.out (by simp [profile_Fit.l0])
  | succ k1 =>
   have H := HA.out
   clear HA
   simp only [profile_Fit.l0] at H
   by_cases c4 : x13_1 < (l0.length : Int)
   ·rw [if_pos c4] at H
    have c4b0 : decide (x13_1 < (l0.length : Int)) = true := decide_eq_true c4
    clear c4
    by_cases c5 : 0 ≤ x13_1
    ·rw [if_pos c5] at H
     have c5b0 : decide (0 ≤ x13_1) = true := decide_eq_true c5
     clear c5
     by_cases c6 : x13_1 < (l0.length : Int)
     ·rw [if_pos c6] at H
      have c6b0 : decide (x13_1 < (l0.length : Int)) = true := decide_eq_true c6
      clear c6
      by_cases c7 : ((rd_T40 l0 x13_1).f1) < a1
      ·rw [if_pos c7] at H
       have c7b0 : decide (((rd_T40 l0 x13_1).f1) < a1) = true := decide_eq_true c7
       clear c7
       by_cases c8 : (-1) ≥ 0
       · exact absurd c8 (by decide)
       ·rw [if_neg c8] at H
        have c8b0 : decide (0 ≤ (-1)) = false := decide_eq_false c8
        clear c8
        have H' := Aside0.mk H
        clear H
        have p252 : 0 ≤ (x13_1 : Int) := oda
        have q252 : x13_1 < (l0.length : Int) := oda
        obtain ⟨ad252, e252, hx252_0, hx252_1⟩ := at_T40 HR0.out x13_1 p252 q252
        cases e252
        replace hx252_0 := (HB.out.cell (World.block_lt_of_cell? w _ hx252_0)).trans hx252_0
        replace hx252_1 := (HB.out.cell (World.block_lt_of_cell? w _ hx252_1)).trans hx252_1
        replace p252 := eq_true p252
        replace q252 := eq_true q252
        try go_wp2_with (first | ((with_reducible refine gate_dst (N := 10) rfl ?_); refine box_event ?hg (N := 10) ?hd (cs := #[.int .i64 0, .int .i64 0]) (t := 40) ?hr ?_; (case hd => rfl); (case hg => rfl); (case hr => first | (go_simp; done) | (go_simp; rfl)); intro gb253 hg w31 hbox hb; have n0_ := Aside0.mk (below_step (mB HB.out) hb); have n1_ := Aside0.mk (hbox); have n2_ := Aside0.mk ((by rw [hg]; exact (below_size (mB HB.out)) : w.heap.size ≤ gb253)); have n3_ := Aside0.mk ((by rw [hg]; exact (below_size (mB HB.out)) : w.heap.size ≤ gb253)); clear HB; have HB := n0_; have BK253 := n1_; have GW253 := n2_; have GE253 := n3_; clear n0_ n1_ n2_ n3_; clear hb hbox hg; have hcz32_0 : w31.cell? ⟨gb253, 0, none⟩ = some (.int .i64 0) := (blk_cell BK253.out 0).trans rfl; have hcz32_1 : w31.cell? ⟨gb253, 1, none⟩ = some (.int .i64 0) := (blk_cell BK253.out 1).trans rfl; have hfz32_0 := blk_frozen BK253.out 0; have hfz32_1 := blk_frozen BK253.out 1))
        have n0_ : Aside0 (((w31.setCell ⟨gb253, 0, none⟩ (.int .i64 ((rd_T40 l0 x13_1).f0))).setCell ⟨gb253, 1, none⟩ (.int .i64 ((rd_T40 l0 x13_1).f1))).heap[gb253]? = some (.cells #[.int .i64 ((rd_T40 l0 x13_1).f0), .int .i64 ((rd_T40 l0 x13_1).f1)] 40 (0, 0))) := ⟨by (with_reducible repeat (first | refine blk_drewN ?_ _ | refine blk_drew ?_ | refine blk_alloc ?_ _)); refine blk_put (cs := #[.int .i64 ((rd_T40 l0 x13_1).f0), .int .i64 0]) ?_ 1 _ rfl; (with_reducible repeat (first | refine blk_drewN ?_ _ | refine blk_drew ?_ | refine blk_alloc ?_ _)); refine blk_put (cs := #[.int .i64 0, .int .i64 0]) ?_ 0 _ rfl; (with_reducible repeat (first | refine blk_drewN ?_ _ | refine blk_drew ?_ | refine blk_alloc ?_ _)); exact BK253.out⟩
        have n1_ : Aside0 (Below w.heap.size w ((w31.setCell ⟨gb253, 0, none⟩ (.int .i64 ((rd_T40 l0 x13_1).f0))).setCell ⟨gb253, 1, none⟩ (.int .i64 ((rd_T40 l0 x13_1).f1)))) := ⟨mBs HB.out⟩
        (try clear BK253); (try clear HB)
        generalize ((w31.setCell ⟨gb253, 0, none⟩ (.int .i64 ((rd_T40 l0 x13_1).f0))).setCell ⟨gb253, 1, none⟩ (.int .i64 ((rd_T40 l0 x13_1).f1))) = w33 at n0_ n1_ ⊢
        have BK253 := n0_
        have HB := n1_
        clear n0_; clear n1_
        have n0_ := Aside0.mk (blk_drew BK253.out)
        have n1_ := Aside0.mk (below_drew1 HB.out)
        clear BK253; clear HB
        have BK253 := n0_
        have HB := n1_
        clear n0_; clear n1_
        refine start_ (n := 26) (S := fun w' => True) (ds := []) #[false, false, false, false, false, false, false, false, false, false, false, false, false, false, false, false, false, false, false, false, false, false, false, false, false, false] (by kernel_rfl) rfl rfl trivial (fun hHeld => ?_); refine with_tabW profile_Fit.tab9 profile_Fit.bits9 (fun HT_ HW_ => ?_)
        generalize w33.drew = w34 at BK253 HB hHeld ⊢
        refine plan_ [(0, 27), (1, 28), (2, 29)] ?_
        iterate 3 (refine planP_ (v := ?_) (a' := ?_) rfl rfl (any_of HT_.out (by kernel_rfl)) (fun _ _ _ h => h) (Or.inl ⟨by rfl, ?_⟩) ?_ ?_; rotate_left; (intro w'; go_simp; with_reducible rfl); rotate_left; (simp only [Act.put, List.setIfInBounds_toArray, List.set_cons_zero, List.set_cons_succ, i64_w, i32_w]; rfl))
        refine planEnd_ ?_
        refine plan_ [(3, 30), (4, 31), (5, 32), (6, 33), (7, 34), (8, 35), (9, 36), (10, 37), (11, 38), (12, 39), (13, 40), (14, 41), (15, 42), (16, 43), (17, 44), (18, 45), (19, 46), (20, 47), (21, 48), (22, 49), (23, 50), (24, 51)] ?_
        iterate 22 (refine planP_ (v := undef) (a' := ?_) rfl rfl (any_of HT_.out (by kernel_rfl)) (fun _ _ _ h => h) (Or.inr ⟨by rfl, rfl⟩) ?_ ?_; rotate_left; (simp only [Act.put, List.setIfInBounds_toArray, List.set_cons_zero, List.set_cons_succ, i64_w, i32_w]; rfl))
        refine planEnd_ ?_
        refine plan_ [(25, 52)] ?_
        refine planP_ (v := ?_) (a' := ?_) rfl rfl (any_of HT_.out (by kernel_rfl)) (fun _ _ _ h => h) (Or.inl ⟨by rfl, ?_⟩) ?_ ?_; rotate_left; (intro w'; go_simp; with_reducible rfl); rotate_left; (simp only [Act.put, List.setIfInBounds_toArray, List.set_cons_zero, List.set_cons_succ, i64_w, i32_w]; rfl)
        refine planEnd_ ?_
        refine done_ (done_of HT_.out (by kernel_rfl)) ?_
        try go_wp2
        go_roundg k1
        case measure => have := HK1.out; omega
        case rel => exact ⟨((-1)), (wrap64 (x13_1 + 1)), ez, ez, H', ⟨by have := HK1.out; omega⟩, ⟨mBs HB.out⟩⟩
      ·rw [if_neg c7] at H
       have c7b0 : decide (((rd_T40 l0 x13_1).f1) < a1) = false := decide_eq_false c7
       clear c7
       by_cases c35 : x8_1 < 0
       ·rw [if_pos c35] at H
        have c35b0 : decide (x8_1 < 0) = true := decide_eq_true c35
        clear c35
        by_cases c36 : x13_1 ≥ 0
        ·rw [if_pos c36] at H
         have c36b0 : decide (0 ≤ x13_1) = true := decide_eq_true c36
         clear c36
         by_cases c37 : (wrap64 (x13_1 + 1)) = (l0.length : Int)
         ·rw [if_pos c37] at H
          have c37b0 : ((wrap64 (x13_1 + 1)) == (l0.length : Int)) = true := beq_iff_eq.mpr c37
          have c37b1 : ((wrap64 (x13_1 + 1)) != (l0.length : Int)) = false := bne_eq_false_iff_eq.mpr c37
          clear c37
          by_cases c38 : x13_1 < (l0.length : Int)
          ·rw [if_pos c38] at H
           have c38b0 : decide (x13_1 < (l0.length : Int)) = true := decide_eq_true c38
           clear c38
           simp only [Option.some.injEq, Prod.mk.injEq] at H
           obtain ⟨rfl, rfl⟩ := H
           have p252 : 0 ≤ (x13_1 : Int) := oda
           have q252 : x13_1 < (l0.length : Int) := oda
           obtain ⟨ad252, e252, hx252_0, hx252_1⟩ := at_T40 HR0.out x13_1 p252 q252
           cases e252
           replace hx252_0 := (HB.out.cell (World.block_lt_of_cell? w _ hx252_0)).trans hx252_0
           replace hx252_1 := (HB.out.cell (World.block_lt_of_cell? w _ hx252_1)).trans hx252_1
           replace p252 := eq_true p252
           replace q252 := eq_true q252
           try go_wp2_with (first | ((with_reducible refine gate_dst (N := 10) rfl ?_); refine box_event ?hg (N := 10) ?hd (cs := #[.int .i64 0, .int .i64 0]) (t := 40) ?hr ?_; (case hd => rfl); (case hg => rfl); (case hr => first | (go_simp; done) | (go_simp; rfl)); intro gb253 hg w39 hbox hb; have n0_ := Aside0.mk (below_step (mB HB.out) hb); have n1_ := Aside0.mk (hbox); have n2_ := Aside0.mk ((by rw [hg]; exact (below_size (mB HB.out)) : w.heap.size ≤ gb253)); have n3_ := Aside0.mk ((by rw [hg]; exact (below_size (mB HB.out)) : w.heap.size ≤ gb253)); clear HB; have HB := n0_; have BK253 := n1_; have GW253 := n2_; have GE253 := n3_; clear n0_ n1_ n2_ n3_; clear hb hbox hg; have hcz40_0 : w39.cell? ⟨gb253, 0, none⟩ = some (.int .i64 0) := (blk_cell BK253.out 0).trans rfl; have hcz40_1 : w39.cell? ⟨gb253, 1, none⟩ = some (.int .i64 0) := (blk_cell BK253.out 1).trans rfl; have hfz40_0 := blk_frozen BK253.out 0; have hfz40_1 := blk_frozen BK253.out 1))
           have n0_ : Aside0 (((w39.setCell ⟨gb253, 0, none⟩ (.int .i64 ((rd_T40 l0 x13_1).f0))).setCell ⟨gb253, 1, none⟩ (.int .i64 ((rd_T40 l0 x13_1).f1))).heap[gb253]? = some (.cells #[.int .i64 ((rd_T40 l0 x13_1).f0), .int .i64 ((rd_T40 l0 x13_1).f1)] 40 (0, 0))) := ⟨by (with_reducible repeat (first | refine blk_drewN ?_ _ | refine blk_drew ?_ | refine blk_alloc ?_ _)); refine blk_put (cs := #[.int .i64 ((rd_T40 l0 x13_1).f0), .int .i64 0]) ?_ 1 _ rfl; (with_reducible repeat (first | refine blk_drewN ?_ _ | refine blk_drew ?_ | refine blk_alloc ?_ _)); refine blk_put (cs := #[.int .i64 0, .int .i64 0]) ?_ 0 _ rfl; (with_reducible repeat (first | refine blk_drewN ?_ _ | refine blk_drew ?_ | refine blk_alloc ?_ _)); exact BK253.out⟩
           have n1_ : Aside0 (Below w.heap.size w ((w39.setCell ⟨gb253, 0, none⟩ (.int .i64 ((rd_T40 l0 x13_1).f0))).setCell ⟨gb253, 1, none⟩ (.int .i64 ((rd_T40 l0 x13_1).f1)))) := ⟨mBs HB.out⟩
           (try clear BK253); (try clear HB)
           generalize ((w39.setCell ⟨gb253, 0, none⟩ (.int .i64 ((rd_T40 l0 x13_1).f0))).setCell ⟨gb253, 1, none⟩ (.int .i64 ((rd_T40 l0 x13_1).f1))) = w41 at n0_ n1_ ⊢
           have BK253 := n0_
           have HB := n1_
           clear n0_; clear n1_
           have n0_ := Aside0.mk (blk_drew BK253.out)
           have n1_ := Aside0.mk (below_drew1 HB.out)
           clear BK253; clear HB
           have BK253 := n0_
           have HB := n1_
           clear n0_; clear n1_
           refine start_ (n := 26) (S := fun w' => True) (ds := []) #[false, false, false, false, false, false, false, false, false, false, false, false, false, false, false, false, false, false, false, false, false, false, false, false, false, false] (by kernel_rfl) rfl rfl trivial (fun hHeld => ?_); refine with_tabW profile_Fit.tab9 profile_Fit.bits9 (fun HT_ HW_ => ?_)
           generalize w41.drew = w42 at BK253 HB hHeld ⊢
           refine plan_ [(0, 27), (1, 28), (2, 29), (3, 30), (4, 31), (5, 32), (6, 33), (7, 34), (8, 35)] ?_
           iterate 9 (refine planP_ (v := ?_) (a' := ?_) rfl rfl (any_of HT_.out (by kernel_rfl)) (fun _ _ _ h => h) (Or.inl ⟨by rfl, ?_⟩) ?_ ?_; rotate_left; (intro w'; go_simp; with_reducible rfl); rotate_left; (simp only [Act.put, List.setIfInBounds_toArray, List.set_cons_zero, List.set_cons_succ, i64_w, i32_w]; rfl))
           refine planEnd_ ?_
           refine plan_ [(9, 36), (10, 37), (11, 38), (12, 39), (13, 40), (14, 41), (15, 42), (16, 43), (17, 44), (18, 45), (19, 46), (20, 47), (21, 48), (22, 49), (23, 50)] ?_
           iterate 15 (refine planP_ (v := undef) (a' := ?_) rfl rfl (any_of HT_.out (by kernel_rfl)) (fun _ _ _ h => h) (Or.inr ⟨by rfl, rfl⟩) ?_ ?_; rotate_left; (simp only [Act.put, List.setIfInBounds_toArray, List.set_cons_zero, List.set_cons_succ, i64_w, i32_w]; rfl))
           refine planEnd_ ?_
           refine plan_ [(24, 51), (25, 52)] ?_
           iterate 2 (refine planP_ (v := ?_) (a' := ?_) rfl rfl (any_of HT_.out (by kernel_rfl)) (fun _ _ _ h => h) (Or.inl ⟨by rfl, ?_⟩) ?_ ?_; rotate_left; (intro w'; go_simp; with_reducible rfl); rotate_left; (simp only [Act.put, List.setIfInBounds_toArray, List.set_cons_zero, List.set_cons_succ, i64_w, i32_w]; rfl))
           refine planEnd_ ?_
           refine done_ (done_of HT_.out (by kernel_rfl)) ?_
           have p258 : 0 ≤ (x13_1 : Int) := oda
           have q258 : x13_1 < (l0.length : Int) := oda
           obtain ⟨ad258, e258, hx258_0, hx258_1⟩ := at_T40 HR0.out x13_1 p258 q258
           obtain rfl : ad252 = ad258 := (by injection e258)
           replace hx258_0 := (HB.out.cell (World.block_lt_of_cell? w _ hx258_0)).trans hx258_0
           replace hx258_1 := (HB.out.cell (World.block_lt_of_cell? w _ hx258_1)).trans hx258_1
           replace p258 := eq_true p258
           replace q258 := eq_true q258
           try go_wp2
           go_ret2
           exact ⟨by first | rfl | (simp [errW_none, errW_some] <;> rfl) | (simp [*, errW_none, errW_some] <;> rfl), by repeat (first | (with_reducible first | exact HB.out | apply below_alloc | apply pw_below_drewN | apply below_drew1 | refine below_set ?_ GE253.out) | exact HB.out)⟩
          · exact absurd (of_decide_eq_true c4b0) c38
         ·rw [if_neg c37] at H
          have c37b0 : ((wrap64 (x13_1 + 1)) == (l0.length : Int)) = false := beq_eq_false_iff_ne.mpr c37
          have c37b1 : ((wrap64 (x13_1 + 1)) != (l0.length : Int)) = true := bne_iff_ne.mpr c37
          obtain ⟨ji43, hji43⟩ : ∃ j_ : Int, (wrap64 (x13_1 + 1)) = j_ := ⟨_, rfl⟩
          replace H : (if 0 ≤ (ji43) then (if (ji43) < (l0.length : Int) then (if x13_1 < (l0.length : Int) then (if (wrap64 (((rd_T40 l0 (ji43)).f0) - ((rd_T40 l0 x13_1).f0))) ≥ (mx a2 1) then (some ((rd_T40 l0 x13_1).f0, true)) else (profile_Fit.l0 k1 l0 a1 a2 x13_1 l0 (l0.length : Int) ji43)) else (none)) else (none)) else (none)) = some (r1, r2) := by first | (rw [hji43] at H; exact H) | (simp only [hji43] at H ⊢; exact H)
          (try rw [hji43] at c37b0)
          (try rw [hji43] at c37b1)
          have hji43w : (IntKind.i64.wrap (x13_1 + 1)) = ji43 := (i64_w _).trans hji43
          by_cases c44 : 0 ≤ (ji43)
          ·rw [if_pos c44] at H
           have c44b0 : decide (0 ≤ (ji43)) = true := decide_eq_true c44
           clear c44
           by_cases c45 : (ji43) < (l0.length : Int)
           ·rw [if_pos c45] at H
            have c45b0 : decide ((ji43) < (l0.length : Int)) = true := decide_eq_true c45
            clear c45
            by_cases c46 : x13_1 < (l0.length : Int)
            ·rw [if_pos c46] at H
             have c46b0 : decide (x13_1 < (l0.length : Int)) = true := decide_eq_true c46
             clear c46
             obtain ⟨ji47, hji47⟩ : ∃ j_ : Int, (mx a2 1) = j_ := ⟨_, rfl⟩
             replace H : (if (wrap64 (((rd_T40 l0 (ji43)).f0) - ((rd_T40 l0 x13_1).f0))) ≥ (ji47) then (some ((rd_T40 l0 x13_1).f0, true)) else (profile_Fit.l0 k1 l0 a1 a2 x13_1 l0 (l0.length : Int) ji43)) = some (r1, r2) := by first | (rw [hji47] at H; exact H) | (simp only [hji47] at H ⊢; exact H)
             have hji47_ : (if a2 < 1 then 1 else a2) = ji47 := hji47
             by_cases c48 : (wrap64 (((rd_T40 l0 (ji43)).f0) - ((rd_T40 l0 x13_1).f0))) ≥ (ji47)
             ·rw [if_pos c48] at H
              have c48b0 : decide ((ji47) ≤ (wrap64 (((rd_T40 l0 (ji43)).f0) - ((rd_T40 l0 x13_1).f0)))) = true := decide_eq_true c48
              clear c48
              simp only [Option.some.injEq, Prod.mk.injEq] at H
              obtain ⟨rfl, rfl⟩ := H
              have p252 : 0 ≤ (x13_1 : Int) := oda
              have q252 : x13_1 < (l0.length : Int) := oda
              obtain ⟨ad252, e252, hx252_0, hx252_1⟩ := at_T40 HR0.out x13_1 p252 q252
              cases e252
              replace hx252_0 := (HB.out.cell (World.block_lt_of_cell? w _ hx252_0)).trans hx252_0
              replace hx252_1 := (HB.out.cell (World.block_lt_of_cell? w _ hx252_1)).trans hx252_1
              replace p252 := eq_true p252
              replace q252 := eq_true q252
              try go_wp2_with (first | ((with_reducible refine gate_dst (N := 10) rfl ?_); refine box_event ?hg (N := 10) ?hd (cs := #[.int .i64 0, .int .i64 0]) (t := 40) ?hr ?_; (case hd => rfl); (case hg => rfl); (case hr => first | (go_simp; done) | (go_simp; rfl)); intro gb253 hg w49 hbox hb; have n0_ := Aside0.mk (below_step (mB HB.out) hb); have n1_ := Aside0.mk (hbox); have n2_ := Aside0.mk ((by rw [hg]; exact (below_size (mB HB.out)) : w.heap.size ≤ gb253)); have n3_ := Aside0.mk ((by rw [hg]; exact (below_size (mB HB.out)) : w.heap.size ≤ gb253)); clear HB; have HB := n0_; have BK253 := n1_; have GW253 := n2_; have GE253 := n3_; clear n0_ n1_ n2_ n3_; clear hb hbox hg; have hcz50_0 : w49.cell? ⟨gb253, 0, none⟩ = some (.int .i64 0) := (blk_cell BK253.out 0).trans rfl; have hcz50_1 : w49.cell? ⟨gb253, 1, none⟩ = some (.int .i64 0) := (blk_cell BK253.out 1).trans rfl; have hfz50_0 := blk_frozen BK253.out 0; have hfz50_1 := blk_frozen BK253.out 1))
              have n0_ : Aside0 (((w49.setCell ⟨gb253, 0, none⟩ (.int .i64 ((rd_T40 l0 x13_1).f0))).setCell ⟨gb253, 1, none⟩ (.int .i64 ((rd_T40 l0 x13_1).f1))).heap[gb253]? = some (.cells #[.int .i64 ((rd_T40 l0 x13_1).f0), .int .i64 ((rd_T40 l0 x13_1).f1)] 40 (0, 0))) := ⟨by (with_reducible repeat (first | refine blk_drewN ?_ _ | refine blk_drew ?_ | refine blk_alloc ?_ _)); refine blk_put (cs := #[.int .i64 ((rd_T40 l0 x13_1).f0), .int .i64 0]) ?_ 1 _ rfl; (with_reducible repeat (first | refine blk_drewN ?_ _ | refine blk_drew ?_ | refine blk_alloc ?_ _)); refine blk_put (cs := #[.int .i64 0, .int .i64 0]) ?_ 0 _ rfl; (with_reducible repeat (first | refine blk_drewN ?_ _ | refine blk_drew ?_ | refine blk_alloc ?_ _)); exact BK253.out⟩
              have n1_ : Aside0 (Below w.heap.size w ((w49.setCell ⟨gb253, 0, none⟩ (.int .i64 ((rd_T40 l0 x13_1).f0))).setCell ⟨gb253, 1, none⟩ (.int .i64 ((rd_T40 l0 x13_1).f1)))) := ⟨mBs HB.out⟩
              (try clear BK253); (try clear HB)
              generalize ((w49.setCell ⟨gb253, 0, none⟩ (.int .i64 ((rd_T40 l0 x13_1).f0))).setCell ⟨gb253, 1, none⟩ (.int .i64 ((rd_T40 l0 x13_1).f1))) = w51 at n0_ n1_ ⊢
              have BK253 := n0_
              have HB := n1_
              clear n0_; clear n1_
              have n0_ := Aside0.mk (blk_drew BK253.out)
              have n1_ := Aside0.mk (below_drew1 HB.out)
              clear BK253; clear HB
              have BK253 := n0_
              have HB := n1_
              clear n0_; clear n1_
              have p259 : 0 ≤ ((ji43) : Int) := oda
              have q259 : (ji43) < (l0.length : Int) := oda
              obtain ⟨ad259, e259, hx259_0, hx259_1⟩ := at_T40 HR0.out (ji43) p259 q259
              have hw259_1 := hx259_1
              have hw259_0 := hx259_0
              obtain rfl : ad252 = ad259 := (by injection e259)
              replace hx259_0 := (HB.out.cell (World.block_lt_of_cell? w _ hx259_0)).trans hx259_0
              replace hx259_1 := (HB.out.cell (World.block_lt_of_cell? w _ hx259_1)).trans hx259_1
              replace p259 := eq_true p259
              replace q259 := eq_true q259
              have p260 : 0 ≤ (x13_1 : Int) := oda
              have q260 : x13_1 < (l0.length : Int) := oda
              obtain ⟨ad260, e260, hx260_0, hx260_1⟩ := at_T40 HR0.out x13_1 p260 q260
              have hw260_1 := hx260_1
              have hw260_0 := hx260_0
              obtain rfl : ad252 = ad260 := (by injection e260)
              replace hx260_0 := (HB.out.cell (World.block_lt_of_cell? w _ hx260_0)).trans hx260_0
              replace hx260_1 := (HB.out.cell (World.block_lt_of_cell? w _ hx260_1)).trans hx260_1
              replace p260 := eq_true p260
              replace q260 := eq_true q260
              refine start_ (n := 26) (S := fun w' => w'.cell? (ad252.add (((ji43)).toNat * 2)) = some (.int .i64 ((rd_T40 l0 (ji43)).f0)) ∧ w'.cell? ⟨(ad252.add (((ji43)).toNat * 2)).block, (ad252.add (((ji43)).toNat * 2)).off + 1, none⟩ = some (.int .i64 ((rd_T40 l0 (ji43)).f1)) ∧ w'.cell? (ad252.add ((x13_1).toNat * 2)) = some (.int .i64 ((rd_T40 l0 x13_1).f0)) ∧ w'.cell? ⟨(ad252.add ((x13_1).toNat * 2)).block, (ad252.add ((x13_1).toNat * 2)).off + 1, none⟩ = some (.int .i64 ((rd_T40 l0 x13_1).f1))) (ds := []) #[false, false, false, false, false, false, false, false, false, false, false, false, false, false, false, false, false, false, false, false, false, false, false, false, false, false] (by kernel_rfl) rfl rfl ⟨((HB.out.cell (World.block_lt_of_cell? w _ hw259_0)).trans hw259_0), ((HB.out.cell (World.block_lt_of_cell? w _ hw259_1)).trans hw259_1), ((HB.out.cell (World.block_lt_of_cell? w _ hw260_0)).trans hw260_0), ((HB.out.cell (World.block_lt_of_cell? w _ hw260_1)).trans hw260_1)⟩ (fun hHeld => ?_); refine with_tabW profile_Fit.tab9 profile_Fit.bits9 (fun HT_ HW_ => ?_)
              generalize w51.drew = w52 at BK253 HB hx259_0 hx259_1 hx260_0 hx260_1 hHeld ⊢
              refine plan_ [(0, 27), (1, 28), (2, 29), (3, 30), (4, 31), (5, 32), (6, 33), (7, 34), (8, 35), (9, 36), (10, 37), (11, 38), (12, 39), (13, 40), (15, 42), (16, 43), (17, 44), (18, 45), (21, 48), (22, 49)] ?_
              iterate 20 (refine planP_ (v := ?_) (a' := ?_) rfl rfl (any_of HT_.out (by kernel_rfl)) (fun _ _ _ h => h) (Or.inl ⟨by rfl, ?_⟩) ?_ ?_; rotate_left; (intro w'; go_simp; with_reducible rfl); rotate_left; (simp only [Act.put, List.setIfInBounds_toArray, List.set_cons_zero, List.set_cons_succ, i64_w, i32_w]; rfl))
              refine planEnd_ ?_
              refine plan_ [(14, 41), (19, 46)] ?_
              iterate 2 (refine planT_ (v := ?_) (a' := ?_) rfl rfl (take_ofW HT_.out HW_.out (by kernel_rfl)) (fun _ _ _ h => h) (Or.inl ⟨by rfl, ?_⟩) hHeld ?_ ?_; rotate_left; (rintro w' ⟨s0, s1, s2, s3⟩; go_simp; with_reducible rfl); rotate_left; (simp only [Act.put, List.setIfInBounds_toArray, List.set_cons_zero, List.set_cons_succ, i64_w, i32_w]; rfl))
              refine planEnd_ ?_
              refine plan_ [(20, 47), (23, 50), (24, 51), (25, 52)] ?_
              iterate 4 (refine planP_ (v := ?_) (a' := ?_) rfl rfl (any_of HT_.out (by kernel_rfl)) (fun _ _ _ h => h) (Or.inl ⟨by rfl, ?_⟩) ?_ ?_; rotate_left; (intro w'; go_simp; with_reducible rfl); rotate_left; (simp only [Act.put, List.setIfInBounds_toArray, List.set_cons_zero, List.set_cons_succ, i64_w, i32_w]; rfl))
              refine planEnd_ ?_
              refine done_ (done_of HT_.out (by kernel_rfl)) ?_
              have p261 : 0 ≤ (x13_1 : Int) := oda
              have q261 : x13_1 < (l0.length : Int) := oda
              obtain ⟨ad261, e261, hx261_0, hx261_1⟩ := at_T40 HR0.out x13_1 p261 q261
              obtain rfl : ad252 = ad261 := (by injection e261)
              replace hx261_0 := (HB.out.cell (World.block_lt_of_cell? w _ hx261_0)).trans hx261_0
              replace hx261_1 := (HB.out.cell (World.block_lt_of_cell? w _ hx261_1)).trans hx261_1
              replace p261 := eq_true p261
              replace q261 := eq_true q261
              try go_wp2
              go_ret2
              exact ⟨by first | rfl | (simp [errW_none, errW_some] <;> rfl) | (simp only [← hji43, ← hji47]; first | rfl | (simp [errW_none, errW_some] <;> rfl)) | (simp [*, errW_none, errW_some] <;> rfl), by repeat (first | (with_reducible first | exact HB.out | apply below_alloc | apply pw_below_drewN | apply below_drew1 | refine below_set ?_ GE253.out) | exact HB.out)⟩
             ·rw [if_neg c48] at H
              have c48b0 : decide ((ji47) ≤ (wrap64 (((rd_T40 l0 (ji43)).f0) - ((rd_T40 l0 x13_1).f0)))) = false := decide_eq_false c48
              clear c48
              have H' := Aside0.mk H
              clear H
              have p252 : 0 ≤ (x13_1 : Int) := oda
              have q252 : x13_1 < (l0.length : Int) := oda
              obtain ⟨ad252, e252, hx252_0, hx252_1⟩ := at_T40 HR0.out x13_1 p252 q252
              cases e252
              replace hx252_0 := (HB.out.cell (World.block_lt_of_cell? w _ hx252_0)).trans hx252_0
              replace hx252_1 := (HB.out.cell (World.block_lt_of_cell? w _ hx252_1)).trans hx252_1
              replace p252 := eq_true p252
              replace q252 := eq_true q252
              try go_wp2_with (first | ((with_reducible refine gate_dst (N := 10) rfl ?_); refine box_event ?hg (N := 10) ?hd (cs := #[.int .i64 0, .int .i64 0]) (t := 40) ?hr ?_; (case hd => rfl); (case hg => rfl); (case hr => first | (go_simp; done) | (go_simp; rfl)); intro gb253 hg w53 hbox hb; have n0_ := Aside0.mk (below_step (mB HB.out) hb); have n1_ := Aside0.mk (hbox); have n2_ := Aside0.mk ((by rw [hg]; exact (below_size (mB HB.out)) : w.heap.size ≤ gb253)); have n3_ := Aside0.mk ((by rw [hg]; exact (below_size (mB HB.out)) : w.heap.size ≤ gb253)); clear HB; have HB := n0_; have BK253 := n1_; have GW253 := n2_; have GE253 := n3_; clear n0_ n1_ n2_ n3_; clear hb hbox hg; have hcz54_0 : w53.cell? ⟨gb253, 0, none⟩ = some (.int .i64 0) := (blk_cell BK253.out 0).trans rfl; have hcz54_1 : w53.cell? ⟨gb253, 1, none⟩ = some (.int .i64 0) := (blk_cell BK253.out 1).trans rfl; have hfz54_0 := blk_frozen BK253.out 0; have hfz54_1 := blk_frozen BK253.out 1))
              have n0_ : Aside0 (((w53.setCell ⟨gb253, 0, none⟩ (.int .i64 ((rd_T40 l0 x13_1).f0))).setCell ⟨gb253, 1, none⟩ (.int .i64 ((rd_T40 l0 x13_1).f1))).heap[gb253]? = some (.cells #[.int .i64 ((rd_T40 l0 x13_1).f0), .int .i64 ((rd_T40 l0 x13_1).f1)] 40 (0, 0))) := ⟨by (with_reducible repeat (first | refine blk_drewN ?_ _ | refine blk_drew ?_ | refine blk_alloc ?_ _)); refine blk_put (cs := #[.int .i64 ((rd_T40 l0 x13_1).f0), .int .i64 0]) ?_ 1 _ rfl; (with_reducible repeat (first | refine blk_drewN ?_ _ | refine blk_drew ?_ | refine blk_alloc ?_ _)); refine blk_put (cs := #[.int .i64 0, .int .i64 0]) ?_ 0 _ rfl; (with_reducible repeat (first | refine blk_drewN ?_ _ | refine blk_drew ?_ | refine blk_alloc ?_ _)); exact BK253.out⟩
              have n1_ : Aside0 (Below w.heap.size w ((w53.setCell ⟨gb253, 0, none⟩ (.int .i64 ((rd_T40 l0 x13_1).f0))).setCell ⟨gb253, 1, none⟩ (.int .i64 ((rd_T40 l0 x13_1).f1)))) := ⟨mBs HB.out⟩
              (try clear BK253); (try clear HB)
              generalize ((w53.setCell ⟨gb253, 0, none⟩ (.int .i64 ((rd_T40 l0 x13_1).f0))).setCell ⟨gb253, 1, none⟩ (.int .i64 ((rd_T40 l0 x13_1).f1))) = w55 at n0_ n1_ ⊢
              have BK253 := n0_
              have HB := n1_
              clear n0_; clear n1_
              have n0_ := Aside0.mk (blk_drew BK253.out)
              have n1_ := Aside0.mk (below_drew1 HB.out)
              clear BK253; clear HB
              have BK253 := n0_
              have HB := n1_
              clear n0_; clear n1_
              have p259 : 0 ≤ ((ji43) : Int) := oda
              have q259 : (ji43) < (l0.length : Int) := oda
              obtain ⟨ad259, e259, hx259_0, hx259_1⟩ := at_T40 HR0.out (ji43) p259 q259
              have hw259_1 := hx259_1
              have hw259_0 := hx259_0
              obtain rfl : ad252 = ad259 := (by injection e259)
              replace hx259_0 := (HB.out.cell (World.block_lt_of_cell? w _ hx259_0)).trans hx259_0
              replace hx259_1 := (HB.out.cell (World.block_lt_of_cell? w _ hx259_1)).trans hx259_1
              replace p259 := eq_true p259
              replace q259 := eq_true q259
              have p260 : 0 ≤ (x13_1 : Int) := oda
              have q260 : x13_1 < (l0.length : Int) := oda
              obtain ⟨ad260, e260, hx260_0, hx260_1⟩ := at_T40 HR0.out x13_1 p260 q260
              have hw260_1 := hx260_1
              have hw260_0 := hx260_0
              obtain rfl : ad252 = ad260 := (by injection e260)
              replace hx260_0 := (HB.out.cell (World.block_lt_of_cell? w _ hx260_0)).trans hx260_0
              replace hx260_1 := (HB.out.cell (World.block_lt_of_cell? w _ hx260_1)).trans hx260_1
              replace p260 := eq_true p260
              replace q260 := eq_true q260
              refine start_ (n := 26) (S := fun w' => w'.cell? (ad252.add (((ji43)).toNat * 2)) = some (.int .i64 ((rd_T40 l0 (ji43)).f0)) ∧ w'.cell? ⟨(ad252.add (((ji43)).toNat * 2)).block, (ad252.add (((ji43)).toNat * 2)).off + 1, none⟩ = some (.int .i64 ((rd_T40 l0 (ji43)).f1)) ∧ w'.cell? (ad252.add ((x13_1).toNat * 2)) = some (.int .i64 ((rd_T40 l0 x13_1).f0)) ∧ w'.cell? ⟨(ad252.add ((x13_1).toNat * 2)).block, (ad252.add ((x13_1).toNat * 2)).off + 1, none⟩ = some (.int .i64 ((rd_T40 l0 x13_1).f1))) (ds := []) #[false, false, false, false, false, false, false, false, false, false, false, false, false, false, false, false, false, false, false, false, false, false, false, false, false, false] (by kernel_rfl) rfl rfl ⟨((HB.out.cell (World.block_lt_of_cell? w _ hw259_0)).trans hw259_0), ((HB.out.cell (World.block_lt_of_cell? w _ hw259_1)).trans hw259_1), ((HB.out.cell (World.block_lt_of_cell? w _ hw260_0)).trans hw260_0), ((HB.out.cell (World.block_lt_of_cell? w _ hw260_1)).trans hw260_1)⟩ (fun hHeld => ?_); refine with_tabW profile_Fit.tab9 profile_Fit.bits9 (fun HT_ HW_ => ?_)
              generalize w55.drew = w56 at BK253 HB hx259_0 hx259_1 hx260_0 hx260_1 hHeld ⊢
              refine plan_ [(0, 27), (1, 28), (2, 29), (3, 30), (4, 31), (5, 32), (6, 33), (7, 34), (8, 35), (9, 36), (10, 37), (11, 38), (12, 39), (13, 40), (15, 42), (16, 43), (17, 44), (18, 45), (21, 48), (22, 49)] ?_
              iterate 20 (refine planP_ (v := ?_) (a' := ?_) rfl rfl (any_of HT_.out (by kernel_rfl)) (fun _ _ _ h => h) (Or.inl ⟨by rfl, ?_⟩) ?_ ?_; rotate_left; (intro w'; go_simp; with_reducible rfl); rotate_left; (simp only [Act.put, List.setIfInBounds_toArray, List.set_cons_zero, List.set_cons_succ, i64_w, i32_w]; rfl))
              refine planEnd_ ?_
              refine plan_ [(14, 41), (19, 46)] ?_
              iterate 2 (refine planT_ (v := ?_) (a' := ?_) rfl rfl (take_ofW HT_.out HW_.out (by kernel_rfl)) (fun _ _ _ h => h) (Or.inl ⟨by rfl, ?_⟩) hHeld ?_ ?_; rotate_left; (rintro w' ⟨s0, s1, s2, s3⟩; go_simp; with_reducible rfl); rotate_left; (simp only [Act.put, List.setIfInBounds_toArray, List.set_cons_zero, List.set_cons_succ, i64_w, i32_w]; rfl))
              refine planEnd_ ?_
              refine plan_ [(20, 47), (23, 50), (24, 51), (25, 52)] ?_
              iterate 4 (refine planP_ (v := ?_) (a' := ?_) rfl rfl (any_of HT_.out (by kernel_rfl)) (fun _ _ _ h => h) (Or.inl ⟨by rfl, ?_⟩) ?_ ?_; rotate_left; (intro w'; go_simp; with_reducible rfl); rotate_left; (simp only [Act.put, List.setIfInBounds_toArray, List.set_cons_zero, List.set_cons_succ, i64_w, i32_w]; rfl))
              refine planEnd_ ?_
              refine done_ (done_of HT_.out (by kernel_rfl)) ?_
              try go_wp2
              go_roundg k1
              case measure => have := HK1.out; omega
              case rel => exact ⟨(x13_1), (ji43), ez, (by first | rfl | (simp; done) | (simp only [← hji43] <;> (first | rfl | simp)) | (simp [*]; done)), H', ⟨by have := HK1.out; omega⟩, ⟨mBs HB.out⟩⟩
            · exact absurd (of_decide_eq_true c4b0) c46
           ·rw [if_neg c45] at H
            exact absurd H (by simp)
          ·rw [if_neg c44] at H
           exact absurd H (by simp)
        · exact absurd (of_decide_eq_true c5b0) c36
       ·rw [if_neg c35] at H
        have c35b0 : decide (x8_1 < 0) = false := decide_eq_false c35
        clear c35
        by_cases c61 : x8_1 ≥ 0
        ·rw [if_pos c61] at H
         have c61b0 : decide (0 ≤ x8_1) = true := decide_eq_true c61
         clear c61
         by_cases c62 : (wrap64 (x13_1 + 1)) = (l0.length : Int)
         ·rw [if_pos c62] at H
          have c62b0 : ((wrap64 (x13_1 + 1)) == (l0.length : Int)) = true := beq_iff_eq.mpr c62
          have c62b1 : ((wrap64 (x13_1 + 1)) != (l0.length : Int)) = false := bne_eq_false_iff_eq.mpr c62
          clear c62
          by_cases c63 : 0 ≤ x8_1
          ·rw [if_pos c63] at H
           have c63b0 : decide (0 ≤ x8_1) = true := decide_eq_true c63
           clear c63
           by_cases c64 : x8_1 < (l0.length : Int)
           ·rw [if_pos c64] at H
            have c64b0 : decide (x8_1 < (l0.length : Int)) = true := decide_eq_true c64
            clear c64
            simp only [Option.some.injEq, Prod.mk.injEq] at H
            obtain ⟨rfl, rfl⟩ := H
            have p252 : 0 ≤ (x13_1 : Int) := oda
            have q252 : x13_1 < (l0.length : Int) := oda
            obtain ⟨ad252, e252, hx252_0, hx252_1⟩ := at_T40 HR0.out x13_1 p252 q252
            cases e252
            replace hx252_0 := (HB.out.cell (World.block_lt_of_cell? w _ hx252_0)).trans hx252_0
            replace hx252_1 := (HB.out.cell (World.block_lt_of_cell? w _ hx252_1)).trans hx252_1
            replace p252 := eq_true p252
            replace q252 := eq_true q252
            try go_wp2_with (first | ((with_reducible refine gate_dst (N := 10) rfl ?_); refine box_event ?hg (N := 10) ?hd (cs := #[.int .i64 0, .int .i64 0]) (t := 40) ?hr ?_; (case hd => rfl); (case hg => rfl); (case hr => first | (go_simp; done) | (go_simp; rfl)); intro gb253 hg w65 hbox hb; have n0_ := Aside0.mk (below_step (mB HB.out) hb); have n1_ := Aside0.mk (hbox); have n2_ := Aside0.mk ((by rw [hg]; exact (below_size (mB HB.out)) : w.heap.size ≤ gb253)); have n3_ := Aside0.mk ((by rw [hg]; exact (below_size (mB HB.out)) : w.heap.size ≤ gb253)); clear HB; have HB := n0_; have BK253 := n1_; have GW253 := n2_; have GE253 := n3_; clear n0_ n1_ n2_ n3_; clear hb hbox hg; have hcz66_0 : w65.cell? ⟨gb253, 0, none⟩ = some (.int .i64 0) := (blk_cell BK253.out 0).trans rfl; have hcz66_1 : w65.cell? ⟨gb253, 1, none⟩ = some (.int .i64 0) := (blk_cell BK253.out 1).trans rfl; have hfz66_0 := blk_frozen BK253.out 0; have hfz66_1 := blk_frozen BK253.out 1))
            have n0_ : Aside0 (((w65.setCell ⟨gb253, 0, none⟩ (.int .i64 ((rd_T40 l0 x13_1).f0))).setCell ⟨gb253, 1, none⟩ (.int .i64 ((rd_T40 l0 x13_1).f1))).heap[gb253]? = some (.cells #[.int .i64 ((rd_T40 l0 x13_1).f0), .int .i64 ((rd_T40 l0 x13_1).f1)] 40 (0, 0))) := ⟨by (with_reducible repeat (first | refine blk_drewN ?_ _ | refine blk_drew ?_ | refine blk_alloc ?_ _)); refine blk_put (cs := #[.int .i64 ((rd_T40 l0 x13_1).f0), .int .i64 0]) ?_ 1 _ rfl; (with_reducible repeat (first | refine blk_drewN ?_ _ | refine blk_drew ?_ | refine blk_alloc ?_ _)); refine blk_put (cs := #[.int .i64 0, .int .i64 0]) ?_ 0 _ rfl; (with_reducible repeat (first | refine blk_drewN ?_ _ | refine blk_drew ?_ | refine blk_alloc ?_ _)); exact BK253.out⟩
            have n1_ : Aside0 (Below w.heap.size w ((w65.setCell ⟨gb253, 0, none⟩ (.int .i64 ((rd_T40 l0 x13_1).f0))).setCell ⟨gb253, 1, none⟩ (.int .i64 ((rd_T40 l0 x13_1).f1)))) := ⟨mBs HB.out⟩
            (try clear BK253); (try clear HB)
            generalize ((w65.setCell ⟨gb253, 0, none⟩ (.int .i64 ((rd_T40 l0 x13_1).f0))).setCell ⟨gb253, 1, none⟩ (.int .i64 ((rd_T40 l0 x13_1).f1))) = w67 at n0_ n1_ ⊢
            have BK253 := n0_
            have HB := n1_
            clear n0_; clear n1_
            have n0_ := Aside0.mk (blk_drew BK253.out)
            have n1_ := Aside0.mk (below_drew1 HB.out)
            clear BK253; clear HB
            have BK253 := n0_
            have HB := n1_
            clear n0_; clear n1_
            refine start_ (n := 26) (S := fun w' => True) (ds := []) #[false, false, false, false, false, false, false, false, false, false, false, false, false, false, false, false, false, false, false, false, false, false, false, false, false, false] (by kernel_rfl) rfl rfl trivial (fun hHeld => ?_); refine with_tabW profile_Fit.tab9 profile_Fit.bits9 (fun HT_ HW_ => ?_)
            generalize w67.drew = w68 at BK253 HB hHeld ⊢
            refine plan_ [(0, 27), (1, 28), (2, 29), (3, 30), (4, 31), (5, 32), (6, 33), (7, 34), (8, 35)] ?_
            iterate 9 (refine planP_ (v := ?_) (a' := ?_) rfl rfl (any_of HT_.out (by kernel_rfl)) (fun _ _ _ h => h) (Or.inl ⟨by rfl, ?_⟩) ?_ ?_; rotate_left; (intro w'; go_simp; with_reducible rfl); rotate_left; (simp only [Act.put, List.setIfInBounds_toArray, List.set_cons_zero, List.set_cons_succ, i64_w, i32_w]; rfl))
            refine planEnd_ ?_
            refine plan_ [(9, 36), (10, 37), (11, 38), (12, 39), (13, 40), (14, 41), (15, 42), (16, 43), (17, 44), (18, 45), (19, 46), (20, 47), (21, 48), (22, 49), (23, 50)] ?_
            iterate 15 (refine planP_ (v := undef) (a' := ?_) rfl rfl (any_of HT_.out (by kernel_rfl)) (fun _ _ _ h => h) (Or.inr ⟨by rfl, rfl⟩) ?_ ?_; rotate_left; (simp only [Act.put, List.setIfInBounds_toArray, List.set_cons_zero, List.set_cons_succ, i64_w, i32_w]; rfl))
            refine planEnd_ ?_
            refine plan_ [(24, 51), (25, 52)] ?_
            iterate 2 (refine planP_ (v := ?_) (a' := ?_) rfl rfl (any_of HT_.out (by kernel_rfl)) (fun _ _ _ h => h) (Or.inl ⟨by rfl, ?_⟩) ?_ ?_; rotate_left; (intro w'; go_simp; with_reducible rfl); rotate_left; (simp only [Act.put, List.setIfInBounds_toArray, List.set_cons_zero, List.set_cons_succ, i64_w, i32_w]; rfl))
            refine planEnd_ ?_
            refine done_ (done_of HT_.out (by kernel_rfl)) ?_
            have p262 : 0 ≤ (x8_1 : Int) := oda
            have q262 : x8_1 < (l0.length : Int) := oda
            obtain ⟨ad262, e262, hx262_0, hx262_1⟩ := at_T40 HR0.out x8_1 p262 q262
            obtain rfl : ad252 = ad262 := (by injection e262)
            replace hx262_0 := (HB.out.cell (World.block_lt_of_cell? w _ hx262_0)).trans hx262_0
            replace hx262_1 := (HB.out.cell (World.block_lt_of_cell? w _ hx262_1)).trans hx262_1
            replace p262 := eq_true p262
            replace q262 := eq_true q262
            try go_wp2
            go_ret2
            exact ⟨by first | rfl | (simp [errW_none, errW_some] <;> rfl) | (simp [*, errW_none, errW_some] <;> rfl), by repeat (first | (with_reducible first | exact HB.out | apply below_alloc | apply pw_below_drewN | apply below_drew1 | refine below_set ?_ GE253.out) | exact HB.out)⟩
           ·rw [if_neg c64] at H
            exact absurd H (by simp)
          · exact absurd (of_decide_eq_true c61b0) c63
         ·rw [if_neg c62] at H
          have c62b0 : ((wrap64 (x13_1 + 1)) == (l0.length : Int)) = false := beq_eq_false_iff_ne.mpr c62
          have c62b1 : ((wrap64 (x13_1 + 1)) != (l0.length : Int)) = true := bne_iff_ne.mpr c62
          obtain ⟨ji69, hji69⟩ : ∃ j_ : Int, (wrap64 (x13_1 + 1)) = j_ := ⟨_, rfl⟩
          replace H : (if 0 ≤ (ji69) then (if (ji69) < (l0.length : Int) then (if 0 ≤ x8_1 then (if x8_1 < (l0.length : Int) then (if (wrap64 (((rd_T40 l0 (ji69)).f0) - ((rd_T40 l0 x8_1).f0))) ≥ (mx a2 1) then (some ((rd_T40 l0 x8_1).f0, true)) else (profile_Fit.l0 k1 l0 a1 a2 x8_1 l0 (l0.length : Int) ji69)) else (none)) else (none)) else (none)) else (none)) = some (r1, r2) := by first | (rw [hji69] at H; exact H) | (simp only [hji69] at H ⊢; exact H)
          (try rw [hji69] at c62b0)
          (try rw [hji69] at c62b1)
          have hji69w : (IntKind.i64.wrap (x13_1 + 1)) = ji69 := (i64_w _).trans hji69
          by_cases c70 : 0 ≤ (ji69)
          ·rw [if_pos c70] at H
           have c70b0 : decide (0 ≤ (ji69)) = true := decide_eq_true c70
           clear c70
           by_cases c71 : (ji69) < (l0.length : Int)
           ·rw [if_pos c71] at H
            have c71b0 : decide ((ji69) < (l0.length : Int)) = true := decide_eq_true c71
            clear c71
            by_cases c72 : 0 ≤ x8_1
            ·rw [if_pos c72] at H
             have c72b0 : decide (0 ≤ x8_1) = true := decide_eq_true c72
             clear c72
             by_cases c73 : x8_1 < (l0.length : Int)
             ·rw [if_pos c73] at H
              have c73b0 : decide (x8_1 < (l0.length : Int)) = true := decide_eq_true c73
              clear c73
              obtain ⟨ji74, hji74⟩ : ∃ j_ : Int, (mx a2 1) = j_ := ⟨_, rfl⟩
              replace H : (if (wrap64 (((rd_T40 l0 (ji69)).f0) - ((rd_T40 l0 x8_1).f0))) ≥ (ji74) then (some ((rd_T40 l0 x8_1).f0, true)) else (profile_Fit.l0 k1 l0 a1 a2 x8_1 l0 (l0.length : Int) ji69)) = some (r1, r2) := by first | (rw [hji74] at H; exact H) | (simp only [hji74] at H ⊢; exact H)
              have hji74_ : (if a2 < 1 then 1 else a2) = ji74 := hji74
              by_cases c75 : (wrap64 (((rd_T40 l0 (ji69)).f0) - ((rd_T40 l0 x8_1).f0))) ≥ (ji74)
              ·rw [if_pos c75] at H
               have c75b0 : decide ((ji74) ≤ (wrap64 (((rd_T40 l0 (ji69)).f0) - ((rd_T40 l0 x8_1).f0)))) = true := decide_eq_true c75
               clear c75
               simp only [Option.some.injEq, Prod.mk.injEq] at H
               obtain ⟨rfl, rfl⟩ := H
               have p252 : 0 ≤ (x13_1 : Int) := oda
               have q252 : x13_1 < (l0.length : Int) := oda
               obtain ⟨ad252, e252, hx252_0, hx252_1⟩ := at_T40 HR0.out x13_1 p252 q252
               cases e252
               replace hx252_0 := (HB.out.cell (World.block_lt_of_cell? w _ hx252_0)).trans hx252_0
               replace hx252_1 := (HB.out.cell (World.block_lt_of_cell? w _ hx252_1)).trans hx252_1
               replace p252 := eq_true p252
               replace q252 := eq_true q252
               try go_wp2_with (first | ((with_reducible refine gate_dst (N := 10) rfl ?_); refine box_event ?hg (N := 10) ?hd (cs := #[.int .i64 0, .int .i64 0]) (t := 40) ?hr ?_; (case hd => rfl); (case hg => rfl); (case hr => first | (go_simp; done) | (go_simp; rfl)); intro gb253 hg w76 hbox hb; have n0_ := Aside0.mk (below_step (mB HB.out) hb); have n1_ := Aside0.mk (hbox); have n2_ := Aside0.mk ((by rw [hg]; exact (below_size (mB HB.out)) : w.heap.size ≤ gb253)); have n3_ := Aside0.mk ((by rw [hg]; exact (below_size (mB HB.out)) : w.heap.size ≤ gb253)); clear HB; have HB := n0_; have BK253 := n1_; have GW253 := n2_; have GE253 := n3_; clear n0_ n1_ n2_ n3_; clear hb hbox hg; have hcz77_0 : w76.cell? ⟨gb253, 0, none⟩ = some (.int .i64 0) := (blk_cell BK253.out 0).trans rfl; have hcz77_1 : w76.cell? ⟨gb253, 1, none⟩ = some (.int .i64 0) := (blk_cell BK253.out 1).trans rfl; have hfz77_0 := blk_frozen BK253.out 0; have hfz77_1 := blk_frozen BK253.out 1))
               have n0_ : Aside0 (((w76.setCell ⟨gb253, 0, none⟩ (.int .i64 ((rd_T40 l0 x13_1).f0))).setCell ⟨gb253, 1, none⟩ (.int .i64 ((rd_T40 l0 x13_1).f1))).heap[gb253]? = some (.cells #[.int .i64 ((rd_T40 l0 x13_1).f0), .int .i64 ((rd_T40 l0 x13_1).f1)] 40 (0, 0))) := ⟨by (with_reducible repeat (first | refine blk_drewN ?_ _ | refine blk_drew ?_ | refine blk_alloc ?_ _)); refine blk_put (cs := #[.int .i64 ((rd_T40 l0 x13_1).f0), .int .i64 0]) ?_ 1 _ rfl; (with_reducible repeat (first | refine blk_drewN ?_ _ | refine blk_drew ?_ | refine blk_alloc ?_ _)); refine blk_put (cs := #[.int .i64 0, .int .i64 0]) ?_ 0 _ rfl; (with_reducible repeat (first | refine blk_drewN ?_ _ | refine blk_drew ?_ | refine blk_alloc ?_ _)); exact BK253.out⟩
               have n1_ : Aside0 (Below w.heap.size w ((w76.setCell ⟨gb253, 0, none⟩ (.int .i64 ((rd_T40 l0 x13_1).f0))).setCell ⟨gb253, 1, none⟩ (.int .i64 ((rd_T40 l0 x13_1).f1)))) := ⟨mBs HB.out⟩
               (try clear BK253); (try clear HB)
               generalize ((w76.setCell ⟨gb253, 0, none⟩ (.int .i64 ((rd_T40 l0 x13_1).f0))).setCell ⟨gb253, 1, none⟩ (.int .i64 ((rd_T40 l0 x13_1).f1))) = w78 at n0_ n1_ ⊢
               have BK253 := n0_
               have HB := n1_
               clear n0_; clear n1_
               have n0_ := Aside0.mk (blk_drew BK253.out)
               have n1_ := Aside0.mk (below_drew1 HB.out)
               clear BK253; clear HB
               have BK253 := n0_
               have HB := n1_
               clear n0_; clear n1_
               have p263 : 0 ≤ ((ji69) : Int) := oda
               have q263 : (ji69) < (l0.length : Int) := oda
               obtain ⟨ad263, e263, hx263_0, hx263_1⟩ := at_T40 HR0.out (ji69) p263 q263
               have hw263_1 := hx263_1
               have hw263_0 := hx263_0
               obtain rfl : ad252 = ad263 := (by injection e263)
               replace hx263_0 := (HB.out.cell (World.block_lt_of_cell? w _ hx263_0)).trans hx263_0
               replace hx263_1 := (HB.out.cell (World.block_lt_of_cell? w _ hx263_1)).trans hx263_1
               replace p263 := eq_true p263
               replace q263 := eq_true q263
               have p264 : 0 ≤ (x8_1 : Int) := oda
               have q264 : x8_1 < (l0.length : Int) := oda
               obtain ⟨ad264, e264, hx264_0, hx264_1⟩ := at_T40 HR0.out x8_1 p264 q264
               have hw264_1 := hx264_1
               have hw264_0 := hx264_0
               obtain rfl : ad252 = ad264 := (by injection e264)
               replace hx264_0 := (HB.out.cell (World.block_lt_of_cell? w _ hx264_0)).trans hx264_0
               replace hx264_1 := (HB.out.cell (World.block_lt_of_cell? w _ hx264_1)).trans hx264_1
               replace p264 := eq_true p264
               replace q264 := eq_true q264
               refine start_ (n := 26) (S := fun w' => w'.cell? (ad252.add (((ji69)).toNat * 2)) = some (.int .i64 ((rd_T40 l0 (ji69)).f0)) ∧ w'.cell? ⟨(ad252.add (((ji69)).toNat * 2)).block, (ad252.add (((ji69)).toNat * 2)).off + 1, none⟩ = some (.int .i64 ((rd_T40 l0 (ji69)).f1)) ∧ w'.cell? (ad252.add ((x8_1).toNat * 2)) = some (.int .i64 ((rd_T40 l0 x8_1).f0)) ∧ w'.cell? ⟨(ad252.add ((x8_1).toNat * 2)).block, (ad252.add ((x8_1).toNat * 2)).off + 1, none⟩ = some (.int .i64 ((rd_T40 l0 x8_1).f1))) (ds := []) #[false, false, false, false, false, false, false, false, false, false, false, false, false, false, false, false, false, false, false, false, false, false, false, false, false, false] (by kernel_rfl) rfl rfl ⟨((HB.out.cell (World.block_lt_of_cell? w _ hw263_0)).trans hw263_0), ((HB.out.cell (World.block_lt_of_cell? w _ hw263_1)).trans hw263_1), ((HB.out.cell (World.block_lt_of_cell? w _ hw264_0)).trans hw264_0), ((HB.out.cell (World.block_lt_of_cell? w _ hw264_1)).trans hw264_1)⟩ (fun hHeld => ?_); refine with_tabW profile_Fit.tab9 profile_Fit.bits9 (fun HT_ HW_ => ?_)
               generalize w78.drew = w79 at BK253 HB hx263_0 hx263_1 hx264_0 hx264_1 hHeld ⊢
               refine plan_ [(0, 27), (1, 28), (2, 29), (3, 30), (4, 31), (5, 32), (6, 33), (7, 34), (8, 35), (9, 36), (10, 37), (11, 38), (12, 39), (13, 40), (15, 42), (16, 43), (17, 44), (18, 45), (21, 48), (22, 49)] ?_
               iterate 20 (refine planP_ (v := ?_) (a' := ?_) rfl rfl (any_of HT_.out (by kernel_rfl)) (fun _ _ _ h => h) (Or.inl ⟨by rfl, ?_⟩) ?_ ?_; rotate_left; (intro w'; go_simp; with_reducible rfl); rotate_left; (simp only [Act.put, List.setIfInBounds_toArray, List.set_cons_zero, List.set_cons_succ, i64_w, i32_w]; rfl))
               refine planEnd_ ?_
               refine plan_ [(14, 41), (19, 46)] ?_
               iterate 2 (refine planT_ (v := ?_) (a' := ?_) rfl rfl (take_ofW HT_.out HW_.out (by kernel_rfl)) (fun _ _ _ h => h) (Or.inl ⟨by rfl, ?_⟩) hHeld ?_ ?_; rotate_left; (rintro w' ⟨s0, s1, s2, s3⟩; go_simp; with_reducible rfl); rotate_left; (simp only [Act.put, List.setIfInBounds_toArray, List.set_cons_zero, List.set_cons_succ, i64_w, i32_w]; rfl))
               refine planEnd_ ?_
               refine plan_ [(20, 47), (23, 50), (24, 51), (25, 52)] ?_
               iterate 4 (refine planP_ (v := ?_) (a' := ?_) rfl rfl (any_of HT_.out (by kernel_rfl)) (fun _ _ _ h => h) (Or.inl ⟨by rfl, ?_⟩) ?_ ?_; rotate_left; (intro w'; go_simp; with_reducible rfl); rotate_left; (simp only [Act.put, List.setIfInBounds_toArray, List.set_cons_zero, List.set_cons_succ, i64_w, i32_w]; rfl))
               refine planEnd_ ?_
               refine done_ (done_of HT_.out (by kernel_rfl)) ?_
               have p265 : 0 ≤ (x8_1 : Int) := oda
               have q265 : x8_1 < (l0.length : Int) := oda
               obtain ⟨ad265, e265, hx265_0, hx265_1⟩ := at_T40 HR0.out x8_1 p265 q265
               obtain rfl : ad252 = ad265 := (by injection e265)
               replace hx265_0 := (HB.out.cell (World.block_lt_of_cell? w _ hx265_0)).trans hx265_0
               replace hx265_1 := (HB.out.cell (World.block_lt_of_cell? w _ hx265_1)).trans hx265_1
               replace p265 := eq_true p265
               replace q265 := eq_true q265
               try go_wp2
               go_ret2
               exact ⟨by first | rfl | (simp [errW_none, errW_some] <;> rfl) | (simp only [← hji69, ← hji74]; first | rfl | (simp [errW_none, errW_some] <;> rfl)) | (simp [*, errW_none, errW_some] <;> rfl), by repeat (first | (with_reducible first | exact HB.out | apply below_alloc | apply pw_below_drewN | apply below_drew1 | refine below_set ?_ GE253.out) | exact HB.out)⟩
              ·rw [if_neg c75] at H
               have c75b0 : decide ((ji74) ≤ (wrap64 (((rd_T40 l0 (ji69)).f0) - ((rd_T40 l0 x8_1).f0)))) = false := decide_eq_false c75
               clear c75
               have H' := Aside0.mk H
               clear H
               have p252 : 0 ≤ (x13_1 : Int) := oda
               have q252 : x13_1 < (l0.length : Int) := oda
               obtain ⟨ad252, e252, hx252_0, hx252_1⟩ := at_T40 HR0.out x13_1 p252 q252
               cases e252
               replace hx252_0 := (HB.out.cell (World.block_lt_of_cell? w _ hx252_0)).trans hx252_0
               replace hx252_1 := (HB.out.cell (World.block_lt_of_cell? w _ hx252_1)).trans hx252_1
               replace p252 := eq_true p252
               replace q252 := eq_true q252
               try go_wp2_with (first | ((with_reducible refine gate_dst (N := 10) rfl ?_); refine box_event ?hg (N := 10) ?hd (cs := #[.int .i64 0, .int .i64 0]) (t := 40) ?hr ?_; (case hd => rfl); (case hg => rfl); (case hr => first | (go_simp; done) | (go_simp; rfl)); intro gb253 hg w80 hbox hb; have n0_ := Aside0.mk (below_step (mB HB.out) hb); have n1_ := Aside0.mk (hbox); have n2_ := Aside0.mk ((by rw [hg]; exact (below_size (mB HB.out)) : w.heap.size ≤ gb253)); have n3_ := Aside0.mk ((by rw [hg]; exact (below_size (mB HB.out)) : w.heap.size ≤ gb253)); clear HB; have HB := n0_; have BK253 := n1_; have GW253 := n2_; have GE253 := n3_; clear n0_ n1_ n2_ n3_; clear hb hbox hg; have hcz81_0 : w80.cell? ⟨gb253, 0, none⟩ = some (.int .i64 0) := (blk_cell BK253.out 0).trans rfl; have hcz81_1 : w80.cell? ⟨gb253, 1, none⟩ = some (.int .i64 0) := (blk_cell BK253.out 1).trans rfl; have hfz81_0 := blk_frozen BK253.out 0; have hfz81_1 := blk_frozen BK253.out 1))
               have n0_ : Aside0 (((w80.setCell ⟨gb253, 0, none⟩ (.int .i64 ((rd_T40 l0 x13_1).f0))).setCell ⟨gb253, 1, none⟩ (.int .i64 ((rd_T40 l0 x13_1).f1))).heap[gb253]? = some (.cells #[.int .i64 ((rd_T40 l0 x13_1).f0), .int .i64 ((rd_T40 l0 x13_1).f1)] 40 (0, 0))) := ⟨by (with_reducible repeat (first | refine blk_drewN ?_ _ | refine blk_drew ?_ | refine blk_alloc ?_ _)); refine blk_put (cs := #[.int .i64 ((rd_T40 l0 x13_1).f0), .int .i64 0]) ?_ 1 _ rfl; (with_reducible repeat (first | refine blk_drewN ?_ _ | refine blk_drew ?_ | refine blk_alloc ?_ _)); refine blk_put (cs := #[.int .i64 0, .int .i64 0]) ?_ 0 _ rfl; (with_reducible repeat (first | refine blk_drewN ?_ _ | refine blk_drew ?_ | refine blk_alloc ?_ _)); exact BK253.out⟩
               have n1_ : Aside0 (Below w.heap.size w ((w80.setCell ⟨gb253, 0, none⟩ (.int .i64 ((rd_T40 l0 x13_1).f0))).setCell ⟨gb253, 1, none⟩ (.int .i64 ((rd_T40 l0 x13_1).f1)))) := ⟨mBs HB.out⟩
               (try clear BK253); (try clear HB)
               generalize ((w80.setCell ⟨gb253, 0, none⟩ (.int .i64 ((rd_T40 l0 x13_1).f0))).setCell ⟨gb253, 1, none⟩ (.int .i64 ((rd_T40 l0 x13_1).f1))) = w82 at n0_ n1_ ⊢
               have BK253 := n0_
               have HB := n1_
               clear n0_; clear n1_
               have n0_ := Aside0.mk (blk_drew BK253.out)
               have n1_ := Aside0.mk (below_drew1 HB.out)
               clear BK253; clear HB
               have BK253 := n0_
               have HB := n1_
               clear n0_; clear n1_
               have p263 : 0 ≤ ((ji69) : Int) := oda
               have q263 : (ji69) < (l0.length : Int) := oda
               obtain ⟨ad263, e263, hx263_0, hx263_1⟩ := at_T40 HR0.out (ji69) p263 q263
               have hw263_1 := hx263_1
               have hw263_0 := hx263_0
               obtain rfl : ad252 = ad263 := (by injection e263)
               replace hx263_0 := (HB.out.cell (World.block_lt_of_cell? w _ hx263_0)).trans hx263_0
               replace hx263_1 := (HB.out.cell (World.block_lt_of_cell? w _ hx263_1)).trans hx263_1
               replace p263 := eq_true p263
               replace q263 := eq_true q263
               have p264 : 0 ≤ (x8_1 : Int) := oda
               have q264 : x8_1 < (l0.length : Int) := oda
               obtain ⟨ad264, e264, hx264_0, hx264_1⟩ := at_T40 HR0.out x8_1 p264 q264
               have hw264_1 := hx264_1
               have hw264_0 := hx264_0
               obtain rfl : ad252 = ad264 := (by injection e264)
               replace hx264_0 := (HB.out.cell (World.block_lt_of_cell? w _ hx264_0)).trans hx264_0
               replace hx264_1 := (HB.out.cell (World.block_lt_of_cell? w _ hx264_1)).trans hx264_1
               replace p264 := eq_true p264
               replace q264 := eq_true q264
               refine start_ (n := 26) (S := fun w' => w'.cell? (ad252.add (((ji69)).toNat * 2)) = some (.int .i64 ((rd_T40 l0 (ji69)).f0)) ∧ w'.cell? ⟨(ad252.add (((ji69)).toNat * 2)).block, (ad252.add (((ji69)).toNat * 2)).off + 1, none⟩ = some (.int .i64 ((rd_T40 l0 (ji69)).f1)) ∧ w'.cell? (ad252.add ((x8_1).toNat * 2)) = some (.int .i64 ((rd_T40 l0 x8_1).f0)) ∧ w'.cell? ⟨(ad252.add ((x8_1).toNat * 2)).block, (ad252.add ((x8_1).toNat * 2)).off + 1, none⟩ = some (.int .i64 ((rd_T40 l0 x8_1).f1))) (ds := []) #[false, false, false, false, false, false, false, false, false, false, false, false, false, false, false, false, false, false, false, false, false, false, false, false, false, false] (by kernel_rfl) rfl rfl ⟨((HB.out.cell (World.block_lt_of_cell? w _ hw263_0)).trans hw263_0), ((HB.out.cell (World.block_lt_of_cell? w _ hw263_1)).trans hw263_1), ((HB.out.cell (World.block_lt_of_cell? w _ hw264_0)).trans hw264_0), ((HB.out.cell (World.block_lt_of_cell? w _ hw264_1)).trans hw264_1)⟩ (fun hHeld => ?_); refine with_tabW profile_Fit.tab9 profile_Fit.bits9 (fun HT_ HW_ => ?_)
               generalize w82.drew = w83 at BK253 HB hx263_0 hx263_1 hx264_0 hx264_1 hHeld ⊢
               refine plan_ [(0, 27), (1, 28), (2, 29), (3, 30), (4, 31), (5, 32), (6, 33), (7, 34), (8, 35), (9, 36), (10, 37), (11, 38), (12, 39), (13, 40), (15, 42), (16, 43), (17, 44), (18, 45), (21, 48), (22, 49)] ?_
               iterate 20 (refine planP_ (v := ?_) (a' := ?_) rfl rfl (any_of HT_.out (by kernel_rfl)) (fun _ _ _ h => h) (Or.inl ⟨by rfl, ?_⟩) ?_ ?_; rotate_left; (intro w'; go_simp; with_reducible rfl); rotate_left; (simp only [Act.put, List.setIfInBounds_toArray, List.set_cons_zero, List.set_cons_succ, i64_w, i32_w]; rfl))
               refine planEnd_ ?_
               refine plan_ [(14, 41), (19, 46)] ?_
               iterate 2 (refine planT_ (v := ?_) (a' := ?_) rfl rfl (take_ofW HT_.out HW_.out (by kernel_rfl)) (fun _ _ _ h => h) (Or.inl ⟨by rfl, ?_⟩) hHeld ?_ ?_; rotate_left; (rintro w' ⟨s0, s1, s2, s3⟩; go_simp; with_reducible rfl); rotate_left; (simp only [Act.put, List.setIfInBounds_toArray, List.set_cons_zero, List.set_cons_succ, i64_w, i32_w]; rfl))
               refine planEnd_ ?_
               refine plan_ [(20, 47), (23, 50), (24, 51), (25, 52)] ?_
               iterate 4 (refine planP_ (v := ?_) (a' := ?_) rfl rfl (any_of HT_.out (by kernel_rfl)) (fun _ _ _ h => h) (Or.inl ⟨by rfl, ?_⟩) ?_ ?_; rotate_left; (intro w'; go_simp; with_reducible rfl); rotate_left; (simp only [Act.put, List.setIfInBounds_toArray, List.set_cons_zero, List.set_cons_succ, i64_w, i32_w]; rfl))
               refine planEnd_ ?_
               refine done_ (done_of HT_.out (by kernel_rfl)) ?_
               try go_wp2
               go_roundg k1
               case measure => have := HK1.out; omega
               case rel => exact ⟨(x8_1), (ji69), ez, (by first | rfl | (simp; done) | (simp only [← hji69] <;> (first | rfl | simp)) | (simp [*]; done)), H', ⟨by have := HK1.out; omega⟩, ⟨mBs HB.out⟩⟩
             ·rw [if_neg c73] at H
              exact absurd H (by simp)
            · exact absurd (of_decide_eq_true c61b0) c72
           ·rw [if_neg c71] at H
            exact absurd H (by simp)
          ·rw [if_neg c70] at H
           exact absurd H (by simp)
        ·rw [if_neg c61] at H
         have c61b0 : decide (0 ≤ x8_1) = false := decide_eq_false c61
         clear c61
         have H' := Aside0.mk H
         clear H
         have p252 : 0 ≤ (x13_1 : Int) := oda
         have q252 : x13_1 < (l0.length : Int) := oda
         obtain ⟨ad252, e252, hx252_0, hx252_1⟩ := at_T40 HR0.out x13_1 p252 q252
         cases e252
         replace hx252_0 := (HB.out.cell (World.block_lt_of_cell? w _ hx252_0)).trans hx252_0
         replace hx252_1 := (HB.out.cell (World.block_lt_of_cell? w _ hx252_1)).trans hx252_1
         replace p252 := eq_true p252
         replace q252 := eq_true q252
         try go_wp2_with (first | ((with_reducible refine gate_dst (N := 10) rfl ?_); refine box_event ?hg (N := 10) ?hd (cs := #[.int .i64 0, .int .i64 0]) (t := 40) ?hr ?_; (case hd => rfl); (case hg => rfl); (case hr => first | (go_simp; done) | (go_simp; rfl)); intro gb253 hg w84 hbox hb; have n0_ := Aside0.mk (below_step (mB HB.out) hb); have n1_ := Aside0.mk (hbox); have n2_ := Aside0.mk ((by rw [hg]; exact (below_size (mB HB.out)) : w.heap.size ≤ gb253)); have n3_ := Aside0.mk ((by rw [hg]; exact (below_size (mB HB.out)) : w.heap.size ≤ gb253)); clear HB; have HB := n0_; have BK253 := n1_; have GW253 := n2_; have GE253 := n3_; clear n0_ n1_ n2_ n3_; clear hb hbox hg; have hcz85_0 : w84.cell? ⟨gb253, 0, none⟩ = some (.int .i64 0) := (blk_cell BK253.out 0).trans rfl; have hcz85_1 : w84.cell? ⟨gb253, 1, none⟩ = some (.int .i64 0) := (blk_cell BK253.out 1).trans rfl; have hfz85_0 := blk_frozen BK253.out 0; have hfz85_1 := blk_frozen BK253.out 1))
         have n0_ : Aside0 (((w84.setCell ⟨gb253, 0, none⟩ (.int .i64 ((rd_T40 l0 x13_1).f0))).setCell ⟨gb253, 1, none⟩ (.int .i64 ((rd_T40 l0 x13_1).f1))).heap[gb253]? = some (.cells #[.int .i64 ((rd_T40 l0 x13_1).f0), .int .i64 ((rd_T40 l0 x13_1).f1)] 40 (0, 0))) := ⟨by (with_reducible repeat (first | refine blk_drewN ?_ _ | refine blk_drew ?_ | refine blk_alloc ?_ _)); refine blk_put (cs := #[.int .i64 ((rd_T40 l0 x13_1).f0), .int .i64 0]) ?_ 1 _ rfl; (with_reducible repeat (first | refine blk_drewN ?_ _ | refine blk_drew ?_ | refine blk_alloc ?_ _)); refine blk_put (cs := #[.int .i64 0, .int .i64 0]) ?_ 0 _ rfl; (with_reducible repeat (first | refine blk_drewN ?_ _ | refine blk_drew ?_ | refine blk_alloc ?_ _)); exact BK253.out⟩
         have n1_ : Aside0 (Below w.heap.size w ((w84.setCell ⟨gb253, 0, none⟩ (.int .i64 ((rd_T40 l0 x13_1).f0))).setCell ⟨gb253, 1, none⟩ (.int .i64 ((rd_T40 l0 x13_1).f1)))) := ⟨mBs HB.out⟩
         (try clear BK253); (try clear HB)
         generalize ((w84.setCell ⟨gb253, 0, none⟩ (.int .i64 ((rd_T40 l0 x13_1).f0))).setCell ⟨gb253, 1, none⟩ (.int .i64 ((rd_T40 l0 x13_1).f1))) = w86 at n0_ n1_ ⊢
         have BK253 := n0_
         have HB := n1_
         clear n0_; clear n1_
         have n0_ := Aside0.mk (blk_drew BK253.out)
         have n1_ := Aside0.mk (below_drew1 HB.out)
         clear BK253; clear HB
         have BK253 := n0_
         have HB := n1_
         clear n0_; clear n1_
         refine start_ (n := 26) (S := fun w' => True) (ds := []) #[false, false, false, false, false, false, false, false, false, false, false, false, false, false, false, false, false, false, false, false, false, false, false, false, false, false] (by kernel_rfl) rfl rfl trivial (fun hHeld => ?_); refine with_tabW profile_Fit.tab9 profile_Fit.bits9 (fun HT_ HW_ => ?_)
         generalize w86.drew = w87 at BK253 HB hHeld ⊢
         refine plan_ [(0, 27), (1, 28), (2, 29)] ?_
         iterate 3 (refine planP_ (v := ?_) (a' := ?_) rfl rfl (any_of HT_.out (by kernel_rfl)) (fun _ _ _ h => h) (Or.inl ⟨by rfl, ?_⟩) ?_ ?_; rotate_left; (intro w'; go_simp; with_reducible rfl); rotate_left; (simp only [Act.put, List.setIfInBounds_toArray, List.set_cons_zero, List.set_cons_succ, i64_w, i32_w]; rfl))
         refine planEnd_ ?_
         refine plan_ [(3, 30), (4, 31), (5, 32), (6, 33), (7, 34), (8, 35), (9, 36), (10, 37), (11, 38), (12, 39), (13, 40), (14, 41), (15, 42), (16, 43), (17, 44), (18, 45), (19, 46), (20, 47), (21, 48), (22, 49), (23, 50), (24, 51)] ?_
         iterate 22 (refine planP_ (v := undef) (a' := ?_) rfl rfl (any_of HT_.out (by kernel_rfl)) (fun _ _ _ h => h) (Or.inr ⟨by rfl, rfl⟩) ?_ ?_; rotate_left; (simp only [Act.put, List.setIfInBounds_toArray, List.set_cons_zero, List.set_cons_succ, i64_w, i32_w]; rfl))
         refine planEnd_ ?_
         refine plan_ [(25, 52)] ?_
         refine planP_ (v := ?_) (a' := ?_) rfl rfl (any_of HT_.out (by kernel_rfl)) (fun _ _ _ h => h) (Or.inl ⟨by rfl, ?_⟩) ?_ ?_; rotate_left; (intro w'; go_simp; with_reducible rfl); rotate_left; (simp only [Act.put, List.setIfInBounds_toArray, List.set_cons_zero, List.set_cons_succ, i64_w, i32_w]; rfl)
         refine planEnd_ ?_
         refine done_ (done_of HT_.out (by kernel_rfl)) ?_
         try go_wp2
         go_roundg k1
         case measure => have := HK1.out; omega
         case rel => exact ⟨(x8_1), (wrap64 (x13_1 + 1)), ez, ez, H', ⟨by have := HK1.out; omega⟩, ⟨mBs HB.out⟩⟩
     · exact absurd (of_decide_eq_true c4b0) c6
    ·rw [if_neg c5] at H
     exact absurd H (by simp)
   ·rw [if_neg c4] at H
    have c4b0 : decide (x13_1 < (l0.length : Int)) = false := decide_eq_false c4
    clear c4
    simp only [Option.some.injEq, Prod.mk.injEq] at H
    obtain ⟨rfl, rfl⟩ := H
    go_wp2
    go_ret2
    exact ⟨by first | rfl | (simp [errW_none, errW_some] <;> rfl) | (simp [*, errW_none, errW_some] <;> rfl), by repeat (first | (with_reducible first | exact HB.out | apply below_alloc | apply pw_below_drewN | apply below_drew1) | exact HB.out)⟩

end Go.Proofs.Ytedpoahndddgfaa.PAll
end
section
namespace Go.Proofs.Ytedpoahndddgfaa.PAll
open Go.RowKit Go.Proofs.YtedpoahndddgfaaW.PrintWords Go.Proofs.YtedpoahndddgfaaW.PrintLast Go.Proofs.YtedpoahndddgfaaW.PrintMore
attribute [local go_sem] max2_int min2_int max_two min_two max_three min_three max_four min_four   -- for this text's walks alone
set_option linter.unusedVariables false
set_option linter.unusedSimpArgs false

/-! ### profile_At: function 20 -/
def profile_At.l0 : Nat → Int → Int → List (S40) → Int → Int → Option (Int)
 | 0, _, _, _, _, _ => none
 | k + 1, x1, x5, x8, x9, x10 => if x10 < x9 then (if 0 ≤ x10 then (if x10 < (x8.length : Int) then (if ((rd_T40 x8 x10).f0) ≤ x1 then (profile_At.l0 k x1 ((rd_T40 x8 x10).f1) x8 x9 (wrap64 (x10 + 1))) else (profile_At.l0 k x1 x5 x8 x9 (wrap64 (x10 + 1)))) else (none)) else (none)) else (some x5)
def profile_At.f (k : Nat) (l0 : List (S40)) (a1 : Int) : Option (Int) := profile_At.l0 k a1 0 l0 (l0.length : Int) 0
theorem profile_At.mono_l : ∀ k, (∀ y0 y1 y2 y3 y4, LeO (profile_At.l0 k y0 y1 y2 y3 y4) (profile_At.l0 (k + 1) y0 y1 y2 y3 y4))
 | 0 => fun _ _ _ _ _ r h => by simp [profile_At.l0] at h
 | k + 1 => by
  have ih0 := profile_At.mono_l k
  ·intro y0 y1 y2 y3 y4
   unfold profile_At.l0
   repeat' first
   | (with_reducible exact ih0 _ _ _ _ _)
   | (with_reducible exact LeO.refl _)
   | (with_reducible exact LeO.none _)
   | (with_reducible refine LeO.ite ?_ ?_)
   | (with_reducible refine LeO.bind ?_ (fun _ => ?_))
   | exact ih0 _ _ _ _ _
   | exact LeO.none _
   | refine LeO.ite ?_ ?_
   | refine LeO.bind ?_ (fun _ => ?_)
theorem profile_At.mono : ∀ a0 a1 k, LeO (profile_At.f k a0 a1) (profile_At.f (k + 1) a0 a1) := by
 intro a0 a1 k
 have ih0 := profile_At.mono_l k
 unfold profile_At.f
 repeat' first
   | (with_reducible exact ih0 _ _ _ _ _)
   | (with_reducible exact LeO.refl _)
   | (with_reducible exact LeO.none _)
   | (with_reducible refine LeO.ite ?_ ?_)
   | (with_reducible refine LeO.bind ?_ (fun _ => ?_))
   | exact ih0 _ _ _ _ _
   | exact LeO.none _
   | refine LeO.ite ?_ ?_
   | refine LeO.bind ?_ (fun _ => ?_)
set_option maxHeartbeats 8000000 in
set_option maxRecDepth 100000 in
theorem profile_At.calls (k : Nat) (A0 : Option Addr) (c0 : Nat) (l0 : List (S40)) (a1 : Int) (r : Int) (w : World) (hr0 : Kd.C k40 w A0 l0.length l0) (hc0 : l0.length ≤ c0) (h : profile_At.f k l0 a1 = some r) :
  Calls Try.prog 20 #[.slice A0 l0.length c0, .int .i64 a1] w fun e w' => e = .returned (.int .i64 r) ∧ Below w.heap.size w w' := by
 have hu40 := Try.underlying40
 have HR0 := Aside0.mk hr0
 have HC0 := Aside0.mk hc0
 clear hr0; clear hc0
 have HB := Aside0.mk (Below.refl w.heap.size w)
 have H : (profile_At.l0 k a1 0 l0 (l0.length : Int) 0) = some r := h
 clear h
 have H' := Aside0.mk H
 clear H
 go_enter Try.func20, Try.ntmps20
 go_wp2
 go_loopg [5, 10] k (fun kq v5 v10 w' => ∃ (x5_1 : Int) (x10_1 : Int), v5 = .int .i64 x5_1 ∧ v10 = .int .i64 x10_1 ∧ Aside0 (profile_At.l0 kq a1 x5_1 l0 (l0.length : Int) x10_1 = some r) ∧ Aside0 (kq ≤ k) ∧ Aside0 (Below w.heap.size w w'))
 case atStart => exact ⟨(0), (0), ez, ez, H', ⟨Nat.le_refl _⟩, ⟨mB HB.out⟩⟩
 case round =>
  clear H'
  (try clear c2); (try clear p2)
  obtain ⟨x5_1, x10_1, rfl, rfl, HA, HK1, HB⟩ := hrel
  cases gk with
  | zero => exact absurd HA.out (by simp [profile_At.l0])
  | succ k1 =>
   have H := HA.out
   clear HA
   simp only [profile_At.l0] at H
   by_cases c3 : x10_1 < (l0.length : Int)
   ·rw [if_pos c3] at H
    have c3b0 : decide (x10_1 < (l0.length : Int)) = true := decide_eq_true c3
    clear c3
    by_cases c4 : 0 ≤ x10_1
    ·rw [if_pos c4] at H
     have c4b0 : decide (0 ≤ x10_1) = true := decide_eq_true c4
     clear c4
     by_cases c5 : x10_1 < (l0.length : Int)
     ·rw [if_pos c5] at H
      have c5b0 : decide (x10_1 < (l0.length : Int)) = true := decide_eq_true c5
      clear c5
      by_cases c6 : ((rd_T40 l0 x10_1).f0) ≤ a1
      ·rw [if_pos c6] at H
       have c6b0 : decide (((rd_T40 l0 x10_1).f0) ≤ a1) = true := decide_eq_true c6
       clear c6
       have H' := Aside0.mk H
       clear H
       have p273 : 0 ≤ (x10_1 : Int) := oda
       have q273 : x10_1 < (l0.length : Int) := oda
       obtain ⟨ad273, e273, hx273_0, hx273_1⟩ := at_T40 HR0.out x10_1 p273 q273
       cases e273
       replace hx273_0 := (HB.out.cell (World.block_lt_of_cell? w _ hx273_0)).trans hx273_0
       replace hx273_1 := (HB.out.cell (World.block_lt_of_cell? w _ hx273_1)).trans hx273_1
       replace p273 := eq_true p273
       replace q273 := eq_true q273
       go_wp2_with (first | ((with_reducible refine gate_dst (N := 7) rfl ?_); refine box_event ?hg (N := 7) ?hd (cs := #[.int .i64 0, .int .i64 0]) (t := 40) ?hr ?_; (case hd => rfl); (case hg => rfl); (case hr => first | (go_simp; done) | (go_simp; rfl)); intro gb274 hg w7 hbox hb; have n0_ := Aside0.mk (below_step (mB HB.out) hb); have n1_ := Aside0.mk (hbox); have n2_ := Aside0.mk ((by rw [hg]; exact (below_size (mB HB.out)) : w.heap.size ≤ gb274)); have n3_ := Aside0.mk ((by rw [hg]; exact (below_size (mB HB.out)) : w.heap.size ≤ gb274)); clear HB; have HB := n0_; have BK274 := n1_; have GW274 := n2_; have GE274 := n3_; clear n0_ n1_ n2_ n3_; clear hb hbox hg; have hcz8_0 : w7.cell? ⟨gb274, 0, none⟩ = some (.int .i64 0) := (blk_cell BK274.out 0).trans rfl; have hcz8_1 : w7.cell? ⟨gb274, 1, none⟩ = some (.int .i64 0) := (blk_cell BK274.out 1).trans rfl; have hfz8_0 := blk_frozen BK274.out 0; have hfz8_1 := blk_frozen BK274.out 1))
       go_roundg k1
       case measure => have := HK1.out; omega
       case rel => exact ⟨((rd_T40 l0 x10_1).f1), (wrap64 (x10_1 + 1)), ez, ez, H', ⟨by have := HK1.out; omega⟩, ⟨mBs HB.out⟩⟩
      ·rw [if_neg c6] at H
       have c6b0 : decide (((rd_T40 l0 x10_1).f0) ≤ a1) = false := decide_eq_false c6
       clear c6
       have H' := Aside0.mk H
       clear H
       have p273 : 0 ≤ (x10_1 : Int) := oda
       have q273 : x10_1 < (l0.length : Int) := oda
       obtain ⟨ad273, e273, hx273_0, hx273_1⟩ := at_T40 HR0.out x10_1 p273 q273
       cases e273
       replace hx273_0 := (HB.out.cell (World.block_lt_of_cell? w _ hx273_0)).trans hx273_0
       replace hx273_1 := (HB.out.cell (World.block_lt_of_cell? w _ hx273_1)).trans hx273_1
       replace p273 := eq_true p273
       replace q273 := eq_true q273
       go_wp2_with (first | ((with_reducible refine gate_dst (N := 7) rfl ?_); refine box_event ?hg (N := 7) ?hd (cs := #[.int .i64 0, .int .i64 0]) (t := 40) ?hr ?_; (case hd => rfl); (case hg => rfl); (case hr => first | (go_simp; done) | (go_simp; rfl)); intro gb274 hg w9 hbox hb; have n0_ := Aside0.mk (below_step (mB HB.out) hb); have n1_ := Aside0.mk (hbox); have n2_ := Aside0.mk ((by rw [hg]; exact (below_size (mB HB.out)) : w.heap.size ≤ gb274)); have n3_ := Aside0.mk ((by rw [hg]; exact (below_size (mB HB.out)) : w.heap.size ≤ gb274)); clear HB; have HB := n0_; have BK274 := n1_; have GW274 := n2_; have GE274 := n3_; clear n0_ n1_ n2_ n3_; clear hb hbox hg; have hcz10_0 : w9.cell? ⟨gb274, 0, none⟩ = some (.int .i64 0) := (blk_cell BK274.out 0).trans rfl; have hcz10_1 : w9.cell? ⟨gb274, 1, none⟩ = some (.int .i64 0) := (blk_cell BK274.out 1).trans rfl; have hfz10_0 := blk_frozen BK274.out 0; have hfz10_1 := blk_frozen BK274.out 1))
       go_roundg k1
       case measure => have := HK1.out; omega
       case rel => exact ⟨(x5_1), (wrap64 (x10_1 + 1)), ez, ez, H', ⟨by have := HK1.out; omega⟩, ⟨mBs HB.out⟩⟩
     · exact absurd (of_decide_eq_true c3b0) c5
    ·rw [if_neg c4] at H
     exact absurd H (by simp)
   ·rw [if_neg c3] at H
    have c3b0 : decide (x10_1 < (l0.length : Int)) = false := decide_eq_false c3
    clear c3
    obtain rfl := Option.some.inj H
    go_wp2
    go_ret
    exact ⟨by first | rfl | (simp [errW_none, errW_some] <;> rfl) | (simp [*, errW_none, errW_some] <;> rfl), by repeat (first | (with_reducible first | exact HB.out | apply below_alloc | apply pw_below_drewN | apply below_drew1) | exact HB.out)⟩

end Go.Proofs.Ytedpoahndddgfaa.PAll
end
section
namespace Go.Proofs.Ytedpoahndddgfaa.PAll
open Go.RowKit Go.Proofs.YtedpoahndddgfaaW.PrintWords Go.Proofs.YtedpoahndddgfaaW.PrintLast Go.Proofs.YtedpoahndddgfaaW.PrintMore
attribute [local go_sem] max2_int min2_int max_two min_two max_three min_three max_four min_four   -- for this text's walks alone
set_option linter.unusedVariables false
set_option linter.unusedSimpArgs false

/-! ### slices_Clone_Step: function 47 -/
def slices_Clone_Step.f (l0 : List (S40)) : Option ((List (S40))) := (some (([] : List (S40)) : List (S40))).bind fun y277 => (if y277.length + l0.length < 8796093022208 then (some (y277 ++ l0)) else (none))
set_option maxHeartbeats 8000000 in
set_option maxRecDepth 100000 in
theorem slices_Clone_Step.calls_some (ad0_ : Addr) (c0 : Nat) (l0 : List (S40)) (r : List (S40)) (w : World) (hr0 : Kd.C k40 w (some ad0_) l0.length l0) (hc0 : l0.length ≤ c0) (h : slices_Clone_Step.f l0 = some r) :
  Calls Try.prog 47 #[.slice (some ad0_) l0.length c0] w fun e w' => ∃ v0_ : Value, e = .returned (v0_) ∧ Kd.R k40 40 w' w.heap.size (fun _ => True) v0_ r ∧ Below w.heap.size w w' := by
 have HR0 := Aside0.mk hr0
 have HC0 := Aside0.mk hc0
 clear hr0; clear hc0
 have HB := Aside0.mk (Below.refl w.heap.size w)
 have H : ((some (([] : List (S40)) : List (S40))).bind fun y277 => (if y277.length + l0.length < 8796093022208 then (some (y277 ++ l0)) else (none))) = some r := h
 clear h
 obtain ⟨y277, hy277⟩ : ∃ y_ : List (S40), y_ = (([] : List (S40))) := ⟨_, rfl⟩
 replace H : (if y277.length + l0.length < 8796093022208 then (some (y277 ++ l0)) else (none)) = some r := mH hy277 H
 have Ny277 := Aside0.mk hy277
 clear hy277
 by_cases c2 : y277.length + l0.length < 8796093022208
 ·rw [if_pos c2] at H
  have LMc2 := Aside0.mk c2
  clear c2
  obtain ⟨y280, hy280⟩ : ∃ y_ : List (S40), y_ = (y277 ++ l0) := ⟨_, rfl⟩
  replace H : (some y280) = some r := mH hy280 H
  have Ny280 := Aside0.mk hy280
  clear hy280
  obtain rfl := Option.some.inj H
  have hnil_ := fun (W : World) => Lib.run_eql_slice_nil (P := Try.prog) W 25 40 (some ad0_) l0.length c0 0 0 Try.underlying25
  go_enter Try.func47, Try.ntmps47
  go_wp2_with (first | ((with_reducible refine gate_dst (N := 5) rfl ?_); refine Kd.R_lit k40 _ 40 ?hg (N := 5) ?hd (xs := ([] : List (S40))) (inner := []) (ok := fun _ => True) (okp := fun _ => True) ?hr ?hp (fun _ hk => hk) trivial (Below.refl _ _) (Nat.le_refl _) (by simp) ?_; (case hd => rfl); (case hg => rfl); (case hr => first | (go_simp; done) | (go_simp; rfl)); (case hp => exact (Reps.none _ _)); intro v278 w3 ho4 hb hg_ hnew_; clear hg_ hnew_; (first | rw [← Ny277.out] at ho4 | (simp only [Int.reduceToNat] at ho4; rw [← Ny277.out] at ho4)); have n0_ := Aside0.mk (Kd.R_lower ho4 (below_size (mB HB.out))); have n1_ := Aside0.mk (below_step (mB HB.out) hb); clear HB; have HO279 := n0_; have HB := n1_; clear n0_ n1_; clear hb ho4) | ((with_reducible refine gate_builtin (b := .append) (xs := #[.tmp 5, .tmp 6]) rfl ?_); at_builtin; refine Kd.R_append_rows k40 (w0 := w) w.heap.size rfl (.tmp 5) (.tmp 6) 25 40 (.agg #[(.int .i64 0), (.int .i64 0)]) 16 rfl Try.underlying25 info40 rfl (by decide) (by omega) v278 y277 l0 _ _ _ (fun _ => True) (fun _ => False) rfl rfl ?aO ?aR (fun _ _ h => h) (fun _ h => h.elim) ?aF ?aB ?aS ?aL ?_; (case aR => repeat (first | exact (Kd.C_below HR0.out HB.out) | (with_reducible refine Kd.C_alloc ?_ _) | (with_reducible refine Kd.C_drewN ?_ _) | (with_reducible refine Kd.C_drew ?_))); (case aB => exact (mB HB.out)); (case aF => exact (fun _ _ => trivial)); (case aO => exact (mR HO279.out)); (case aS => exact (below_size (mB HB.out))); (case aL => have := LMc2.out; omega); intro v281 w5 ho hb hg hat; rw [← Ny280.out] at ho; have n0_ := Aside0.mk (hb); have n1_ := Aside0.mk (ho); clear HB; clear HO279; have HB := n0_; have HO282 := n1_; clear n0_ n1_; clear ho hb hg hat))
  go_ret
  exact ⟨_, by first | rfl | (simp [errW_none, errW_some] <;> rfl) | (simp [*, errW_none, errW_some] <;> rfl), mR HO282.out, by repeat (first | (with_reducible first | exact HB.out | apply below_alloc | apply pw_below_drewN | apply below_drew1) | exact HB.out)⟩
 ·rw [if_neg c2] at H
  exact absurd H (by simp)

set_option maxHeartbeats 8000000 in
theorem slices_Clone_Step.calls (A0 : Option Addr) (c0 : Nat) (l0 : List (S40)) (r : List (S40)) (w : World) (hr0 : Kd.C k40 w A0 l0.length l0) (hc0 : l0.length ≤ c0) (h : slices_Clone_Step.f l0 = some r) :
  Calls Try.prog 47 #[.slice A0 l0.length c0] w fun e w' => ∃ v0_ : Value, e = .returned (v0_) ∧ Kd.R k40 40 w' w.heap.size (fun _ => True) v0_ r ∧ Below w.heap.size w w' := by
 cases A0 with
 | some ad0_ => exact slices_Clone_Step.calls_some ad0_ c0 l0 r w hr0 hc0 h
 | none =>
  have hl : l0 = [] := by
   cases l0 with
   | nil => rfl
   | cons x xs => obtain ⟨ad, he, _⟩ := hr0.2.2 (by simp); cases he
  subst hl
  have hr : r = [] := by
   simp [slices_Clone_Step.f] at h; first | exact h | exact h.symm
  subst hr
  have hnil_ := fun (W : World) => Lib.run_eql_slice_nil (P := Try.prog) W 25 40 none 0 c0 0 0 Try.underlying25
  clear hr0; clear hc0; clear h
  go_enter Try.func47, Try.ntmps47
  go_wp2
  go_ret
  exact ⟨_, rfl, Kd.R_nil _ _ _ _ _, Below.refl _ _⟩

end Go.Proofs.Ytedpoahndddgfaa.PAll
end
section
namespace Go.Proofs.Ytedpoahndddgfaa.PAll
open Go.RowKit Go.Proofs.YtedpoahndddgfaaW.PrintWords Go.Proofs.YtedpoahndddgfaaW.PrintLast Go.Proofs.YtedpoahndddgfaaW.PrintMore
attribute [local go_sem] max2_int min2_int max_two min_two max_three min_three max_four min_four   -- for this text's walks alone
set_option linter.unusedVariables false
set_option linter.unusedSimpArgs false

/-! ### profile_Take_1: function 49 -/
def profile_Take_1.f (a0_0 : Int) (a0_1 : Int) (a1_0 : Int) (a1_1 : Int) : Option (Int) := (cmp_Compare_int.f a0_0 a1_0).bind fun t285 => (some t285)
set_option maxHeartbeats 8000000 in
set_option maxRecDepth 100000 in
theorem profile_Take_1.calls (a0_0 : Int) (a0_1 : Int) (a1_0 : Int) (a1_1 : Int) (r : Int) (w : World) (h : profile_Take_1.f a0_0 a0_1 a1_0 a1_1 = some r) :
  Calls Try.prog 49 #[.agg #[.int .i64 a0_0, .int .i64 a0_1], .agg #[.int .i64 a1_0, .int .i64 a1_1]] w fun e w' => e = .returned (.int .i64 r) ∧ Below w.heap.size w w' := by
 have hu40 := Try.underlying40
 have HB := Aside0.mk (Below.refl w.heap.size w)
 have H : ((cmp_Compare_int.f a0_0 a1_0).bind fun t285 => (some t285)) = some r := h
 clear h
 replace H := Option.bind_eq_some_iff.mp H
 obtain ⟨t285, A30, H⟩ := H
 replace H : (some t285) = some r := H
 have A3 := Aside0.mk A30
 clear A30
 obtain rfl := Option.some.inj H
 go_enter Try.func49, Try.ntmps49
 go_wp2_with (first | ((with_reducible refine gate_dst (N := 2) rfl ?_); refine box_event ?hg (N := 2) ?hd (cs := #[.int .i64 a0_0, .int .i64 a0_1]) (t := 40) ?hr ?_; (case hd => rfl); (case hg => rfl); (case hr => first | (go_simp; done) | (go_simp; rfl)); intro gb283 hg w4 hbox hb; have n0_ := Aside0.mk (below_step (mB HB.out) hb); have n1_ := Aside0.mk (hbox); have n2_ := Aside0.mk ((by rw [hg]; exact (below_size (mB HB.out)) : w.heap.size ≤ gb283)); have n3_ := Aside0.mk ((by rw [hg]; exact (below_size (mB HB.out)) : w.heap.size ≤ gb283)); clear HB; have HB := n0_; have BK283 := n1_; have GW283 := n2_; have GE283 := n3_; clear n0_ n1_ n2_ n3_; clear hb hbox hg) | ((with_reducible refine gate_dst (N := 3) rfl ?_); refine box_event ?hg (N := 3) ?hd (cs := #[.int .i64 a1_0, .int .i64 a1_1]) (t := 40) ?hr ?_; (case hd => rfl); (case hg => rfl); (case hr => first | (go_simp; done) | (go_simp; rfl)); intro gb284 hg w5 hbox hb; have n0_ := Aside0.mk (blk_below (g := gb283) (o := .cells #[.int .i64 a0_0, .int .i64 a0_1] 40 (0, 0)) (mBK BK283.out) hb); have n1_ := Aside0.mk (below_step (mBs HB.out) hb); have n2_ := Aside0.mk (hbox); have n3_ := Aside0.mk ((by rw [hg]; exact (below_size (mBs HB.out)) : w.heap.size ≤ gb284)); have n4_ := Aside0.mk ((by rw [hg]; exact (below_size (mBs HB.out)) : w.heap.size ≤ gb284)); have n5_ := Aside0.mk ((by rw [hg]; exact Nat.ne_of_lt (blk_lt (g := gb283) (o := .cells #[.int .i64 a0_0, .int .i64 a0_1] 40 (0, 0)) (mBK BK283.out)) : gb283 ≠ gb284)); have n6_ := Aside0.mk ((by rw [hg]; exact Nat.ne_of_gt (blk_lt (g := gb283) (o := .cells #[.int .i64 a0_0, .int .i64 a0_1] 40 (0, 0)) (mBK BK283.out)) : gb284 ≠ gb283)); clear BK283; clear HB; have BK283 := n0_; have HB := n1_; have BK284 := n2_; have GW284 := n3_; have GE284 := n4_; have NB283_284 := n5_; have NB284_283 := n6_; clear n0_ n1_ n2_ n3_ n4_ n5_ n6_; clear hb hbox hg; have hnb6 := NB283_284.out; have hnc6 := NB284_283.out; have hcz7_0 : w5.cell? ⟨gb283, 0, none⟩ = some (.int .i64 a0_0) := (blk_cell BK283.out 0).trans rfl; have hcz7_1 : w5.cell? ⟨gb283, 1, none⟩ = some (.int .i64 a0_1) := (blk_cell BK283.out 1).trans rfl; have hfz7_0 := blk_frozen BK283.out 0; have hfz7_1 := blk_frozen BK283.out 1; have hcz8_0 : w5.cell? ⟨gb284, 0, none⟩ = some (.int .i64 a1_0) := (blk_cell BK284.out 0).trans rfl; have hcz8_1 : w5.cell? ⟨gb284, 1, none⟩ = some (.int .i64 a1_1) := (blk_cell BK284.out 1).trans rfl; have hfz8_0 := blk_frozen BK284.out 0; have hfz8_1 := blk_frozen BK284.out 1) | ((with_reducible refine gate_callee (f := 42) rfl ?_); refine goesL_ (some 9) rfl rfl Try.func42 (by kernel_rfl) rfl #[.int .i64 a0_0, .int .i64 a1_0] rfl mt ?_; (with_reducible refine (cmp_Compare_int.calls a0_0 a1_0 t285 _ A3.out).mono ?_); rintro e w' ⟨rfl, ⟨nd, rfl⟩⟩; refine ⟨_, rfl, ?_⟩))
 go_ret
 exact ⟨by first | rfl | (simp [errW_none, errW_some] <;> rfl) | (simp [*, errW_none, errW_some] <;> rfl), by repeat (first | (with_reducible first | exact HB.out | apply below_alloc | apply pw_below_drewN | apply below_drew1 | refine below_set ?_ GE283.out | refine below_set ?_ GE284.out) | exact HB.out)⟩

theorem cmp49 : Cmp40 49 Try.f49 := ⟨Try.func49, by kernel_rfl, rfl, profile_Take_1.calls⟩
end Go.Proofs.Ytedpoahndddgfaa.PAll
end
section
namespace Go.Proofs.Ytedpoahndddgfaa.PAll
open Go.RowKit Go.Proofs.YtedpoahndddgfaaW.PrintWords Go.Proofs.YtedpoahndddgfaaW.PrintLast Go.Proofs.YtedpoahndddgfaaW.PrintMore
attribute [local go_sem] max2_int min2_int max_two min_two max_three min_three max_four min_four   -- for this text's walks alone
set_option linter.unusedVariables false
set_option linter.unusedSimpArgs false

/-! ### profile_Take: function 22 -/
def profile_Take.l0 : Nat → Int → Int → Int → List (S40) → Int → Int → Option ((List (S40)))
 | 0, _, _, _, _, _, _ => none
 | k + 1, x3, x9, x10, x11, x50, x51 => if x51 < x50 then (if 0 ≤ x51 then (if x51 < (x11.length : Int) then (if ((rd_T40 x11 x51).f0) ≥ x9 then (if ((rd_T40 x11 x51).f0) < x10 then (profile_Take.l0 k x3 x9 x10 (x11.set (x51 : Int).toNat (⟨(rd_T40 x11 x51).f0, wrap64 (((rd_T40 x11 x51).f1) - x3)⟩ : S40)) x50 (wrap64 (x51 + 1))) else (profile_Take.l0 k x3 x9 x10 x11 x50 (wrap64 (x51 + 1)))) else (profile_Take.l0 k x3 x9 x10 x11 x50 (wrap64 (x51 + 1)))) else (none)) else (none)) else ((profile_tidy.f k x11).bind fun bt344 => (some bt344.1))
def profile_Take.f (k : Nat) (l0 : List (S40)) (a1 : Int) (a2 : Int) (a3 : Int) : Option ((List (S40))) := if (l0.length : Int) = 0 then (some ([] : List (S40))) else (if 0 < (l0.length : Int) then ((slices_Clone_Step.f l0).bind fun t328 => ((profile_At.f k l0 (mx a1 ((rd_T40 l0 0).f0))).bind fun t331 => ((profile_At.f k l0 (mx (wrap64 (a1 + (mx a2 0))) ((rd_T40 l0 0).f0))).bind fun t332 => ((some (([(⟨mx a1 ((rd_T40 l0 0).f0), t331⟩ : S40), (⟨mx (wrap64 (a1 + (mx a2 0))) ((rd_T40 l0 0).f0), t332⟩ : S40)] : List (S40)) : List (S40))).bind fun y333 => (if t328.length + y333.length < 8796093022208 then ((some (t328 ++ y333 : List (S40))).bind fun y336 => ((slices_SortStableFunc_Step__profile_tidy_1.f k y336).bind fun t339 => (profile_Take.l0 k a3 (mx a1 ((rd_T40 l0 0).f0)) (mx (wrap64 (a1 + (mx a2 0))) ((rd_T40 l0 0).f0)) t339 (y336.length : Int) 0))) else (none)))))) else (none))
theorem profile_Take.mono_l : ∀ k, (∀ y0 y1 y2 y3 y4 y5, LeO (profile_Take.l0 k y0 y1 y2 y3 y4 y5) (profile_Take.l0 (k + 1) y0 y1 y2 y3 y4 y5))
 | 0 => fun _ _ _ _ _ _ r h => by simp [profile_Take.l0] at h
 | k + 1 => by
  have ih0 := profile_Take.mono_l k
  ·intro y0 y1 y2 y3 y4 y5
   unfold profile_Take.l0
   repeat' first
   | (with_reducible exact ih0 _ _ _ _ _ _)
   | (with_reducible exact profile_At.mono _ _ _)
   | (with_reducible exact profile_tidy.mono _ _)
   | (with_reducible exact slices_SortStableFunc_Step__profile_tidy_1.mono _ _)
   | (with_reducible exact LeO.refl _)
   | (with_reducible exact LeO.none _)
   | (with_reducible refine LeO.ite ?_ ?_)
   | (with_reducible refine LeO.bind ?_ (fun _ => ?_))
   | exact ih0 _ _ _ _ _ _
   | exact profile_At.mono _ _ _
   | exact profile_tidy.mono _ _
   | exact slices_SortStableFunc_Step__profile_tidy_1.mono _ _
   | exact LeO.none _
   | refine LeO.ite ?_ ?_
   | refine LeO.bind ?_ (fun _ => ?_)
theorem profile_Take.mono : ∀ a0 a1 a2 a3 k, LeO (profile_Take.f k a0 a1 a2 a3) (profile_Take.f (k + 1) a0 a1 a2 a3) := by
 intro a0 a1 a2 a3 k
 have ih0 := profile_Take.mono_l k
 unfold profile_Take.f
 repeat' first
   | (with_reducible exact ih0 _ _ _ _ _ _)
   | (with_reducible exact profile_At.mono _ _ _)
   | (with_reducible exact profile_tidy.mono _ _)
   | (with_reducible exact slices_SortStableFunc_Step__profile_tidy_1.mono _ _)
   | (with_reducible exact LeO.refl _)
   | (with_reducible exact LeO.none _)
   | (with_reducible refine LeO.ite ?_ ?_)
   | (with_reducible refine LeO.bind ?_ (fun _ => ?_))
   | exact ih0 _ _ _ _ _ _
   | exact profile_At.mono _ _ _
   | exact profile_tidy.mono _ _
   | exact slices_SortStableFunc_Step__profile_tidy_1.mono _ _
   | exact LeO.none _
   | refine LeO.ite ?_ ?_
   | refine LeO.bind ?_ (fun _ => ?_)
set_option maxHeartbeats 8000000 in
set_option maxRecDepth 100000 in
theorem profile_Take.calls (k : Nat) (A0 : Option Addr) (c0 : Nat) (l0 : List (S40)) (a1 : Int) (a2 : Int) (a3 : Int) (r : List (S40)) (w : World) (hr0 : Kd.C k40 w A0 l0.length l0) (hc0 : l0.length ≤ c0) (h : profile_Take.f k l0 a1 a2 a3 = some r) :
  Calls Try.prog 22 #[.slice A0 l0.length c0, .int .i64 a1, .int .i64 a2, .int .i64 a3] w fun e w' => ∃ v0_ : Value, e = .returned (v0_) ∧ Kd.V k40 40 w' w.heap.size (fun k_ => (w.heap.size ≤ k_)) v0_ r ∧ Below w.heap.size w w' := by
 have hu40 := Try.underlying40
 have HR0 := Aside0.mk hr0
 have HC0 := Aside0.mk hc0
 clear hr0; clear hc0
 have HB := Aside0.mk (Below.refl w.heap.size w)
 have H : (if (l0.length : Int) = 0 then (some ([] : List (S40))) else (if 0 < (l0.length : Int) then ((slices_Clone_Step.f l0).bind fun t328 => ((profile_At.f k l0 (mx a1 ((rd_T40 l0 0).f0))).bind fun t331 => ((profile_At.f k l0 (mx (wrap64 (a1 + (mx a2 0))) ((rd_T40 l0 0).f0))).bind fun t332 => ((some (([(⟨mx a1 ((rd_T40 l0 0).f0), t331⟩ : S40), (⟨mx (wrap64 (a1 + (mx a2 0))) ((rd_T40 l0 0).f0), t332⟩ : S40)] : List (S40)) : List (S40))).bind fun y333 => (if t328.length + y333.length < 8796093022208 then ((some (t328 ++ y333 : List (S40))).bind fun y336 => ((slices_SortStableFunc_Step__profile_tidy_1.f k y336).bind fun t339 => (profile_Take.l0 k a3 (mx a1 ((rd_T40 l0 0).f0)) (mx (wrap64 (a1 + (mx a2 0))) ((rd_T40 l0 0).f0)) t339 (y336.length : Int) 0))) else (none)))))) else (none))) = some r := h
 clear h
 by_cases c5 : (l0.length : Int) = 0
 ·rw [if_pos c5] at H
  have c5b0 : ((l0.length : Int) == 0) = true := beq_iff_eq.mpr c5
  have c5b1 : ((l0.length : Int) != 0) = false := bne_eq_false_iff_eq.mpr c5
  clear c5
  obtain rfl := Option.some.inj H
  go_enter Try.func22, Try.ntmps22
  go_wp2
  repeat (go_quiet (fail); try go_wp2)
  go_ret
  exact ⟨_, by first | rfl | (simp [errW_none, errW_some] <;> rfl) | (simp [*, errW_none, errW_some] <;> rfl), Kd.R_V (by first | exact Kd.R_nil _ _ _ 0 _ | exact Kd.R_nil _ _ _ _ _ | exact Kd.N_nil _ _ _ _ _ | exact Kd.V_nil _ _ _ _ _ | exact Kd.Q_nil _ _ _ _ _ | exact Kd.S_nil _ _ _ _ _), by repeat (first | (with_reducible first | exact HB.out | apply below_alloc | apply pw_below_drewN | apply below_drew1) | exact HB.out)⟩
 ·rw [if_neg c5] at H
  have c5b0 : ((l0.length : Int) == 0) = false := beq_eq_false_iff_ne.mpr c5
  have c5b1 : ((l0.length : Int) != 0) = true := bne_iff_ne.mpr c5
  have c5b2 : ¬ (l0 = []) := fun h_ => c5 (by rw [h_]; rfl)
  by_cases c6 : 0 < (l0.length : Int)
  ·rw [if_pos c6] at H
   have c6b0 : decide (0 < (l0.length : Int)) = true := decide_eq_true c6
   have c6b1 : decide (0 < l0.length) = true := decide_eq_true (by omega)
   clear c6
   obtain ⟨ji7, hji7⟩ : ∃ j_ : Int, (mx a1 ((rd_T40 l0 0).f0)) = j_ := ⟨_, rfl⟩
   replace H : ((slices_Clone_Step.f l0).bind fun t328 => ((profile_At.f k l0 (ji7)).bind fun t331 => ((profile_At.f k l0 (mx (wrap64 (a1 + (mx a2 0))) ((rd_T40 l0 0).f0))).bind fun t332 => ((some (([(⟨ji7, t331⟩ : S40), (⟨mx (wrap64 (a1 + (mx a2 0))) ((rd_T40 l0 0).f0), t332⟩ : S40)] : List (S40)) : List (S40))).bind fun y333 => (if t328.length + y333.length < 8796093022208 then ((some (t328 ++ y333 : List (S40))).bind fun y336 => ((slices_SortStableFunc_Step__profile_tidy_1.f k y336).bind fun t339 => (profile_Take.l0 k a3 ji7 (mx (wrap64 (a1 + (mx a2 0))) ((rd_T40 l0 0).f0)) t339 (y336.length : Int) 0))) else (none)))))) = some r := by first | (rw [hji7] at H; exact H) | (simp only [hji7] at H ⊢; exact H)
   have hji7_ : (if a1 < ((rd_T40 l0 0).f0) then ((rd_T40 l0 0).f0) else a1) = ji7 := hji7
   obtain ⟨ji8, hji8⟩ : ∃ j_ : Int, (mx a2 0) = j_ := ⟨_, rfl⟩
   replace H : ((slices_Clone_Step.f l0).bind fun t328 => ((profile_At.f k l0 (ji7)).bind fun t331 => ((profile_At.f k l0 (mx (wrap64 (a1 + (ji8))) ((rd_T40 l0 0).f0))).bind fun t332 => ((some (([(⟨ji7, t331⟩ : S40), (⟨mx (wrap64 (a1 + (ji8))) ((rd_T40 l0 0).f0), t332⟩ : S40)] : List (S40)) : List (S40))).bind fun y333 => (if t328.length + y333.length < 8796093022208 then ((some (t328 ++ y333 : List (S40))).bind fun y336 => ((slices_SortStableFunc_Step__profile_tidy_1.f k y336).bind fun t339 => (profile_Take.l0 k a3 ji7 (mx (wrap64 (a1 + (ji8))) ((rd_T40 l0 0).f0)) t339 (y336.length : Int) 0))) else (none)))))) = some r := by first | (rw [hji8] at H; exact H) | (simp only [hji8] at H ⊢; exact H)
   (try (have hji8l : 0 ≤ ji8 := by (rw [← hji8]; unfold mx; (repeat' split) <;> omega)))
   (try (have hji8m : 0 ≤ ji8 := by omega))
   have hji8_ : (if a2 < 0 then 0 else a2) = ji8 := hji8
   obtain ⟨ji9, hji9⟩ : ∃ j_ : Int, (mx (wrap64 (a1 + (ji8))) ((rd_T40 l0 0).f0)) = j_ := ⟨_, rfl⟩
   replace H : ((slices_Clone_Step.f l0).bind fun t328 => ((profile_At.f k l0 (ji7)).bind fun t331 => ((profile_At.f k l0 (ji9)).bind fun t332 => ((some (([(⟨ji7, t331⟩ : S40), (⟨ji9, t332⟩ : S40)] : List (S40)) : List (S40))).bind fun y333 => (if t328.length + y333.length < 8796093022208 then ((some (t328 ++ y333 : List (S40))).bind fun y336 => ((slices_SortStableFunc_Step__profile_tidy_1.f k y336).bind fun t339 => (profile_Take.l0 k a3 ji7 ji9 t339 (y336.length : Int) 0))) else (none)))))) = some r := by first | (rw [hji9] at H; exact H) | (simp only [hji9] at H ⊢; exact H)
   have hji9_ : (if (wrap64 (a1 + (ji8))) < ((rd_T40 l0 0).f0) then ((rd_T40 l0 0).f0) else (wrap64 (a1 + (ji8)))) = ji9 := hji9
   replace H := Option.bind_eq_some_iff.mp H
   obtain ⟨t328, A100, H⟩ := H
   replace H : ((profile_At.f k l0 (ji7)).bind fun t331 => ((profile_At.f k l0 (ji9)).bind fun t332 => ((some (([(⟨ji7, t331⟩ : S40), (⟨ji9, t332⟩ : S40)] : List (S40)) : List (S40))).bind fun y333 => (if t328.length + y333.length < 8796093022208 then ((some (t328 ++ y333 : List (S40))).bind fun y336 => ((slices_SortStableFunc_Step__profile_tidy_1.f k y336).bind fun t339 => (profile_Take.l0 k a3 ji7 ji9 t339 (y336.length : Int) 0))) else (none))))) = some r := H
   have A10 := Aside0.mk A100
   clear A100
   replace H := Option.bind_eq_some_iff.mp H
   obtain ⟨t331, A110, H⟩ := H
   replace H : ((profile_At.f k l0 (ji9)).bind fun t332 => ((some (([(⟨ji7, t331⟩ : S40), (⟨ji9, t332⟩ : S40)] : List (S40)) : List (S40))).bind fun y333 => (if t328.length + y333.length < 8796093022208 then ((some (t328 ++ y333 : List (S40))).bind fun y336 => ((slices_SortStableFunc_Step__profile_tidy_1.f k y336).bind fun t339 => (profile_Take.l0 k a3 ji7 ji9 t339 (y336.length : Int) 0))) else (none)))) = some r := H
   have A11 := Aside0.mk A110
   clear A110
   replace H := Option.bind_eq_some_iff.mp H
   obtain ⟨t332, A120, H⟩ := H
   replace H : ((some (([(⟨ji7, t331⟩ : S40), (⟨ji9, t332⟩ : S40)] : List (S40)) : List (S40))).bind fun y333 => (if t328.length + y333.length < 8796093022208 then ((some (t328 ++ y333 : List (S40))).bind fun y336 => ((slices_SortStableFunc_Step__profile_tidy_1.f k y336).bind fun t339 => (profile_Take.l0 k a3 ji7 ji9 t339 (y336.length : Int) 0))) else (none))) = some r := H
   have A12 := Aside0.mk A120
   clear A120
   obtain ⟨y333, hy333⟩ : ∃ y_ : List (S40), y_ = (([(⟨ji7, t331⟩ : S40), (⟨ji9, t332⟩ : S40)] : List (S40))) := ⟨_, rfl⟩
   replace H : (if t328.length + y333.length < 8796093022208 then ((some (t328 ++ y333 : List (S40))).bind fun y336 => ((slices_SortStableFunc_Step__profile_tidy_1.f k y336).bind fun t339 => (profile_Take.l0 k a3 ji7 ji9 t339 (y336.length : Int) 0))) else (none)) = some r := mH hy333 H
   have Ny333 := Aside0.mk hy333
   clear hy333
   by_cases c13 : t328.length + y333.length < 8796093022208
   ·rw [if_pos c13] at H
    have LMc13 := Aside0.mk c13
    clear c13
    obtain ⟨y336, hy336⟩ : ∃ y_ : List (S40), y_ = (t328 ++ y333) := ⟨_, rfl⟩
    replace H : ((slices_SortStableFunc_Step__profile_tidy_1.f k y336).bind fun t339 => (profile_Take.l0 k a3 ji7 ji9 t339 (y336.length : Int) 0)) = some r := mH hy336 H
    have Ny336 := Aside0.mk hy336
    clear hy336
    replace H := Option.bind_eq_some_iff.mp H
    obtain ⟨t339, A140, H⟩ := H
    replace H : (profile_Take.l0 k a3 ji7 ji9 t339 (y336.length : Int) 0) = some r := H
    have A14 := Aside0.mk A140
    clear A140
    have H' := Aside0.mk H
    clear H
    have p326 : 0 ≤ (0 : Int) := (by omega)
    have q326 : 0 < (l0.length : Int) := oda
    obtain ⟨ad326, e326, hx326_0, hx326_1⟩ := at_T40 HR0.out 0 p326 q326
    cases e326
    have qi326 : (0 < l0.length) = True := eq_true (by omega)
    (try rw [show ((0 : Int)).toNat = 0 from rfl] at hx326_0)
    (try rw [show 0 * 2 = 0 from rfl] at hx326_0)
    (try rw [Addr.add_zero'] at hx326_0)
    (try rw [show ((0 : Int)).toNat = 0 from rfl] at hx326_1)
    (try rw [show 0 * 2 = 0 from rfl] at hx326_1)
    (try rw [Addr.add_zero'] at hx326_1)
    replace p326 := eq_true p326
    replace q326 := eq_true q326
    have p327 : 0 ≤ (0 : Int) := (by omega)
    have q327 : 0 < (l0.length : Int) := oda
    obtain ⟨ad327, e327, hx327_0, hx327_1⟩ := at_T40 HR0.out 0 p327 q327
    obtain rfl : ad326 = ad327 := (by injection e327)
    have qi327 : (0 < l0.length) = True := eq_true (by omega)
    (try rw [show ((0 : Int)).toNat = 0 from rfl] at hx327_0)
    (try rw [show 0 * 2 = 0 from rfl] at hx327_0)
    (try rw [Addr.add_zero'] at hx327_0)
    (try rw [show ((0 : Int)).toNat = 0 from rfl] at hx327_1)
    (try rw [show 0 * 2 = 0 from rfl] at hx327_1)
    (try rw [Addr.add_zero'] at hx327_1)
    replace p327 := eq_true p327
    replace q327 := eq_true q327
    go_enter Try.func22, Try.ntmps22
    go_wp2_with (first | (go_at_call 47; (with_reducible refine (slices_Clone_Step.calls _ _ l0 t328 _ ?side1 ?side2 A10.out).mono ?_); (case side1 => exact mC HR0.out); (case side2 => exact HC0.out); rintro e w15 ⟨v329, rfl, ho0, hb⟩; have n0_ := Aside0.mk (Kd.R_lower (Kd.R_newM (M := fun k_ => (w.heap.size ≤ k_)) ho0 (below_size (mB HB.out)) (fun k_ h_ => h_)) (below_size (mB HB.out))); have n1_ := Aside0.mk (below_step (mB HB.out) hb); clear HB; have HO330 := n0_; have HB := n1_; clear n0_ n1_; (try clear hb); (try clear hb2); (try clear hk); (try clear hi); (try clear ho0)) | (go_at_call 20; (with_reducible refine (profile_At.calls k _ _ l0 ji7 t331 _ ?side1 ?side2 A11.out).mono ?_); (case side1 => repeat (first | exact (Kd.C_below HR0.out HB.out) | (with_reducible refine Kd.C_alloc ?_ _) | (with_reducible refine Kd.C_drewN ?_ _) | (with_reducible refine Kd.C_drew ?_))); (case side2 => exact HC0.out); rintro e w16 ⟨rfl, hb⟩; have n0_ := Aside0.mk (Kd.R_below (mR HO330.out) hb); have n1_ := Aside0.mk (below_step (mB HB.out) hb); clear HO330; clear HB; have HO330 := n0_; have HB := n1_; clear n0_ n1_; (try clear hb); (try clear hb2); (try clear hk); (try clear hi)) | (go_at_call 20; (with_reducible refine (profile_At.calls k _ _ l0 ji9 t332 _ ?side1 ?side2 A12.out).mono ?_); (case side1 => repeat (first | exact (Kd.C_below HR0.out HB.out) | (with_reducible refine Kd.C_alloc ?_ _) | (with_reducible refine Kd.C_drewN ?_ _) | (with_reducible refine Kd.C_drew ?_))); (case side2 => exact HC0.out); rintro e w17 ⟨rfl, hb⟩; have n0_ := Aside0.mk (Kd.R_below (mR HO330.out) hb); have n1_ := Aside0.mk (below_step (mB HB.out) hb); clear HO330; clear HB; have HO330 := n0_; have HB := n1_; clear n0_ n1_; (try clear hb); (try clear hb2); (try clear hk); (try clear hi)) | ((with_reducible refine gate_dst (N := 45) rfl ?_); refine Kd.R_lit k40 _ 40 ?hg (N := 45) ?hd (xs := ([(⟨ji7, t331⟩ : S40), (⟨ji9, t332⟩ : S40)] : List (S40))) (inner := [.int .i64 ji7, .int .i64 t331, .int .i64 ji9, .int .i64 t332]) (ok := fun _ => True) (okp := fun _ => True) ?hr ?hp (fun _ hk => hk) trivial (Below.refl _ _) (Nat.le_refl _) (by simp) ?_; (case hd => rfl); (case hg => rfl); (case hr => first | (go_simp; done) | (go_simp; rfl)); (case hp => exact (Reps.c2 (show Kd.M k40 _ _ _ (⟨ji7, t331⟩ : S40) [.int .i64 ji7, .int .i64 t331] from (k40_mkM _ _ _ (⟨ji7, t331⟩ : S40) )) (Reps.c2 (show Kd.M k40 _ _ _ (⟨ji9, t332⟩ : S40) [.int .i64 ji9, .int .i64 t332] from (k40_mkM _ _ _ (⟨ji9, t332⟩ : S40) )) (Reps.none _ _)))); intro v334 w18 ho19 hb hg_ hnew_; clear hg_ hnew_; (first | rw [← Ny333.out] at ho19 | (simp only [Int.reduceToNat] at ho19; rw [← Ny333.out] at ho19)); have n0_ := Aside0.mk (Kd.R_elder' (mR HO330.out) (Kd.R_base ho19) hb); have n1_ := Aside0.mk (Kd.R_lower (Kd.R_new' (Kd.R_newM (M := fun k_ => (w.heap.size ≤ k_)) ho19 (below_size (mB HB.out)) (fun k_ h_ => h_)) (Kd.R_lt (mR HO330.out))) (below_size (mB HB.out))); have n2_ := Aside0.mk (below_step (mB HB.out) hb); clear HO330; clear HB; have HO330 := n0_; have HO335 := n1_; have HB := n2_; clear n0_ n1_ n2_; clear hb ho19; obtain ⟨Ao21, co21, eo21⟩ := Kd.R_slice HO335.out; subst eo21) | ((with_reducible refine gate_builtin (b := .append) (xs := #[.tmp 34, .tmp 45]) rfl ?_); at_builtin; refine Kd.R_append_rows k40 (w0 := w) w.heap.size rfl (.tmp 34) (.tmp 45) 25 40 (.agg #[(.int .i64 0), (.int .i64 0)]) 16 rfl Try.underlying25 info40 rfl (by decide) (by omega) v329 t328 y333 _ _ _ (fun k_ => (w.heap.size ≤ k_) ∧ some k_ ≠ (.slice Ao21 y333.length co21 : Value).ownBlock) (fun _ => False) rfl rfl ?aO ?aR (fun _ _ h => h) (fun _ h => h.elim) ?aF ?aB ?aS ?aL ?_; (case aR => repeat (first | exact (Kd.R_reads' HO335.out).2.2 | (with_reducible refine Kd.C_alloc ?_ _) | (with_reducible refine Kd.C_drewN ?_ _) | (with_reducible refine Kd.C_drew ?_))); (case aB => exact (mB HB.out)); (case aF => exact (fun k_ hk => ⟨(Nat.le_trans (below_size (mB HB.out)) hk), Kd.fresh' (Kd.R_lt (mR HO335.out)) k_ hk⟩)); (case aO => exact (by (with_reducible repeat (first | apply Kd.R_alloc | apply Kd.R_drewN | apply Kd.R_drew)); exact Kd.R_mono HO330.out (fun _ hk => ⟨hk.1.1, hk.2⟩))); (case aS => exact (below_size (mB HB.out))); (case aL => have := LMc13.out; omega); intro v337 w20 ho hb hg hat; rw [← Ny336.out] at ho; have n0_ := Aside0.mk (Kd.R_after (ok := (fun k_ => (w.heap.size ≤ k_))) (by (with_reducible repeat (first | apply Kd.R_alloc | apply Kd.R_drewN | apply Kd.R_drew)); exact Kd.R_mono HO335.out (fun _ hk => ⟨hk.1.1, hk.2⟩)) hg hat); have n1_ := Aside0.mk (hb); have n2_ := Aside0.mk (ho); clear HO335; clear HB; clear HO330; have HO335 := n0_; have HB := n1_; have HO338 := n2_; clear n0_ n1_ n2_; clear ho hb hg hat; obtain ⟨Ao22, co22, eo22⟩ := Kd.R_slice HO338.out; subst eo22) | (go_at_call 48; (with_reducible refine (slices_SortStableFunc_Step__profile_tidy_1.calls cmp49 k (fun k_ => some k_ = (.slice Ao22 y336.length co22 : Value).ownBlock) (.slice Ao22 y336.length co22) y336  t339 w _ ?side1 ?side2 A14.out).mono ?_); (case side1 => repeat (first | (with_reducible first | exact HB.out | apply below_alloc | apply pw_below_drewN | apply below_drew1) | exact HB.out)); (case side2 => exact Kd.R_tight rfl HO338.out); rintro e w23 ⟨rfl, hy0, hb, hkp⟩; have n0_ := Aside0.mk (Kd.R_mono (ok' := fun k_ => (w.heap.size ≤ k_) ∧ some k_ ≠ (.slice Ao22 y336.length co22 : Value).ownBlock) (Kd.R_keptB (HO335.out) hkp (fun k_ hk_ hs_ => (hk_.2) hs_)) (fun k_ hk_ => ⟨hk_.1.1, hk_.1.2⟩)); have n1_ := Aside0.mk (Kd.R_reok rfl hy0 (fun k_ e_ => HO338.out.1 k_ e_)); have n2_ := Aside0.mk (hb); clear HO335; clear HO338; clear HB; have HO335 := n0_; have HO338 := n1_; have HB := n2_; clear n0_ n1_ n2_; (try clear hb); (try clear hkp); (try clear hy0)))
    repeat (go_quiet (fail); try go_wp2_with (first | (go_at_call 47; (with_reducible refine (slices_Clone_Step.calls _ _ l0 t328 _ ?side1 ?side2 A10.out).mono ?_); (case side1 => exact mC HR0.out); (case side2 => exact HC0.out); rintro e w15 ⟨v329, rfl, ho0, hb⟩; have n0_ := Aside0.mk (Kd.R_lower (Kd.R_newM (M := fun k_ => (w.heap.size ≤ k_)) ho0 (below_size (mB HB.out)) (fun k_ h_ => h_)) (below_size (mB HB.out))); have n1_ := Aside0.mk (below_step (mB HB.out) hb); clear HB; have HO330 := n0_; have HB := n1_; clear n0_ n1_; (try clear hb); (try clear hb2); (try clear hk); (try clear hi); (try clear ho0)) | (go_at_call 20; (with_reducible refine (profile_At.calls k _ _ l0 ji7 t331 _ ?side1 ?side2 A11.out).mono ?_); (case side1 => repeat (first | exact (Kd.C_below HR0.out HB.out) | (with_reducible refine Kd.C_alloc ?_ _) | (with_reducible refine Kd.C_drewN ?_ _) | (with_reducible refine Kd.C_drew ?_))); (case side2 => exact HC0.out); rintro e w16 ⟨rfl, hb⟩; have n0_ := Aside0.mk (Kd.R_below (mR HO330.out) hb); have n1_ := Aside0.mk (below_step (mB HB.out) hb); clear HO330; clear HB; have HO330 := n0_; have HB := n1_; clear n0_ n1_; (try clear hb); (try clear hb2); (try clear hk); (try clear hi)) | (go_at_call 20; (with_reducible refine (profile_At.calls k _ _ l0 ji9 t332 _ ?side1 ?side2 A12.out).mono ?_); (case side1 => repeat (first | exact (Kd.C_below HR0.out HB.out) | (with_reducible refine Kd.C_alloc ?_ _) | (with_reducible refine Kd.C_drewN ?_ _) | (with_reducible refine Kd.C_drew ?_))); (case side2 => exact HC0.out); rintro e w17 ⟨rfl, hb⟩; have n0_ := Aside0.mk (Kd.R_below (mR HO330.out) hb); have n1_ := Aside0.mk (below_step (mB HB.out) hb); clear HO330; clear HB; have HO330 := n0_; have HB := n1_; clear n0_ n1_; (try clear hb); (try clear hb2); (try clear hk); (try clear hi)) | ((with_reducible refine gate_dst (N := 45) rfl ?_); refine Kd.R_lit k40 _ 40 ?hg (N := 45) ?hd (xs := ([(⟨ji7, t331⟩ : S40), (⟨ji9, t332⟩ : S40)] : List (S40))) (inner := [.int .i64 ji7, .int .i64 t331, .int .i64 ji9, .int .i64 t332]) (ok := fun _ => True) (okp := fun _ => True) ?hr ?hp (fun _ hk => hk) trivial (Below.refl _ _) (Nat.le_refl _) (by simp) ?_; (case hd => rfl); (case hg => rfl); (case hr => first | (go_simp; done) | (go_simp; rfl)); (case hp => exact (Reps.c2 (show Kd.M k40 _ _ _ (⟨ji7, t331⟩ : S40) [.int .i64 ji7, .int .i64 t331] from (k40_mkM _ _ _ (⟨ji7, t331⟩ : S40) )) (Reps.c2 (show Kd.M k40 _ _ _ (⟨ji9, t332⟩ : S40) [.int .i64 ji9, .int .i64 t332] from (k40_mkM _ _ _ (⟨ji9, t332⟩ : S40) )) (Reps.none _ _)))); intro v334 w18 ho19 hb hg_ hnew_; clear hg_ hnew_; (first | rw [← Ny333.out] at ho19 | (simp only [Int.reduceToNat] at ho19; rw [← Ny333.out] at ho19)); have n0_ := Aside0.mk (Kd.R_elder' (mR HO330.out) (Kd.R_base ho19) hb); have n1_ := Aside0.mk (Kd.R_lower (Kd.R_new' (Kd.R_newM (M := fun k_ => (w.heap.size ≤ k_)) ho19 (below_size (mB HB.out)) (fun k_ h_ => h_)) (Kd.R_lt (mR HO330.out))) (below_size (mB HB.out))); have n2_ := Aside0.mk (below_step (mB HB.out) hb); clear HO330; clear HB; have HO330 := n0_; have HO335 := n1_; have HB := n2_; clear n0_ n1_ n2_; clear hb ho19; obtain ⟨Ao21, co21, eo21⟩ := Kd.R_slice HO335.out; subst eo21) | ((with_reducible refine gate_builtin (b := .append) (xs := #[.tmp 34, .tmp 45]) rfl ?_); at_builtin; refine Kd.R_append_rows k40 (w0 := w) w.heap.size rfl (.tmp 34) (.tmp 45) 25 40 (.agg #[(.int .i64 0), (.int .i64 0)]) 16 rfl Try.underlying25 info40 rfl (by decide) (by omega) v329 t328 y333 _ _ _ (fun k_ => (w.heap.size ≤ k_) ∧ some k_ ≠ (.slice Ao21 y333.length co21 : Value).ownBlock) (fun _ => False) rfl rfl ?aO ?aR (fun _ _ h => h) (fun _ h => h.elim) ?aF ?aB ?aS ?aL ?_; (case aR => repeat (first | exact (Kd.R_reads' HO335.out).2.2 | (with_reducible refine Kd.C_alloc ?_ _) | (with_reducible refine Kd.C_drewN ?_ _) | (with_reducible refine Kd.C_drew ?_))); (case aB => exact (mB HB.out)); (case aF => exact (fun k_ hk => ⟨(Nat.le_trans (below_size (mB HB.out)) hk), Kd.fresh' (Kd.R_lt (mR HO335.out)) k_ hk⟩)); (case aO => exact (by (with_reducible repeat (first | apply Kd.R_alloc | apply Kd.R_drewN | apply Kd.R_drew)); exact Kd.R_mono HO330.out (fun _ hk => ⟨hk.1.1, hk.2⟩))); (case aS => exact (below_size (mB HB.out))); (case aL => have := LMc13.out; omega); intro v337 w20 ho hb hg hat; rw [← Ny336.out] at ho; have n0_ := Aside0.mk (Kd.R_after (ok := (fun k_ => (w.heap.size ≤ k_))) (by (with_reducible repeat (first | apply Kd.R_alloc | apply Kd.R_drewN | apply Kd.R_drew)); exact Kd.R_mono HO335.out (fun _ hk => ⟨hk.1.1, hk.2⟩)) hg hat); have n1_ := Aside0.mk (hb); have n2_ := Aside0.mk (ho); clear HO335; clear HB; clear HO330; have HO335 := n0_; have HB := n1_; have HO338 := n2_; clear n0_ n1_ n2_; clear ho hb hg hat; obtain ⟨Ao22, co22, eo22⟩ := Kd.R_slice HO338.out; subst eo22) | (go_at_call 48; (with_reducible refine (slices_SortStableFunc_Step__profile_tidy_1.calls cmp49 k (fun k_ => some k_ = (.slice Ao22 y336.length co22 : Value).ownBlock) (.slice Ao22 y336.length co22) y336  t339 w _ ?side1 ?side2 A14.out).mono ?_); (case side1 => repeat (first | (with_reducible first | exact HB.out | apply below_alloc | apply pw_below_drewN | apply below_drew1) | exact HB.out)); (case side2 => exact Kd.R_tight rfl HO338.out); rintro e w23 ⟨rfl, hy0, hb, hkp⟩; have n0_ := Aside0.mk (Kd.R_mono (ok' := fun k_ => (w.heap.size ≤ k_) ∧ some k_ ≠ (.slice Ao22 y336.length co22 : Value).ownBlock) (Kd.R_keptB (HO335.out) hkp (fun k_ hk_ hs_ => (hk_.2) hs_)) (fun k_ hk_ => ⟨hk_.1.1, hk_.1.2⟩)); have n1_ := Aside0.mk (Kd.R_reok rfl hy0 (fun k_ e_ => HO338.out.1 k_ e_)); have n2_ := Aside0.mk (hb); clear HO335; clear HO338; clear HB; have HO335 := n0_; have HO338 := n1_; have HB := n2_; clear n0_ n1_ n2_; (try clear hb); (try clear hkp); (try clear hy0))))
    go_loopg [51] k (fun kq v51 w' => ∃ (x11_1 : List (S40)) (x51_1 : Int), v51 = .int .i64 x51_1 ∧ Aside0 (profile_Take.l0 kq a3 ji7 ji9 x11_1 (y336.length : Int) x51_1 = some r) ∧ Aside0 (kq ≤ k) ∧ Aside0 (Kd.R k40 40 w' w.heap.size (fun k_ => (w.heap.size ≤ k_)) (.slice Ao22 y336.length co22) x11_1) ∧ Aside0 (Below w.heap.size w w'))
    case atStart => exact ⟨(t339), (0), ez, H', ⟨Nat.le_refl _⟩, ⟨by (with_reducible repeat (first | apply Kd.R_alloc | apply Kd.R_drewN | apply Kd.R_drew)); exact Kd.R_mono HO338.out (fun _ hk => hk.1)⟩, ⟨mB HB.out⟩⟩
    case round =>
     clear H'
     (try clear c1); (try clear c2); (try clear p2); (try clear p3); (try clear q3); (try clear hx3); (try clear qi3); (try clear c5); (try clear c5b0); (try clear c5b1); (try clear c5b2); (try clear c6); (try clear c6b0); (try clear c6b1); (try clear p6); (try clear c13); (try clear c22); (try clear hx326_0); (try clear hx326_1); (try clear hx327_0); (try clear hx327_1); (try clear p326); (try clear p327); (try clear q326); (try clear q327)
     obtain ⟨x11_1, x51_1, rfl, HA, HK1, HO_11, HB⟩ := hrel
     have hl11_1 := (Kd.R_reads' HO_11.out).1
     rw [hl11_1] at HO_11
     (try simp only [hl11_1])
     cases gk with
     | zero => exact absurd HA.out (by simp [profile_Take.l0])
     | succ k1 =>
      have H := HA.out
      clear HA
      simp only [profile_Take.l0] at H
      by_cases c24 : x51_1 < (y336.length : Int)
      ·rw [if_pos c24] at H
       have c24b0 : decide (x51_1 < (y336.length : Int)) = true := decide_eq_true c24
       clear c24
       by_cases c25 : 0 ≤ x51_1
       ·rw [if_pos c25] at H
        have c25b0 : decide (0 ≤ x51_1) = true := decide_eq_true c25
        clear c25
        by_cases c26 : x51_1 < (x11_1.length : Int)
        ·rw [if_pos c26] at H
         have c26b0 : decide (x51_1 < (x11_1.length : Int)) = true := decide_eq_true c26
         clear c26
         by_cases c27 : ((rd_T40 x11_1 x51_1).f0) ≥ ji7
         ·rw [if_pos c27] at H
          have c27b0 : decide (ji7 ≤ ((rd_T40 x11_1 x51_1).f0)) = true := decide_eq_true c27
          clear c27
          by_cases c28 : ((rd_T40 x11_1 x51_1).f0) < ji9
          ·rw [if_pos c28] at H
           have c28b0 : decide (((rd_T40 x11_1 x51_1).f0) < ji9) = true := decide_eq_true c28
           clear c28
           obtain ⟨y343, hy343⟩ : ∃ y_ : List (S40), y_ = (x11_1.set (x51_1 : Int).toNat (⟨(rd_T40 x11_1 x51_1).f0, wrap64 (((rd_T40 x11_1 x51_1).f1) - a3)⟩ : S40)) := ⟨_, rfl⟩
           replace H : (profile_Take.l0 k1 a3 ji7 ji9 y343 (y336.length : Int) (wrap64 (x51_1 + 1))) = some r := mH hy343 H
           have Ny343 := Aside0.mk hy343
           clear hy343
           have H' := Aside0.mk H
           clear H
           have p340 : 0 ≤ (x51_1 : Int) := oda
           have q340 : x51_1 < (x11_1.length : Int) := oda
           obtain ⟨ad340, e340, hx340_0, hx340_1⟩ := at_T40 (Kd.R_reads' HO_11.out).2.2 x51_1 p340 q340
           cases e340
           replace p340 := eq_true p340
           replace q340 := eq_true q340
           go_wp2_with (first | ((with_reducible refine gate_dst (N := 13) rfl ?_); refine box_event ?hg (N := 13) ?hd (cs := #[.int .i64 0, .int .i64 0]) (t := 40) ?hr ?_; (case hd => rfl); (case hg => rfl); (case hr => first | (go_simp; done) | (go_simp; rfl)); intro gb341 hg w30 hbox hb; have n0_ := Aside0.mk (Kd.R_below (Kd.R_elderB (mR HO_11.out) gb341 (Nat.le_of_eq hg.symm)) hb); have n1_ := Aside0.mk (below_step (mB HB.out) hb); have n2_ := Aside0.mk (hbox); have n3_ := Aside0.mk ((by rw [hg]; exact (below_size (mB HB.out)) : w.heap.size ≤ gb341)); have n4_ := Aside0.mk ((by rw [hg]; exact (below_size (mB HB.out)) : w.heap.size ≤ gb341)); clear HO_11; clear HB; have HO_11 := n0_; have HB := n1_; have BK341 := n2_; have GW341 := n3_; have GE341 := n4_; clear n0_ n1_ n2_ n3_ n4_; clear hb hbox hg; have hcz31_0 : w30.cell? ⟨gb341, 0, none⟩ = some (.int .i64 0) := (blk_cell BK341.out 0).trans rfl; have hcz31_1 : w30.cell? ⟨gb341, 1, none⟩ = some (.int .i64 0) := (blk_cell BK341.out 1).trans rfl; have hfz31_0 := blk_frozen BK341.out 0; have hfz31_1 := blk_frozen BK341.out 1) | ((with_reducible refine gate_store (t := 40) (p := 13) rfl ?_); (try (rw [drewN_self w30]; generalize hq_ : World.drewN w30 _ = w30; have n0_ := Aside0.mk (Kd.R_at hq_ HO_11.out); have n1_ := Aside0.mk (blk_at hq_ BK341.out); have n2_ := Aside0.mk (below_at hq_ HB.out); clear hq_ HO_11 BK341 HB; have HO_11 := n0_; have BK341 := n1_; have HB := n2_; clear n0_ n1_ n2_)); refine store_event (t := 40) (p := 13) (v := ?vo_w32) (w1 := ((w30.setCell ⟨gb341, 0, none⟩ (.int .i64 ((rd_T40 x11_1 x51_1).f0))).setCell ⟨gb341, 1, none⟩ (.int .i64 ((rd_T40 x11_1 x51_1).f1)))) ?hg ?ho ?hn ?hr ?_; (case ho => rfl); (case hg => rfl); (case hn => rfl); (case hr => first | (go_simp; done) | (go_simp; rfl)); intro w32 hw; have n0_ : Aside0 (Kd.R k40 40 w32 w.heap.size (fun k_ => (w.heap.size ≤ k_) ∧ k_ ≠ gb341) (.slice (some ad340) x11_1.length co22) x11_1) := ⟨(by rw [hw]; exact (by (with_reducible repeat (first | apply Kd.R_alloc | apply Kd.R_drewN | apply Kd.R_drew)); exact Kd.R_mono (Kd.R_far (p := ⟨gb341, 1, none⟩) (Kd.R_far (p := ⟨gb341, 0, none⟩) (Kd.R_mono HO_11.out (fun k_ hk => (⟨hk, hk.2⟩ : _ ∧ k_ ≠ gb341))) (fun _ hk => hk.2) (.int .i64 ((rd_T40 x11_1 x51_1).f0))) (fun _ hk => hk.2) (.int .i64 ((rd_T40 x11_1 x51_1).f1))) (fun _ hk => ⟨hk.1.1, hk.1.2⟩)))⟩; have n1_ : Aside0 (w32.heap[gb341]? = some (.cells #[.int .i64 ((rd_T40 x11_1 x51_1).f0), .int .i64 ((rd_T40 x11_1 x51_1).f1)] 40 (0, 0))) := ⟨(by rw [hw]; exact (by (with_reducible repeat (first | refine blk_drewN ?_ _ | refine blk_drew ?_ | refine blk_alloc ?_ _)); refine blk_put (cs := #[.int .i64 ((rd_T40 x11_1 x51_1).f0), .int .i64 0]) ?_ 1 _ rfl; (with_reducible repeat (first | refine blk_drewN ?_ _ | refine blk_drew ?_ | refine blk_alloc ?_ _)); refine blk_put (cs := #[.int .i64 0, .int .i64 0]) ?_ 0 _ rfl; (with_reducible repeat (first | refine blk_drewN ?_ _ | refine blk_drew ?_ | refine blk_alloc ?_ _)); exact BK341.out))⟩; have n2_ : Aside0 (Below w.heap.size w w32) := ⟨(by rw [hw]; exact (mBs HB.out))⟩; clear hw; clear HO_11; clear BK341; clear HB; have HO_11 := n0_; have BK341 := n1_; have HB := n2_; clear n0_ n1_ n2_; have hcz33_0 : w32.cell? ⟨gb341, 0, none⟩ = some (.int .i64 ((rd_T40 x11_1 x51_1).f0)) := (blk_cell BK341.out 0).trans rfl; have hcz33_1 : w32.cell? ⟨gb341, 1, none⟩ = some (.int .i64 ((rd_T40 x11_1 x51_1).f1)) := (blk_cell BK341.out 1).trans rfl; have hfz33_0 := blk_frozen BK341.out 0; have hfz33_1 := blk_frozen BK341.out 1; have p342 : 0 ≤ (x51_1 : Int) := oda; have q342 : x51_1 < (x11_1.length : Int) := oda; obtain ⟨ad342, e342, hx342_0, hx342_1⟩ := at_T40 (Kd.R_reads' HO_11.out).2.2 x51_1 p342 q342; obtain rfl : ad340 = ad342 := (by injection e342); replace p342 := eq_true p342; replace q342 := eq_true q342; have p29 : 0 ≤ (x51_1 : Int) := oda; have q29 : (x51_1 : Int) < ((x11_1.length : Int) : Int) := oda; obtain ⟨go29, co29, eo29, gb29, gl29, cl29, HG29⟩ := Kd.R_form HO_11.out (by omega); (first | cases eo29 | (injection eo29 with ea_ en_ ec_; (first | subst ea_ | (injection ea_ with ea_; subst ea_)); subst ec_; clear en_)); have GB29 := Aside0.mk gb29; have GG29 := Aside0.mk HG29; clear gb29 gl29 HG29; (first | simp only [add_plain] at hx340_0 | skip); (first | simp only [add_plain] at hx340_1 | skip); (first | simp only [add_plain] at hx342_0 | skip); (first | simp only [add_plain] at hx342_1 | skip); obtain ⟨ce29, hcl29, hM29, hcc29, hfr29⟩ := Kd.R_elem HO_11.out z40 (x51_1 : Int) p29 q29; obtain rfl := k40_openM hM29; have hx29_0 : w32.cell? ⟨go29, (x51_1 : Int).toNat * 2, none⟩ = some (.int .i64 ((rd_T40 x11_1 x51_1).f0)) := hcc29 0 _ rfl; have hx29_1 : w32.cell? ⟨go29, (x51_1 : Int).toNat * 2 + 1, none⟩ = some (.int .i64 ((rd_T40 x11_1 x51_1).f1)) := hcc29 1 _ rfl; have hf29_0 : w32.frozen? ⟨go29, (x51_1 : Int).toNat * 2, none⟩ = false := hfr29 0; have hf29_1 : w32.frozen? ⟨go29, (x51_1 : Int).toNat * 2 + 1, none⟩ = false := hfr29 1; clear hcl29 hcc29 hfr29 hM29; replace p29 := eq_true p29; replace q29 := eq_true q29; have HX34 := Aside0.mk (show Kd.R k40 40 w32 w.heap.size (fun k_ => (w.heap.size ≤ k_) ∧ k_ ≠ gb341) (.slice (some ⟨go29, 0, none⟩) x11_1.length co22) x11_1 from (mR HO_11.out)); obtain ⟨ce34, hcl34, hM34, hcc34, hfr34⟩ := Kd.R_elem HX34.out z40 (x51_1 : Int) (oda) (by have h_ : (x51_1 : Int) < ((x11_1.length : Int) : Int) := oda; first | exact h_ | (have e_ := (Kd.R_reads' HO_11.out).1; omega) | simpa using h_); obtain rfl := k40_openM hM34; have HP34 := Kd.R_seg HX34.out (x51_1 : Int) (oda) (by have h_ : (x51_1 : Int) < ((x11_1.length : Int) : Int) := oda; first | exact h_ | (have e_ := (Kd.R_reads' HO_11.out).1; omega) | simpa using h_) (seg := [.int .i64 (wrap64 (((rd_T40 x11_1 x51_1).f1) - a3))]) (j := 1) hcl34 hcc34 (show 2 ≤ 2 from by decide) (x' := (⟨(rd_T40 x11_1 x51_1).f0, wrap64 (((rd_T40 x11_1 x51_1).f1) - a3)⟩ : S40)) (k40_mkM _ _ _ (⟨(rd_T40 x11_1 x51_1).f0, wrap64 (((rd_T40 x11_1 x51_1).f1) - a3)⟩ : S40) ) (fun _ hk => hk); have hx34_1 := hcc34 1 _ rfl; (try simp only [show (k40).sz = 2 from rfl, Nat.mul_one, Nat.add_zero] at hx34_1); have hf34_1 := hfr34 1; (try simp only [show (k40).sz = 2 from rfl, Nat.mul_one, Nat.add_zero] at hf34_1); clear hcl34 hcc34 hfr34 hM34) | ((with_reducible refine gate_store (t := 3) (p := 74) rfl ?_); (try (rw [drewN_self w32]; generalize hq_ : World.drewN w32 _ = w32; have n0_ := Aside0.mk (Kd.R_at hq_ HO_11.out); have n1_ := Aside0.mk (blk_at hq_ BK341.out); have n2_ := Aside0.mk (below_at hq_ HB.out); clear hq_ HO_11 BK341 HB; have HO_11 := n0_; have BK341 := n1_; have HB := n2_; clear n0_ n1_ n2_; (try (have HX34 := Aside0.mk (show Kd.R k40 40 w32 w.heap.size (fun k_ => (w.heap.size ≤ k_) ∧ k_ ≠ gb341) (.slice (some ⟨go29, 0, none⟩) x11_1.length co22) x11_1 from (mR HO_11.out)))); (try (obtain ⟨ce34, hcl34, hM34, hcc34, hfr34⟩ := Kd.R_elem HX34.out z40 (x51_1 : Int) (oda) (by have h_ : (x51_1 : Int) < ((x11_1.length : Int) : Int) := oda; first | exact h_ | (have e_ := (Kd.R_reads' HO_11.out).1; omega) | simpa using h_))); (try (obtain rfl := k40_openM hM34)); (try (have HP34 := Kd.R_seg HX34.out (x51_1 : Int) (oda) (by have h_ : (x51_1 : Int) < ((x11_1.length : Int) : Int) := oda; first | exact h_ | (have e_ := (Kd.R_reads' HO_11.out).1; omega) | simpa using h_) (seg := [.int .i64 (wrap64 (((rd_T40 x11_1 x51_1).f1) - a3))]) (j := 1) hcl34 hcc34 (show 2 ≤ 2 from by decide) (x' := (⟨(rd_T40 x11_1 x51_1).f0, wrap64 (((rd_T40 x11_1 x51_1).f1) - a3)⟩ : S40)) (k40_mkM _ _ _ (⟨(rd_T40 x11_1 x51_1).f0, wrap64 (((rd_T40 x11_1 x51_1).f1) - a3)⟩ : S40) ) (fun _ hk => hk))); (try (have hx34_1 := hcc34 1 _ rfl)); (try (try simp only [show (k40).sz = 2 from rfl, Nat.mul_one, Nat.add_zero] at hx34_1)); (try (have hf34_1 := hfr34 1)); (try (try simp only [show (k40).sz = 2 from rfl, Nat.mul_one, Nat.add_zero] at hf34_1)); (try (clear hcl34 hcc34 hfr34 hM34)))); refine store_event (t := 3) (p := 74) (v := ?vo_w35) (w1 := (w32.setCell ⟨go29, (x51_1 : Int).toNat * 2 + 1, none⟩ (.int .i64 (wrap64 (((rd_T40 x11_1 x51_1).f1) - a3))))) ?hg ?ho ?hn ?hr ?_; (case ho => rfl); (case hg => rfl); (case hn => rfl); (case hr => first | (go_simp; done) | (go_simp; rfl)); intro w35 hw; have hg : w32.grownBy w35 (some go29) := (by rw [hw]; exact HP34.2); have hp_ : Kd.R k40 40 w35 w.heap.size (fun k_ => (w.heap.size ≤ k_) ∧ k_ ≠ gb341) (.slice (some ⟨go29, 0, none⟩) x11_1.length co22) y343 := (by rw [hw, Ny343.out]; exact HP34.1); clear HP34; have n0_ := Aside0.mk (hp_); have n1_ := Aside0.mk (blk_grown (g := gb341) (o := .cells #[.int .i64 ((rd_T40 x11_1 x51_1).f0), .int .i64 ((rd_T40 x11_1 x51_1).f1)] 40 (0, 0)) (mBK BK341.out) hg (Kd.R_away HO_11.out (fun _ hk => hk.2))); have n2_ := Aside0.mk ((by rw [hw]; exact below_set (HB.out) GB29.out : Below w.heap.size w w35)); clear HO_11; clear BK341; clear HB; have HO_11 := n0_; have BK341 := n1_; have HB := n2_; clear n0_ n1_ n2_; clear hg hw hp_))
           repeat (go_quiet (fail); try go_wp2)
           (try simp only [← hl11_1])
           go_roundg k1
           case measure => have := HK1.out; omega
           case rel => exact ⟨(y343), (wrap64 (x51_1 + 1)), ez, H', ⟨by have := HK1.out; omega⟩, ⟨by (try simp only [hl11_1]); (with_reducible repeat (first | apply Kd.R_alloc | apply Kd.R_drewN | apply Kd.R_drew)); exact Kd.R_mono HO_11.out (fun _ hk => hk.1)⟩, ⟨mBs HB.out⟩⟩
          ·rw [if_neg c28] at H
           have c28b0 : decide (((rd_T40 x11_1 x51_1).f0) < ji9) = false := decide_eq_false c28
           clear c28
           have H' := Aside0.mk H
           clear H
           have p340 : 0 ≤ (x51_1 : Int) := oda
           have q340 : x51_1 < (x11_1.length : Int) := oda
           obtain ⟨ad340, e340, hx340_0, hx340_1⟩ := at_T40 (Kd.R_reads' HO_11.out).2.2 x51_1 p340 q340
           cases e340
           replace p340 := eq_true p340
           replace q340 := eq_true q340
           go_wp2_with (first | ((with_reducible refine gate_dst (N := 13) rfl ?_); refine box_event ?hg (N := 13) ?hd (cs := #[.int .i64 0, .int .i64 0]) (t := 40) ?hr ?_; (case hd => rfl); (case hg => rfl); (case hr => first | (go_simp; done) | (go_simp; rfl)); intro gb341 hg w36 hbox hb; have n0_ := Aside0.mk (Kd.R_below (Kd.R_elderB (mR HO_11.out) gb341 (Nat.le_of_eq hg.symm)) hb); have n1_ := Aside0.mk (below_step (mB HB.out) hb); have n2_ := Aside0.mk (hbox); have n3_ := Aside0.mk ((by rw [hg]; exact (below_size (mB HB.out)) : w.heap.size ≤ gb341)); have n4_ := Aside0.mk ((by rw [hg]; exact (below_size (mB HB.out)) : w.heap.size ≤ gb341)); clear HO_11; clear HB; have HO_11 := n0_; have HB := n1_; have BK341 := n2_; have GW341 := n3_; have GE341 := n4_; clear n0_ n1_ n2_ n3_ n4_; clear hb hbox hg; have hcz37_0 : w36.cell? ⟨gb341, 0, none⟩ = some (.int .i64 0) := (blk_cell BK341.out 0).trans rfl; have hcz37_1 : w36.cell? ⟨gb341, 1, none⟩ = some (.int .i64 0) := (blk_cell BK341.out 1).trans rfl; have hfz37_0 := blk_frozen BK341.out 0; have hfz37_1 := blk_frozen BK341.out 1))
           repeat (go_quiet (fail); try go_wp2)
           (try simp only [← hl11_1])
           go_roundg k1
           case measure => have := HK1.out; omega
           case rel => exact ⟨(x11_1), (wrap64 (x51_1 + 1)), ez, H', ⟨by have := HK1.out; omega⟩, ⟨by (try simp only [hl11_1]); (with_reducible repeat (first | apply Kd.R_alloc | apply Kd.R_drewN | apply Kd.R_drew)); exact Kd.R_mono (Kd.R_far (p := ⟨gb341, 1, none⟩) (Kd.R_far (p := ⟨gb341, 0, none⟩) (Kd.R_mono HO_11.out (fun k_ hk => (⟨hk, hk.2⟩ : _ ∧ k_ ≠ gb341))) (fun _ hk => hk.2) (.int .i64 ((rd_T40 x11_1 x51_1).f0))) (fun _ hk => hk.2) (.int .i64 ((rd_T40 x11_1 x51_1).f1))) (fun _ hk => hk.1.1)⟩, ⟨mBs HB.out⟩⟩
         ·rw [if_neg c27] at H
          have c27b0 : decide (ji7 ≤ ((rd_T40 x11_1 x51_1).f0)) = false := decide_eq_false c27
          clear c27
          have H' := Aside0.mk H
          clear H
          have p340 : 0 ≤ (x51_1 : Int) := oda
          have q340 : x51_1 < (x11_1.length : Int) := oda
          obtain ⟨ad340, e340, hx340_0, hx340_1⟩ := at_T40 (Kd.R_reads' HO_11.out).2.2 x51_1 p340 q340
          cases e340
          replace p340 := eq_true p340
          replace q340 := eq_true q340
          go_wp2_with (first | ((with_reducible refine gate_dst (N := 13) rfl ?_); refine box_event ?hg (N := 13) ?hd (cs := #[.int .i64 0, .int .i64 0]) (t := 40) ?hr ?_; (case hd => rfl); (case hg => rfl); (case hr => first | (go_simp; done) | (go_simp; rfl)); intro gb341 hg w38 hbox hb; have n0_ := Aside0.mk (Kd.R_below (Kd.R_elderB (mR HO_11.out) gb341 (Nat.le_of_eq hg.symm)) hb); have n1_ := Aside0.mk (below_step (mB HB.out) hb); have n2_ := Aside0.mk (hbox); have n3_ := Aside0.mk ((by rw [hg]; exact (below_size (mB HB.out)) : w.heap.size ≤ gb341)); have n4_ := Aside0.mk ((by rw [hg]; exact (below_size (mB HB.out)) : w.heap.size ≤ gb341)); clear HO_11; clear HB; have HO_11 := n0_; have HB := n1_; have BK341 := n2_; have GW341 := n3_; have GE341 := n4_; clear n0_ n1_ n2_ n3_ n4_; clear hb hbox hg; have hcz39_0 : w38.cell? ⟨gb341, 0, none⟩ = some (.int .i64 0) := (blk_cell BK341.out 0).trans rfl; have hcz39_1 : w38.cell? ⟨gb341, 1, none⟩ = some (.int .i64 0) := (blk_cell BK341.out 1).trans rfl; have hfz39_0 := blk_frozen BK341.out 0; have hfz39_1 := blk_frozen BK341.out 1))
          repeat (go_quiet (fail); try go_wp2)
          (try simp only [← hl11_1])
          go_roundg k1
          case measure => have := HK1.out; omega
          case rel => exact ⟨(x11_1), (wrap64 (x51_1 + 1)), ez, H', ⟨by have := HK1.out; omega⟩, ⟨by (try simp only [hl11_1]); (with_reducible repeat (first | apply Kd.R_alloc | apply Kd.R_drewN | apply Kd.R_drew)); exact Kd.R_mono (Kd.R_far (p := ⟨gb341, 1, none⟩) (Kd.R_far (p := ⟨gb341, 0, none⟩) (Kd.R_mono HO_11.out (fun k_ hk => (⟨hk, hk.2⟩ : _ ∧ k_ ≠ gb341))) (fun _ hk => hk.2) (.int .i64 ((rd_T40 x11_1 x51_1).f0))) (fun _ hk => hk.2) (.int .i64 ((rd_T40 x11_1 x51_1).f1))) (fun _ hk => hk.1.1)⟩, ⟨mBs HB.out⟩⟩
        ·rw [if_neg c26] at H
         exact absurd H (by simp)
       ·rw [if_neg c25] at H
        exact absurd H (by simp)
      ·rw [if_neg c24] at H
       have c24b0 : decide (x51_1 < (y336.length : Int)) = false := decide_eq_false c24
       have c24b9 := c24b0
       (try rw [hl11_1] at c24b9)
       clear c24
       replace H := Option.bind_eq_some_iff.mp H
       obtain ⟨⟨t344, t347⟩, A400, H⟩ := H
       replace H : (some t344) = some r := H
       have A40 := Aside0.mk A400
       clear A400
       obtain rfl := Option.some.inj H
       go_wp2_with (first | (go_at_call 43; (with_reducible refine (profile_tidy.calls k1 (fun k_ => some k_ = (.slice Ao22 x11_1.length co22 : Value).ownBlock) (.slice Ao22 x11_1.length co22) x11_1 t344 t347 w _ ?side1 ?side2 A40.out).mono ?_); (case side1 => repeat (first | (with_reducible first | exact HB.out | apply below_alloc | apply pw_below_drewN | apply below_drew1) | exact HB.out)); (case side2 => exact Kd.R_tight rfl HO_11.out); rintro e w41 ⟨v345, rfl, ho0, hy0, hb, hkp⟩; have n0_ := Aside0.mk (Kd.R_reok rfl hy0 (fun k_ e_ => HO_11.out.1 k_ e_)); have n1_ := Aside0.mk (Kd.V_mono (ok' := fun k_ => (w.heap.size ≤ k_) ∧ some k_ ≠ (.slice Ao22 x11_1.length co22 : Value).ownBlock) ho0 (fun k_ hk_ => ⟨Or.elim hk_.1 (fun hs_ => (HO_11.out.1 k_ (hs_).symm)) (fun hn_ => (Nat.le_trans (below_size (mB HB.out)) hn_)), hk_.2⟩)); have n2_ := Aside0.mk (hb); clear HO_11; clear HB; have HO_11 := n0_; have HO346 := n1_; have HB := n2_; clear n0_ n1_ n2_; (try clear hb); (try clear hkp); (try clear ho0); (try clear hy0)))
       repeat (go_quiet (fail); try go_wp2)
       go_ret
       exact ⟨_, by first | rfl | (simp [errW_none, errW_some] <;> rfl) | (simp only [← hji7, ← hji8, ← hji9]; first | rfl | (simp [errW_none, errW_some] <;> rfl)) | (simp [*, errW_none, errW_some] <;> rfl), by (with_reducible repeat (first | apply Kd.V_alloc | apply Kd.V_drewN | apply Kd.V_drew)); exact Kd.V_mono HO346.out (fun _ hk => hk.1), by repeat (first | (with_reducible first | exact HB.out | apply below_alloc | apply pw_below_drewN | apply below_drew1) | exact HB.out)⟩
   ·rw [if_neg c13] at H
    exact absurd H (by simp)
  ·rw [if_neg c6] at H
   exact absurd H (by simp)

end Go.Proofs.Ytedpoahndddgfaa.PAll
end
section
namespace Go.Proofs.Ytedpoahndddgfaa.PAll
open Go.RowKit Go.Proofs.YtedpoahndddgfaaW.PrintWords Go.Proofs.YtedpoahndddgfaaW.PrintLast Go.Proofs.YtedpoahndddgfaaW.PrintMore
attribute [local go_sem] max2_int min2_int max_two min_two max_three min_three max_four min_four   -- for this text's walks alone
set_option linter.unusedVariables false
set_option linter.unusedSimpArgs false

/-! ### slices_Clip_int: function 54 -/
def slices_Clip_int.f (l0 : List Int) : Option (List Int) := some l0
theorem slices_Clip_int.cut (A : Option Addr) (n c : Nat) (hm : n ≤ c) : ∀ W : World, (Instr.slice 55 (.slice A n c) none (some (.int .i64 (n : Int))) (some (.int .i64 (n : Int)))).run Try.prog W = .ok (.slice A n n) W := by
 intro W
 obtain ⟨i0, hi, _, hsz, _⟩ := info_parts info3
 have ha : (A.map fun x => x.add 0) = A := by cases A <;> simp [Addr.add]
 have hn : (n : Int) ≤ (c : Int) := by omega
 simp [Instr.slice, run_underlying Try.underlying55, Instr.sliceBounds, run_sliceBound, sizeOf, typeInfo, hi, Result.andThen, ha, hn]
set_option maxHeartbeats 8000000 in
set_option maxRecDepth 100000 in
theorem slices_Clip_int.calls (P0_ : Nat → Prop) (A0 : Option Addr) (c0 : Nat) (l0 : List Int) (r : List Int) (w : World) (hs0 : Kd.V (Kd.int .i64) 3 w w.heap.size (fun k_ => P0_ k_) (.slice A0 l0.length c0) l0) (h : slices_Clip_int.f l0 = some r) :
  Calls Try.prog 54 #[.slice A0 l0.length c0] w fun e w' => ∃ v0_ : Value, e = .returned (v0_) ∧ Kd.V (Kd.int .i64) 3 w' w.heap.size (fun k_ => (P0_ k_ ∨ w.heap.size ≤ k_)) v0_ r ∧ Below w.heap.size w w' := by
 obtain rfl := Option.some.inj h
 have HO0 := Aside0.mk (show Kd.V (Kd.int .i64) 3 w w.heap.size (fun k_ => (P0_ k_ ∨ w.heap.size ≤ k_)) (.slice A0 l0.length l0.length) l0 from Kd.V_mk (Nat.le_refl _) (Kd.F_mono (Kd.V_F hs0) (fun k_ hk => .inl hk)))
 have hc := (Kd.V_reads' hs0).2.1
 have hcut := slices_Clip_int.cut A0 l0.length c0 hc
 clear hs0; clear hc
 go_enter Try.func54, Try.ntmps54
 go_wp2
 go_ret
 exact ⟨_, rfl, HO0.out, Below.refl _ _⟩
end Go.Proofs.Ytedpoahndddgfaa.PAll
end
section
namespace Go.Proofs.Ytedpoahndddgfaa.PAll
open Go.RowKit Go.Proofs.YtedpoahndddgfaaW.PrintWords Go.Proofs.YtedpoahndddgfaaW.PrintLast Go.Proofs.YtedpoahndddgfaaW.PrintMore
attribute [local go_sem] max2_int min2_int max_two min_two max_three min_three max_four min_four   -- for this text's walks alone
set_option linter.unusedVariables false
set_option linter.unusedSimpArgs false

/-! ### cons_Plan: function 37 -/
mutual
def cons_Plan.l0 : Nat → List Bool → List Int → List (S40) → List (S52) → Int → Int → Option (List Int)
 | 0, _, _, _, _, _, _ => none
 | k + 1, x4, x11, x12, x21, x22, x23 => if x23 < x22 then (if 0 ≤ x23 then (if x23 < (x21.length : Int) then (if x23 ≥ (x4.length : Int) then (cons_Plan.j1 k x4 x11 x12 0 false x21 x22 x23 true ((rd_T52 x21 x23).f0) ((rd_T52 x21 x23).f1)) else (if x23 < (x4.length : Int) then (cons_Plan.j1 k x4 x11 x12 0 false x21 x22 x23 (!(rdOf false x4 x23)) ((rd_T52 x21 x23).f0) ((rd_T52 x21 x23).f1)) else (none))) else (none)) else (none)) else ((slices_Clip_int.f x11).bind fun t686 => (some t686))
def cons_Plan.j1 : Nat → List Bool → List Int → List (S40) → Int → Bool → List (S52) → Int → Int → Bool → Int → Int → Option (List Int)
 | 0, _, _, _, _, _, _, _, _, _, _, _ => none
 | k + 1, x4, x11, x12, x15, x16, x21, x22, x23, x38, x691000, x691001 => if x38 = true then ((profile_Fit.f k x12 x691000 x691001).bind fun bt692 => (if bt692.2 = true then (if x11.length < 17592186044416 then ((profile_Take.f k x12 bt692.1 (mx x691001 1) x691000).bind fun t697 => (cons_Plan.l0 k x4 (x11 ++ [bt692.1]) t697 x21 x22 (wrap64 (x23 + 1)))) else (none)) else (if x11.length < 17592186044416 then (cons_Plan.l0 k x4 (x11 ++ [(-1)]) x12 x21 x22 (wrap64 (x23 + 1))) else (none)))) else (if x16 = true then (if x11.length < 17592186044416 then ((profile_Take.f k x12 x15 (mx x691001 1) x691000).bind fun t706 => (cons_Plan.l0 k x4 (x11 ++ [x15]) t706 x21 x22 (wrap64 (x23 + 1)))) else (none)) else (if x11.length < 17592186044416 then (cons_Plan.l0 k x4 (x11 ++ [(-1)]) x12 x21 x22 (wrap64 (x23 + 1))) else (none)))
end
def cons_Plan.f (k : Nat) (a0 : Int) (a1 : Int) (l2 : List (S38)) (l3 : List (S52)) (l4 : List Bool) : Option (List Int) := (profile_New.f k a0 a1 l2).bind fun t683 => (cons_Plan.l0 k l4 ([] : List Int) t683 l3 (l3.length : Int) 0)
theorem cons_Plan.mono_l : ∀ k, (∀ y0 y1 y2 y3 y4 y5, LeO (cons_Plan.l0 k y0 y1 y2 y3 y4 y5) (cons_Plan.l0 (k + 1) y0 y1 y2 y3 y4 y5)) ∧ (∀ y0 y1 y2 y3 y4 y5 y6 y7 y8 y9 y10, LeO (cons_Plan.j1 k y0 y1 y2 y3 y4 y5 y6 y7 y8 y9 y10) (cons_Plan.j1 (k + 1) y0 y1 y2 y3 y4 y5 y6 y7 y8 y9 y10))
 | 0 => ⟨fun _ _ _ _ _ _ r h => by simp [cons_Plan.l0] at h, fun _ _ _ _ _ _ _ _ _ _ _ r h => by simp [cons_Plan.j1] at h⟩
 | k + 1 => by
  obtain ⟨ih0, ih1⟩ := cons_Plan.mono_l k
  refine ⟨?_, ?_⟩
  ·intro y0 y1 y2 y3 y4 y5
   unfold cons_Plan.l0
   repeat' first
   | (with_reducible exact ih0 _ _ _ _ _ _)
   | (with_reducible exact ih1 _ _ _ _ _ _ _ _ _ _ _)
   | (with_reducible exact profile_Fit.mono _ _ _ _)
   | (with_reducible exact profile_New.mono _ _ _ _)
   | (with_reducible exact profile_Take.mono _ _ _ _ _)
   | (with_reducible exact LeO.refl _)
   | (with_reducible exact LeO.none _)
   | (with_reducible refine LeO.ite ?_ ?_)
   | (with_reducible refine LeO.bind ?_ (fun _ => ?_))
   | exact ih0 _ _ _ _ _ _
   | exact ih1 _ _ _ _ _ _ _ _ _ _ _
   | exact profile_Fit.mono _ _ _ _
   | exact profile_New.mono _ _ _ _
   | exact profile_Take.mono _ _ _ _ _
   | exact LeO.none _
   | refine LeO.ite ?_ ?_
   | refine LeO.bind ?_ (fun _ => ?_)
  ·intro y0 y1 y2 y3 y4 y5 y6 y7 y8 y9 y10
   unfold cons_Plan.j1
   repeat' first
   | (with_reducible exact ih0 _ _ _ _ _ _)
   | (with_reducible exact ih1 _ _ _ _ _ _ _ _ _ _ _)
   | (with_reducible exact profile_Fit.mono _ _ _ _)
   | (with_reducible exact profile_New.mono _ _ _ _)
   | (with_reducible exact profile_Take.mono _ _ _ _ _)
   | (with_reducible exact LeO.refl _)
   | (with_reducible exact LeO.none _)
   | (with_reducible refine LeO.ite ?_ ?_)
   | (with_reducible refine LeO.bind ?_ (fun _ => ?_))
   | exact ih0 _ _ _ _ _ _
   | exact ih1 _ _ _ _ _ _ _ _ _ _ _
   | exact profile_Fit.mono _ _ _ _
   | exact profile_New.mono _ _ _ _
   | exact profile_Take.mono _ _ _ _ _
   | exact LeO.none _
   | refine LeO.ite ?_ ?_
   | refine LeO.bind ?_ (fun _ => ?_)
theorem cons_Plan.mono : ∀ a0 a1 a2 a3 a4 k, LeO (cons_Plan.f k a0 a1 a2 a3 a4) (cons_Plan.f (k + 1) a0 a1 a2 a3 a4) := by
 intro a0 a1 a2 a3 a4 k
 obtain ⟨ih0, ih1⟩ := cons_Plan.mono_l k
 unfold cons_Plan.f
 repeat' first
   | (with_reducible exact ih0 _ _ _ _ _ _)
   | (with_reducible exact ih1 _ _ _ _ _ _ _ _ _ _ _)
   | (with_reducible exact profile_Fit.mono _ _ _ _)
   | (with_reducible exact profile_New.mono _ _ _ _)
   | (with_reducible exact profile_Take.mono _ _ _ _ _)
   | (with_reducible exact LeO.refl _)
   | (with_reducible exact LeO.none _)
   | (with_reducible refine LeO.ite ?_ ?_)
   | (with_reducible refine LeO.bind ?_ (fun _ => ?_))
   | exact ih0 _ _ _ _ _ _
   | exact ih1 _ _ _ _ _ _ _ _ _ _ _
   | exact profile_Fit.mono _ _ _ _
   | exact profile_New.mono _ _ _ _
   | exact profile_Take.mono _ _ _ _ _
   | exact LeO.none _
   | refine LeO.ite ?_ ?_
   | refine LeO.bind ?_ (fun _ => ?_)
set_option maxHeartbeats 8000000 in
set_option maxRecDepth 100000 in
theorem cons_Plan.calls (k : Nat) (a0 : Int) (a1 : Int) (A2 : Option Addr) (c2 : Nat) (l2 : List (S38)) (A3 : Option Addr) (c3 : Nat) (l3 : List (S52)) (A4 : Option Addr) (c4 : Nat) (l4 : List Bool) (r : List Int) (w : World) (hr2 : Kd.C k38 w A2 l2.length l2) (hc2 : l2.length ≤ c2) (hr3 : Kd.C k52 w A3 l3.length l3) (hc3 : l3.length ≤ c3) (hr4 : Kd.C Kd.bool w A4 l4.length l4) (hc4 : l4.length ≤ c4) (h : cons_Plan.f k a0 a1 l2 l3 l4 = some r) :
  Calls Try.prog 37 #[.int .i64 a0, .int .i64 a1, .slice A2 l2.length c2, .slice A3 l3.length c3, .slice A4 l4.length c4] w fun e w' => ∃ v0_ : Value, e = .returned (v0_) ∧ Kd.V (Kd.int .i64) 3 w' w.heap.size (fun k_ => (w.heap.size ≤ k_)) v0_ r ∧ Below w.heap.size w w' := by
 have hu52 := Try.underlying52
 have HR2 := Aside0.mk hr2
 have HC2 := Aside0.mk hc2
 clear hr2; clear hc2
 have HR3 := Aside0.mk hr3
 have HC3 := Aside0.mk hc3
 clear hr3; clear hc3
 have HR4 := Aside0.mk hr4
 have HC4 := Aside0.mk hc4
 clear hr4; clear hc4
 have HB := Aside0.mk (Below.refl w.heap.size w)
 have H : ((profile_New.f k a0 a1 l2).bind fun t683 => (cons_Plan.l0 k l4 ([] : List Int) t683 l3 (l3.length : Int) 0)) = some r := h
 clear h
 replace H := Option.bind_eq_some_iff.mp H
 obtain ⟨t683, A60, H⟩ := H
 replace H : (cons_Plan.l0 k l4 ([] : List Int) t683 l3 (l3.length : Int) 0) = some r := H
 have A6 := Aside0.mk A60
 clear A60
 have H' := Aside0.mk H
 clear H
 go_enter Try.func37, Try.ntmps37
 go_wp2_with (first | ((with_reducible refine gate_callee (f := 14) rfl ?_); refine goesL_ (some 20) rfl rfl Try.func14 (by kernel_rfl) rfl #[.int .i64 a0, .int .i64 a1, .slice A2 l2.length c2] rfl mt ?_; (with_reducible refine (profile_New.calls k a0 a1 _ _ l2 t683 _ ?side1 ?side2 A6.out).mono ?_); (case side1 => exact mC HR2.out); (case side2 => exact HC2.out); rintro e w7 ⟨v684, rfl, ho0, hb⟩; refine ⟨_, rfl, ?_⟩; have n0_ := Aside0.mk (Kd.V_lower (Kd.V_mono (ok' := fun k_ => (w.heap.size ≤ k_)) ho0 (fun k_ hk_ => (Nat.le_trans (below_size (mB HB.out)) hk_))) (below_size (mB HB.out))); have n1_ := Aside0.mk (below_step (mB HB.out) hb); clear HB; have HO685 := n0_; have HB := n1_; clear n0_ n1_; (try clear hb); (try clear hb2); (try clear hk); (try clear hi); (try clear ho0)))
 (try simp only [Act.put, List.setIfInBounds_toArray, List.set_cons_zero, List.set_cons_succ])
 go_loopg [11, 12, 23] k (fun kq v11 v12 v23 w' => ∃ (x11_1 : List Int) (x12_1 : List (S40)) (x23_1 : Int), v23 = .int .i64 x23_1 ∧ Aside0 (cons_Plan.l0 kq l4 x11_1 x12_1 l3 (l3.length : Int) x23_1 = some r) ∧ Aside0 (kq ≤ k) ∧ Aside0 (Kd.R (Kd.int .i64) 3 w' w.heap.size (fun k_ => (w.heap.size ≤ k_)) v11 x11_1) ∧ Aside0 (Kd.V k40 40 w' w.heap.size (fun k_ => (w.heap.size ≤ k_) ∧ some k_ ≠ (v11 : Value).ownBlock) v12 x12_1) ∧ Aside0 (Below w.heap.size w w'))
 case atStart => exact ⟨(([] : List Int)), (t683), (0), ez, H', ⟨Nat.le_refl _⟩, ⟨by first | exact Kd.R_nil _ _ _ _ _ | exact Kd.N_nil _ _ _ _ _ | exact Kd.V_nil _ _ _ _ _ | exact Kd.Q_nil _ _ _ _ _ | exact Kd.S_nil _ _ _ _ _⟩, ⟨by (with_reducible repeat (first | apply Kd.V_alloc | apply Kd.V_drewN | apply Kd.V_drew)); exact Kd.V_mono HO685.out (fun _ hk => ⟨hk, (by simp [Value.ownBlock])⟩)⟩, ⟨mB HB.out⟩⟩
 case round =>
  clear H'
  (try clear c1); (try clear c2); (try clear p2); (try clear c3); (try clear c4)
  obtain ⟨x11_1, x12_1, x23_1, rfl, HA, HK1, HO_11, HO_12, HB⟩ := hrel
  cases gk with
  | zero => exact absurd HA.out (by simp [cons_Plan.l0])
  | succ k1 =>
   have H := HA.out
   clear HA
   simp only [cons_Plan.l0] at H
   by_cases c8 : x23_1 < (l3.length : Int)
   ·rw [if_pos c8] at H
    have c8b0 : decide (x23_1 < (l3.length : Int)) = true := decide_eq_true c8
    clear c8
    by_cases c9 : 0 ≤ x23_1
    ·rw [if_pos c9] at H
     have c9b0 : decide (0 ≤ x23_1) = true := decide_eq_true c9
     clear c9
     by_cases c10 : x23_1 < (l3.length : Int)
     ·rw [if_pos c10] at H
      have c10b0 : decide (x23_1 < (l3.length : Int)) = true := decide_eq_true c10
      clear c10
      have HC11 := Aside0.mk H
      clear H
      have p689 : 0 ≤ (x23_1 : Int) := oda
      have q689 : x23_1 < (l3.length : Int) := oda
      obtain ⟨ad689, e689, hx689_0, hx689_1⟩ := at_T52 HR3.out x23_1 p689 q689
      cases e689
      replace hx689_0 := (HB.out.cell (World.block_lt_of_cell? w _ hx689_0)).trans hx689_0
      replace hx689_1 := (HB.out.cell (World.block_lt_of_cell? w _ hx689_1)).trans hx689_1
      replace p689 := eq_true p689
      replace q689 := eq_true q689
      go_upto_region 7 with (first | ((with_reducible refine gate_dst (N := 14) rfl ?_); refine box_event ?hg (N := 14) ?hd (cs := #[.int .i64 0, .int .i64 0]) (t := 52) ?hr ?_; (case hd => rfl); (case hg => rfl); (case hr => first | (go_simp; done) | (go_simp; rfl)); intro gb690 hg w12 hbox hb; have n0_ := Aside0.mk (Kd.R_below (mR HO_11.out) hb); have n1_ := Aside0.mk (Kd.V_below (Kd.V_elderB (mV HO_12.out) gb690 (Nat.le_of_eq hg.symm)) hb); have n2_ := Aside0.mk (below_step (mB HB.out) hb); have n3_ := Aside0.mk (hbox); have n4_ := Aside0.mk ((by rw [hg]; exact (below_size (mB HB.out)) : w.heap.size ≤ gb690)); have n5_ := Aside0.mk ((by rw [hg]; exact (below_size (mB HB.out)) : w.heap.size ≤ gb690)); clear HO_11; clear HO_12; clear HB; have HO_11 := n0_; have HO_12 := n1_; have HB := n2_; have BK690 := n3_; have GW690 := n4_; have GE690 := n5_; clear n0_ n1_ n2_ n3_ n4_ n5_; clear hb hbox hg; have hcz13_0 : w12.cell? ⟨gb690, 0, none⟩ = some (.int .i64 0) := (blk_cell BK690.out 0).trans rfl; have hcz13_1 : w12.cell? ⟨gb690, 1, none⟩ = some (.int .i64 0) := (blk_cell BK690.out 1).trans rfl; have hfz13_0 := blk_frozen BK690.out 0; have hfz13_1 := blk_frozen BK690.out 1))
      (try simp only [Act.put, List.setIfInBounds_toArray, List.set_cons_zero, List.set_cons_succ])
      go_cut [38] (fun v38 wc => ∃ (kq : Nat) (x38_10 : Bool), v38 = .bool x38_10 ∧ Aside0 (cons_Plan.j1 kq l4 x11_1 x12_1 0 false l3 (l3.length : Int) x23_1 x38_10 ((rd_T52 l3 x23_1).f0) ((rd_T52 l3 x23_1).f1) = some r) ∧ Aside0 (kq ≤ k1) ∧ Aside0 (Kd.R (Kd.int .i64) 3 wc w.heap.size (fun k_ => (w.heap.size ≤ k_)) u11 x11_1) ∧ Aside0 (Kd.V k40 40 wc w.heap.size (fun k_ => (w.heap.size ≤ k_) ∧ some k_ ≠ (u11 : Value).ownBlock ∧ k_ ≠ gb690) u12 x12_1) ∧ Aside0 (wc.heap[gb690]? = some (.cells #[.int .i64 ((rd_T52 l3 x23_1).f0), .int .i64 ((rd_T52 l3 x23_1).f1)] 52 (0, 0))) ∧ Aside0 (Below w.heap.size w wc))
      case first =>
       have H := HC11.out
       clear HC11
       by_cases c14 : x23_1 ≥ (l4.length : Int)
       ·rw [if_pos c14] at H
        have c14b0 : decide ((l4.length : Int) ≤ x23_1) = true := decide_eq_true c14
        clear c14
        (first | rw [c14b0] | (simp only [i64_w, i32_w]; rw [c14b0]) | skip)
        have H' := Aside0.mk H
        clear H
        go_wp2
        go_meet
        case rel => exact ⟨_, (true), ez, H', ⟨by have := HK1.out; first | omega | exact Nat.le_refl _⟩, ⟨by (with_reducible repeat (first | apply Kd.R_alloc | apply Kd.R_drewN | apply Kd.R_drew)); exact Kd.R_mono (Kd.R_far (p := ⟨gb690, 1, none⟩) (Kd.R_far (p := ⟨gb690, 0, none⟩) (Kd.R_types HO_11.out BK690.out (by decide)) (fun _ hk => hk.2) (.int .i64 ((rd_T52 l3 x23_1).f0))) (fun _ hk => hk.2) (.int .i64 ((rd_T52 l3 x23_1).f1))) (fun _ hk => hk.1)⟩, ⟨by (with_reducible repeat (first | apply Kd.V_alloc | apply Kd.V_drewN | apply Kd.V_drew)); exact Kd.V_mono (Kd.V_far (p := ⟨gb690, 1, none⟩) (Kd.V_far (p := ⟨gb690, 0, none⟩) (Kd.V_mono HO_12.out (fun k_ hk => (⟨hk, hk.2⟩ : _ ∧ k_ ≠ gb690))) (fun _ hk => hk.2) (.int .i64 ((rd_T52 l3 x23_1).f0))) (fun _ hk => hk.2) (.int .i64 ((rd_T52 l3 x23_1).f1))) (fun _ hk => ⟨hk.1.1.1, ⟨hk.1.1.2, hk.1.2⟩⟩)⟩, ⟨by (with_reducible repeat (first | refine blk_drewN ?_ _ | refine blk_drew ?_ | refine blk_alloc ?_ _)); refine blk_put (cs := #[.int .i64 ((rd_T52 l3 x23_1).f0), .int .i64 0]) ?_ 1 _ rfl; (with_reducible repeat (first | refine blk_drewN ?_ _ | refine blk_drew ?_ | refine blk_alloc ?_ _)); refine blk_put (cs := #[.int .i64 0, .int .i64 0]) ?_ 0 _ rfl; (with_reducible repeat (first | refine blk_drewN ?_ _ | refine blk_drew ?_ | refine blk_alloc ?_ _)); exact BK690.out⟩, ⟨mBs HB.out⟩⟩
       ·rw [if_neg c14] at H
        have c14b0 : decide ((l4.length : Int) ≤ x23_1) = false := decide_eq_false c14
        clear c14
        (first | rw [c14b0] | (simp only [i64_w, i32_w]; rw [c14b0]) | skip)
        by_cases c15 : x23_1 < (l4.length : Int)
        ·rw [if_pos c15] at H
         have c15b0 : decide (x23_1 < (l4.length : Int)) = true := decide_eq_true c15
         clear c15
         have H' := Aside0.mk H
         clear H
         have p691 : 0 ≤ (x23_1 : Int) := oda
         have q691 : x23_1 < (l4.length : Int) := oda
         obtain ⟨ad691, e691, hx691_0⟩ := Kd.at_bool HR4.out x23_1 p691 q691
         cases e691
         have hn691_0 : ad691.block ≠ gb690 := Nat.ne_of_lt (Nat.lt_of_lt_of_le (by have := World.block_lt_of_cell? _ _ hx691_0; first | rwa [add_block] at this | exact this) GW690.out)
         have hn691_1 : ad691.block ≠ gb690 := Nat.ne_of_lt (Nat.lt_of_lt_of_le (by have := World.block_lt_of_cell? _ _ hx691_0; first | rwa [add_block] at this | exact this) GW690.out)
         replace hx691_0 := (HB.out.cell (World.block_lt_of_cell? w _ hx691_0)).trans hx691_0
         replace hx691_0 := (cell_far (p := ⟨gb690, 0, none⟩) (by first | (rw [add_block]; exact hn691_0) | (show (Addr.add _ _).block ≠ _; rw [add_block]; exact hn691_0) | exact hn691_0) (.int .i64 ((rd_T52 l3 x23_1).f0))).trans hx691_0
         replace hx691_0 := (cell_far (p := ⟨gb690, 1, none⟩) (by first | (rw [add_block]; exact hn691_1) | (show (Addr.add _ _).block ≠ _; rw [add_block]; exact hn691_1) | exact hn691_1) (.int .i64 ((rd_T52 l3 x23_1).f1))).trans hx691_0
         clear hn691_0; clear hn691_1
         replace p691 := eq_true p691
         replace q691 := eq_true q691
         go_wp2
         go_meet
         case rel => exact ⟨_, (!(rdOf false l4 x23_1)), ez, H', ⟨by have := HK1.out; first | omega | exact Nat.le_refl _⟩, ⟨by (with_reducible repeat (first | apply Kd.R_alloc | apply Kd.R_drewN | apply Kd.R_drew)); exact Kd.R_mono (Kd.R_far (p := ⟨gb690, 1, none⟩) (Kd.R_far (p := ⟨gb690, 0, none⟩) (Kd.R_types HO_11.out BK690.out (by decide)) (fun _ hk => hk.2) (.int .i64 ((rd_T52 l3 x23_1).f0))) (fun _ hk => hk.2) (.int .i64 ((rd_T52 l3 x23_1).f1))) (fun _ hk => hk.1)⟩, ⟨by (with_reducible repeat (first | apply Kd.V_alloc | apply Kd.V_drewN | apply Kd.V_drew)); exact Kd.V_mono (Kd.V_far (p := ⟨gb690, 1, none⟩) (Kd.V_far (p := ⟨gb690, 0, none⟩) (Kd.V_mono HO_12.out (fun k_ hk => (⟨hk, hk.2⟩ : _ ∧ k_ ≠ gb690))) (fun _ hk => hk.2) (.int .i64 ((rd_T52 l3 x23_1).f0))) (fun _ hk => hk.2) (.int .i64 ((rd_T52 l3 x23_1).f1))) (fun _ hk => ⟨hk.1.1.1, ⟨hk.1.1.2, hk.1.2⟩⟩)⟩, ⟨by (with_reducible repeat (first | refine blk_drewN ?_ _ | refine blk_drew ?_ | refine blk_alloc ?_ _)); refine blk_put (cs := #[.int .i64 ((rd_T52 l3 x23_1).f0), .int .i64 0]) ?_ 1 _ rfl; (with_reducible repeat (first | refine blk_drewN ?_ _ | refine blk_drew ?_ | refine blk_alloc ?_ _)); refine blk_put (cs := #[.int .i64 0, .int .i64 0]) ?_ 0 _ rfl; (with_reducible repeat (first | refine blk_drewN ?_ _ | refine blk_drew ?_ | refine blk_alloc ?_ _)); exact BK690.out⟩, ⟨mBs HB.out⟩⟩
        ·rw [if_neg c15] at H
         exact absurd H (by simp)
      case rest =>
       clear HC11
       (try clear c1); (try clear c2); (try clear p2); (try clear c3); (try clear c4); (try clear p6); (try clear q6); (try clear hx6); (try clear c8); (try clear c8b0); (try clear c9); (try clear c9b0); (try clear c10); (try clear c10b0); (try clear c14); (try clear c14b0); (try clear c15); (try clear c15b0); (try clear hcz13_0); (try clear hcz13_1); (try clear hfz13_0); (try clear hfz13_1); (try clear hx689_0); (try clear hx689_1); (try clear hx691_0); (try clear p2); (try clear p689); (try clear p691); (try clear q689); (try clear q691)
       obtain ⟨kq, x38_10, rfl, HA, HJ10, HO_11, HO_12, BK690, HB⟩ := hcut
       cases kq with
       | zero => exact absurd HA.out (by simp [cons_Plan.j1])
       | succ kj10 =>
        have H := HA.out
        clear HA
        simp only [cons_Plan.j1] at H
        by_cases c16 : x38_10 = true
        ·subst c16
         have H1 : ((profile_Fit.f kj10 x12_1 ((rd_T52 l3 x23_1).f0) ((rd_T52 l3 x23_1).f1)).bind fun bt692 => (if bt692.2 = true then (if x11_1.length < 17592186044416 then ((profile_Take.f kj10 x12_1 bt692.1 (mx ((rd_T52 l3 x23_1).f1) 1) ((rd_T52 l3 x23_1).f0)).bind fun t697 => (cons_Plan.l0 kj10 l4 (x11_1 ++ [bt692.1]) t697 l3 (l3.length : Int) (wrap64 (x23_1 + 1)))) else (none)) else (if x11_1.length < 17592186044416 then (cons_Plan.l0 kj10 l4 (x11_1 ++ [(-1)]) x12_1 l3 (l3.length : Int) (wrap64 (x23_1 + 1))) else (none)))) = some r := by rw [if_pos rfl] at H; exact H
         clear H
         have H := H1
         clear H1
         replace H := Option.bind_eq_some_iff.mp H
         obtain ⟨⟨t692, t693⟩, A170, H⟩ := H
         replace H : (if t693 = true then (if x11_1.length < 17592186044416 then ((profile_Take.f kj10 x12_1 t692 (mx ((rd_T52 l3 x23_1).f1) 1) ((rd_T52 l3 x23_1).f0)).bind fun t697 => (cons_Plan.l0 kj10 l4 (x11_1 ++ [t692]) t697 l3 (l3.length : Int) (wrap64 (x23_1 + 1)))) else (none)) else (if x11_1.length < 17592186044416 then (cons_Plan.l0 kj10 l4 (x11_1 ++ [(-1)]) x12_1 l3 (l3.length : Int) (wrap64 (x23_1 + 1))) else (none))) = some r := H
         have A17 := Aside0.mk A170
         clear A170
         by_cases c18 : t693 = true
         ·subst c18
          have H1 : (if x11_1.length < 17592186044416 then ((profile_Take.f kj10 x12_1 t692 (mx ((rd_T52 l3 x23_1).f1) 1) ((rd_T52 l3 x23_1).f0)).bind fun t697 => (cons_Plan.l0 kj10 l4 (x11_1 ++ [t692]) t697 l3 (l3.length : Int) (wrap64 (x23_1 + 1)))) else (none)) = some r := by rw [if_pos rfl] at H; exact H
          clear H
          have H := H1
          clear H1
          by_cases c19 : x11_1.length < 17592186044416
          ·rw [if_pos c19] at H
           have LMc19 := Aside0.mk c19
           clear c19
           obtain ⟨y694, hy694⟩ : ∃ y_ : List Int, y_ = (x11_1 ++ [t692]) := ⟨_, rfl⟩
           replace H : ((profile_Take.f kj10 x12_1 t692 (mx ((rd_T52 l3 x23_1).f1) 1) ((rd_T52 l3 x23_1).f0)).bind fun t697 => (cons_Plan.l0 kj10 l4 y694 t697 l3 (l3.length : Int) (wrap64 (x23_1 + 1)))) = some r := mH hy694 H
           have Ny694 := Aside0.mk hy694
           clear hy694
           obtain ⟨ji20, hji20⟩ : ∃ j_ : Int, (mx ((rd_T52 l3 x23_1).f1) 1) = j_ := ⟨_, rfl⟩
           replace H : ((profile_Take.f kj10 x12_1 t692 (ji20) ((rd_T52 l3 x23_1).f0)).bind fun t697 => (cons_Plan.l0 kj10 l4 y694 t697 l3 (l3.length : Int) (wrap64 (x23_1 + 1)))) = some r := by first | (rw [hji20] at H; exact H) | (simp only [hji20] at H ⊢; exact H)
           (try rw [hji20] at A17)
           have hji20_ : (if ((rd_T52 l3 x23_1).f1) < 1 then 1 else ((rd_T52 l3 x23_1).f1)) = ji20 := hji20
           replace H := Option.bind_eq_some_iff.mp H
           obtain ⟨t697, A210, H⟩ := H
           replace H : (cons_Plan.l0 kj10 l4 y694 t697 l3 (l3.length : Int) (wrap64 (x23_1 + 1))) = some r := H
           have A21 := Aside0.mk A210
           clear A210
           have H' := Aside0.mk H
           clear H
           have hcz22_0 : wc.cell? ⟨gb690, 0, none⟩ = some (.int .i64 ((rd_T52 l3 x23_1).f0)) := (blk_cell BK690.out 0).trans rfl
           have hcz22_1 : wc.cell? ⟨gb690, 1, none⟩ = some (.int .i64 ((rd_T52 l3 x23_1).f1)) := (blk_cell BK690.out 1).trans rfl
           have hfz22_0 := blk_frozen BK690.out 0
           have hfz22_1 := blk_frozen BK690.out 1
           obtain ⟨Ao23, co23, eo23⟩ := Kd.V_slice HO_12.out
           subst eo23
           go_wp2_with (first | ((with_reducible refine gate_callee (f := 17) rfl ?_); refine goesL_ (some 45) rfl rfl Try.func17 (by kernel_rfl) rfl #[.slice Ao23 x12_1.length co23, .int .i64 ((rd_T52 l3 x23_1).f0), .int .i64 ((rd_T52 l3 x23_1).f1)] rfl mt ?_; (with_reducible refine (profile_Fit.calls kj10 _ _ x12_1 ((rd_T52 l3 x23_1).f0) ((rd_T52 l3 x23_1).f1) t692 true _ ?side1 ?side2 A17.out).mono ?_); (case side1 => exact mC (Kd.V_reads' HO_12.out).2.2); (case side2 => exact (Kd.V_reads' HO_12.out).2.1); rintro e w24 ⟨rfl, hb⟩; refine ⟨_, rfl, ?_⟩; have n0_ := Aside0.mk (Kd.R_below (mR HO_11.out) hb); have n1_ := Aside0.mk (Kd.V_below (mV HO_12.out) hb); have n2_ := Aside0.mk (blk_below (g := gb690) (o := .cells #[.int .i64 ((rd_T52 l3 x23_1).f0), .int .i64 ((rd_T52 l3 x23_1).f1)] 52 (0, 0)) (mBK BK690.out) hb); have n3_ := Aside0.mk (below_step (mBs HB.out) hb); clear HO_11; clear HO_12; clear BK690; clear HB; have HO_11 := n0_; have HO_12 := n1_; have BK690 := n2_; have HB := n3_; clear n0_ n1_ n2_ n3_; (try clear hb); (try clear hb2); (try clear hk); (try clear hi)) | ((with_reducible refine gate_builtin (b := .append) (xs := #[.tmp 53, .tmp 55]) rfl ?_); at_builtin; refine Kd.R_append (Kd.int .i64) (w0 := w) w.heap.size rfl (.tmp 53) (.tmp 55) 55 3 (.int .i64 0) 8 rfl Try.underlying55 info3 rfl (by decide) (by omega) u11 x11_1 t692 [.int .i64 t692] (fun k_ => (w.heap.size ≤ k_)) (fun _ => False) rfl rfl ?aP (fun _ hk => hk.elim) ?aF ?aO ?aB ?aS ?aL ?_; (case aP => exact rfl); (case aB => exact (mBs HB.out)); (case aF => exact (fun k_ hk => (Nat.le_trans (below_size (mBs HB.out)) hk))); (case aO => exact (mR HO_11.out)); (case aS => exact (below_size (mBs HB.out))); (case aL => have := LMc19.out; omega); intro v695 w25 ho hb hg hat; rw [← Ny694.out] at ho; have n0_ := Aside0.mk (Kd.V_afterv (ok := (fun k_ => (w.heap.size ≤ k_) ∧ k_ ≠ gb690)) (by (with_reducible repeat (first | apply Kd.V_alloc | apply Kd.V_drewN | apply Kd.V_drew)); exact Kd.V_mono HO_12.out (fun _ hk => ⟨⟨hk.1, hk.2.2⟩, hk.2.1⟩)) hg hat); have n1_ := Aside0.mk (blk_grown (g := gb690) (o := .cells #[.int .i64 ((rd_T52 l3 x23_1).f0), .int .i64 ((rd_T52 l3 x23_1).f1)] 52 (0, 0)) (mBK BK690.out) hg (Kd.R_ne HO_11.out BK690.out (by decide))); have n2_ := Aside0.mk (hb); have n3_ := Aside0.mk (ho); clear HO_12; clear BK690; clear HB; clear HO_11; have HO_12 := n0_; have BK690 := n1_; have HB := n2_; have HO696 := n3_; clear n0_ n1_ n2_ n3_; clear ho hb hg hat; have hcz26_0 : w25.cell? ⟨gb690, 0, none⟩ = some (.int .i64 ((rd_T52 l3 x23_1).f0)) := (blk_cell BK690.out 0).trans rfl; have hcz26_1 : w25.cell? ⟨gb690, 1, none⟩ = some (.int .i64 ((rd_T52 l3 x23_1).f1)) := (blk_cell BK690.out 1).trans rfl; have hfz26_0 := blk_frozen BK690.out 0; have hfz26_1 := blk_frozen BK690.out 1) | ((with_reducible refine gate_callee (f := 22) rfl ?_); refine goesL_ (some 64) rfl rfl Try.func22 (by kernel_rfl) rfl #[.slice Ao23 x12_1.length co23, .int .i64 t692, .int .i64 ji20, .int .i64 ((rd_T52 l3 x23_1).f0)] rfl (by (try simp only [List.map_toArray, List.map_cons, List.map_nil]); first | done | (simp only [hji20]; rfl) | rfl | (simp only [List.length_drop, List.length_take]; rfl)) ?_; (with_reducible refine (profile_Take.calls kj10 _ _ x12_1 t692 ji20 ((rd_T52 l3 x23_1).f0) t697 _ ?side1 ?side2 A21.out).mono ?_); (case side1 => exact mC (Kd.V_reads' HO_12.out).2.2); (case side2 => exact (Kd.V_reads' HO_12.out).2.1); rintro e w27 ⟨v698, rfl, ho0, hb⟩; refine ⟨_, rfl, ?_⟩; have n0_ := Aside0.mk (Kd.V_below (mV HO_12.out) hb); have n1_ := Aside0.mk (Kd.R_below (mR HO696.out) hb); have n2_ := Aside0.mk (Kd.V_lower (Kd.V_mono (ok' := fun k_ => (w.heap.size ≤ k_) ∧ some k_ ≠ (v695 : Value).ownBlock ∧ k_ ≠ gb690) ho0 (fun k_ hk_ => ⟨(Nat.le_trans (below_size (mBs HB.out)) hk_), (Kd.fresh' (Kd.R_lt (mR HO696.out)) k_ hk_), (Kd.freshB (g := gb690) (o := .cells #[.int .i64 ((rd_T52 l3 x23_1).f0), .int .i64 ((rd_T52 l3 x23_1).f1)] 52 (0, 0)) (mBK BK690.out) k_ hk_)⟩)) (below_size (mBs HB.out))); have n3_ := Aside0.mk (blk_below (g := gb690) (o := .cells #[.int .i64 ((rd_T52 l3 x23_1).f0), .int .i64 ((rd_T52 l3 x23_1).f1)] 52 (0, 0)) (mBK BK690.out) hb); have n4_ := Aside0.mk (below_step (mBs HB.out) hb); clear HO_12; clear HO696; clear BK690; clear HB; have HO_12 := n0_; have HO696 := n1_; have HO699 := n2_; have BK690 := n3_; have HB := n4_; clear n0_ n1_ n2_ n3_ n4_; (try clear hb); (try clear hb2); (try clear hk); (try clear hi); (try clear ho0)))
           go_roundg kj10
           case measure => have := HK1.out; have := HJ10.out; omega
           case rel => exact ⟨(y694), (t697), (wrap64 (x23_1 + 1)), ez, H', ⟨by have := HK1.out; have := HJ10.out; omega⟩, ⟨mR HO696.out⟩, ⟨by (with_reducible repeat (first | apply Kd.V_alloc | apply Kd.V_drewN | apply Kd.V_drew)); exact Kd.V_mono HO699.out (fun _ hk => ⟨hk.1, hk.2.1⟩)⟩, ⟨mBs HB.out⟩⟩
          ·rw [if_neg c19] at H
           exact absurd H (by simp)
         ·replace c18 := Bool.eq_false_iff.mpr c18
          subst c18
          have H1 : (if x11_1.length < 17592186044416 then (cons_Plan.l0 kj10 l4 (x11_1 ++ [(-1)]) x12_1 l3 (l3.length : Int) (wrap64 (x23_1 + 1))) else (none)) = some r := by rw [if_neg (show ¬ (false = true) by decide)] at H; exact H
          clear H
          have H := H1
          clear H1
          by_cases c28 : x11_1.length < 17592186044416
          ·rw [if_pos c28] at H
           have LMc28 := Aside0.mk c28
           clear c28
           obtain ⟨y700, hy700⟩ : ∃ y_ : List Int, y_ = (x11_1 ++ [(-1)]) := ⟨_, rfl⟩
           replace H : (cons_Plan.l0 kj10 l4 y700 x12_1 l3 (l3.length : Int) (wrap64 (x23_1 + 1))) = some r := mH hy700 H
           have Ny700 := Aside0.mk hy700
           clear hy700
           have H' := Aside0.mk H
           clear H
           have hcz29_0 : wc.cell? ⟨gb690, 0, none⟩ = some (.int .i64 ((rd_T52 l3 x23_1).f0)) := (blk_cell BK690.out 0).trans rfl
           have hcz29_1 : wc.cell? ⟨gb690, 1, none⟩ = some (.int .i64 ((rd_T52 l3 x23_1).f1)) := (blk_cell BK690.out 1).trans rfl
           have hfz29_0 := blk_frozen BK690.out 0
           have hfz29_1 := blk_frozen BK690.out 1
           obtain ⟨Ao30, co30, eo30⟩ := Kd.V_slice HO_12.out
           subst eo30
           go_wp2_with (first | ((with_reducible refine gate_callee (f := 17) rfl ?_); refine goesL_ (some 45) rfl rfl Try.func17 (by kernel_rfl) rfl #[.slice Ao30 x12_1.length co30, .int .i64 ((rd_T52 l3 x23_1).f0), .int .i64 ((rd_T52 l3 x23_1).f1)] rfl mt ?_; (with_reducible refine (profile_Fit.calls kj10 _ _ x12_1 ((rd_T52 l3 x23_1).f0) ((rd_T52 l3 x23_1).f1) t692 false _ ?side1 ?side2 A17.out).mono ?_); (case side1 => exact mC (Kd.V_reads' HO_12.out).2.2); (case side2 => exact (Kd.V_reads' HO_12.out).2.1); rintro e w31 ⟨rfl, hb⟩; refine ⟨_, rfl, ?_⟩; have n0_ := Aside0.mk (Kd.R_below (mR HO_11.out) hb); have n1_ := Aside0.mk (Kd.V_below (mV HO_12.out) hb); have n2_ := Aside0.mk (blk_below (g := gb690) (o := .cells #[.int .i64 ((rd_T52 l3 x23_1).f0), .int .i64 ((rd_T52 l3 x23_1).f1)] 52 (0, 0)) (mBK BK690.out) hb); have n3_ := Aside0.mk (below_step (mBs HB.out) hb); clear HO_11; clear HO_12; clear BK690; clear HB; have HO_11 := n0_; have HO_12 := n1_; have BK690 := n2_; have HB := n3_; clear n0_ n1_ n2_ n3_; (try clear hb); (try clear hb2); (try clear hk); (try clear hi)) | ((with_reducible refine gate_builtin (b := .append) (xs := #[.tmp 50, .tmp 51]) rfl ?_); at_builtin; refine Kd.R_append (Kd.int .i64) (w0 := w) w.heap.size rfl (.tmp 50) (.tmp 51) 55 3 (.int .i64 0) 8 rfl Try.underlying55 info3 rfl (by decide) (by omega) u11 x11_1 (-1) [.int .i64 (-1)] (fun k_ => (w.heap.size ≤ k_)) (fun _ => False) rfl rfl ?aP (fun _ hk => hk.elim) ?aF ?aO ?aB ?aS ?aL ?_; (case aP => exact rfl); (case aB => exact (mBs HB.out)); (case aF => exact (fun k_ hk => (Nat.le_trans (below_size (mBs HB.out)) hk))); (case aO => exact (mR HO_11.out)); (case aS => exact (below_size (mBs HB.out))); (case aL => have := LMc28.out; omega); intro v701 w32 ho hb hg hat; rw [← Ny700.out] at ho; have n0_ := Aside0.mk (Kd.V_afterv (ok := (fun k_ => (w.heap.size ≤ k_) ∧ k_ ≠ gb690)) (by (with_reducible repeat (first | apply Kd.V_alloc | apply Kd.V_drewN | apply Kd.V_drew)); exact Kd.V_mono HO_12.out (fun _ hk => ⟨⟨hk.1, hk.2.2⟩, hk.2.1⟩)) hg hat); have n1_ := Aside0.mk (blk_grown (g := gb690) (o := .cells #[.int .i64 ((rd_T52 l3 x23_1).f0), .int .i64 ((rd_T52 l3 x23_1).f1)] 52 (0, 0)) (mBK BK690.out) hg (Kd.R_ne HO_11.out BK690.out (by decide))); have n2_ := Aside0.mk (hb); have n3_ := Aside0.mk (ho); clear HO_12; clear BK690; clear HB; clear HO_11; have HO_12 := n0_; have BK690 := n1_; have HB := n2_; have HO702 := n3_; clear n0_ n1_ n2_ n3_; clear ho hb hg hat))
           go_roundg kj10
           case measure => have := HK1.out; have := HJ10.out; omega
           case rel => exact ⟨(y700), (x12_1), (wrap64 (x23_1 + 1)), ez, H', ⟨by have := HK1.out; have := HJ10.out; omega⟩, ⟨mR HO702.out⟩, ⟨by (with_reducible repeat (first | apply Kd.V_alloc | apply Kd.V_drewN | apply Kd.V_drew)); exact Kd.V_mono HO_12.out (fun _ hk => ⟨hk.1.1, hk.2⟩)⟩, ⟨mBs HB.out⟩⟩
          ·rw [if_neg c28] at H
           exact absurd H (by simp)
        ·replace c16 := Bool.eq_false_iff.mpr c16
         subst c16
         have H1 : (if false = true then (if x11_1.length < 17592186044416 then ((profile_Take.f kj10 x12_1 0 (mx ((rd_T52 l3 x23_1).f1) 1) ((rd_T52 l3 x23_1).f0)).bind fun t706 => (cons_Plan.l0 kj10 l4 (x11_1 ++ [0]) t706 l3 (l3.length : Int) (wrap64 (x23_1 + 1)))) else (none)) else (if x11_1.length < 17592186044416 then (cons_Plan.l0 kj10 l4 (x11_1 ++ [(-1)]) x12_1 l3 (l3.length : Int) (wrap64 (x23_1 + 1))) else (none))) = some r := by rw [if_neg (show ¬ (false = true) by decide)] at H; exact H
         clear H
         have H := H1
         clear H1
         by_cases c33 : false = true
         ·exact absurd c33 (by decide)
         ·replace c33 := Bool.eq_false_iff.mpr c33
          clear c33
          have H1 : (if x11_1.length < 17592186044416 then (cons_Plan.l0 kj10 l4 (x11_1 ++ [(-1)]) x12_1 l3 (l3.length : Int) (wrap64 (x23_1 + 1))) else (none)) = some r := by rw [if_neg (show ¬ (false = true) by decide)] at H; exact H
          clear H
          have H := H1
          clear H1
          by_cases c41 : x11_1.length < 17592186044416
          ·rw [if_pos c41] at H
           have LMc41 := Aside0.mk c41
           clear c41
           obtain ⟨y709, hy709⟩ : ∃ y_ : List Int, y_ = (x11_1 ++ [(-1)]) := ⟨_, rfl⟩
           replace H : (cons_Plan.l0 kj10 l4 y709 x12_1 l3 (l3.length : Int) (wrap64 (x23_1 + 1))) = some r := mH hy709 H
           have Ny709 := Aside0.mk hy709
           clear hy709
           have H' := Aside0.mk H
           clear H
           go_wp2_with (first | ((with_reducible refine gate_builtin (b := .append) (xs := #[.tmp 50, .tmp 51]) rfl ?_); at_builtin; refine Kd.R_append (Kd.int .i64) (w0 := w) w.heap.size rfl (.tmp 50) (.tmp 51) 55 3 (.int .i64 0) 8 rfl Try.underlying55 info3 rfl (by decide) (by omega) u11 x11_1 (-1) [.int .i64 (-1)] (fun k_ => (w.heap.size ≤ k_)) (fun _ => False) rfl rfl ?aP (fun _ hk => hk.elim) ?aF ?aO ?aB ?aS ?aL ?_; (case aP => exact rfl); (case aB => exact (mBs HB.out)); (case aF => exact (fun k_ hk => (Nat.le_trans (below_size (mBs HB.out)) hk))); (case aO => exact (mR HO_11.out)); (case aS => exact (below_size (mBs HB.out))); (case aL => have := LMc41.out; omega); intro v710 w42 ho hb hg hat; rw [← Ny709.out] at ho; have n0_ := Aside0.mk (Kd.V_afterv (ok := (fun k_ => (w.heap.size ≤ k_) ∧ k_ ≠ gb690)) (by (with_reducible repeat (first | apply Kd.V_alloc | apply Kd.V_drewN | apply Kd.V_drew)); exact Kd.V_mono HO_12.out (fun _ hk => ⟨⟨hk.1, hk.2.2⟩, hk.2.1⟩)) hg hat); have n1_ := Aside0.mk (blk_grown (g := gb690) (o := .cells #[.int .i64 ((rd_T52 l3 x23_1).f0), .int .i64 ((rd_T52 l3 x23_1).f1)] 52 (0, 0)) (mBK BK690.out) hg (Kd.R_ne HO_11.out BK690.out (by decide))); have n2_ := Aside0.mk (hb); have n3_ := Aside0.mk (ho); clear HO_12; clear BK690; clear HB; clear HO_11; have HO_12 := n0_; have BK690 := n1_; have HB := n2_; have HO711 := n3_; clear n0_ n1_ n2_ n3_; clear ho hb hg hat))
           go_roundg kj10
           case measure => have := HK1.out; have := HJ10.out; omega
           case rel => exact ⟨(y709), (x12_1), (wrap64 (x23_1 + 1)), ez, H', ⟨by have := HK1.out; have := HJ10.out; omega⟩, ⟨mR HO711.out⟩, ⟨by (with_reducible repeat (first | apply Kd.V_alloc | apply Kd.V_drewN | apply Kd.V_drew)); exact Kd.V_mono HO_12.out (fun _ hk => ⟨hk.1.1, hk.2⟩)⟩, ⟨mBs HB.out⟩⟩
          ·rw [if_neg c41] at H
           exact absurd H (by simp)
     ·rw [if_neg c10] at H
      exact absurd H (by simp)
    ·rw [if_neg c9] at H
     exact absurd H (by simp)
   ·rw [if_neg c8] at H
    have c8b0 : decide (x23_1 < (l3.length : Int)) = false := decide_eq_false c8
    clear c8
    replace H := Option.bind_eq_some_iff.mp H
    obtain ⟨t686, A430, H⟩ := H
    replace H : (some t686) = some r := H
    have A43 := Aside0.mk A430
    clear A430
    obtain rfl := Option.some.inj H
    obtain ⟨Ao44, co44, eo44⟩ := Kd.R_slice HO_11.out
    subst eo44
    go_wp2_with (first | ((with_reducible refine gate_callee (f := 54) rfl ?_); refine goesL_ (some 67) rfl rfl Try.func54 (by kernel_rfl) rfl #[.slice Ao44 x11_1.length co44] rfl mt ?_; (with_reducible refine (slices_Clip_int.calls (fun k_ => some k_ = (.slice Ao44 x11_1.length co44 : Value).ownBlock) _ _ x11_1 t686 _ ?side1 A43.out).mono ?_); (case side1 => exact Kd.R_V (Kd.R_tight rfl (HO_11.out))); rintro e w45 ⟨v687, rfl, ho0, hb⟩; refine ⟨_, rfl, ?_⟩; have n0_ := Aside0.mk (Kd.R_below (mR HO_11.out) hb); have n1_ := Aside0.mk (Kd.V_below (mV HO_12.out) hb); have n2_ := Aside0.mk (Kd.V_lower (Kd.V_mono (ok' := fun k_ => (w.heap.size ≤ k_)) ho0 (fun k_ hk_ => Or.elim hk_ (fun hs_ => ((HO_11.out).1 k_ hs_.symm)) (fun hn_ => (Nat.le_trans (below_size (mB HB.out)) hn_)))) (below_size (mB HB.out))); have n3_ := Aside0.mk (below_step (mB HB.out) hb); clear HO_11; clear HO_12; clear HB; have HO_11 := n0_; have HO_12 := n1_; have HO688 := n2_; have HB := n3_; clear n0_ n1_ n2_ n3_; (try clear hb); (try clear hb2); (try clear hk); (try clear hi); (try clear ho0)))
    go_ret
    exact ⟨_, by first | rfl | (simp [errW_none, errW_some] <;> rfl) | (simp [*, errW_none, errW_some] <;> rfl), mV HO688.out, by repeat (first | (with_reducible first | exact HB.out | apply below_alloc | apply pw_below_drewN | apply below_drew1) | exact HB.out)⟩

end Go.Proofs.Ytedpoahndddgfaa.PAll
end
section
namespace Go.Proofs.Ytedpoahndddgfaa.PAll
open Go.RowKit Go.Proofs.YtedpoahndddgfaaW.PrintWords Go.Proofs.YtedpoahndddgfaaW.PrintLast Go.Proofs.YtedpoahndddgfaaW.PrintMore
attribute [local go_sem] max2_int min2_int max_two min_two max_three min_three max_four min_four   -- for this text's walks alone
set_option linter.unusedVariables false
set_option linter.unusedSimpArgs false

/-! ### slices_Index_int: function 53 -/
def slices_Index_int.l0 : Nat → List Int → Int → Int → Int → Option (Int)
 | 0, _, _, _, _ => none
 | k + 1, x0, x1, x7, x8 => if x8 < x7 then (if 0 ≤ x8 then (if x8 < (x0.length : Int) then (if x1 = (rd x0 x8) then (some x8) else (slices_Index_int.l0 k x0 x1 x7 (wrap64 (x8 + 1)))) else (none)) else (none)) else (some (-1))
def slices_Index_int.f (k : Nat) (l0 : List Int) (a1 : Int) : Option (Int) := slices_Index_int.l0 k l0 a1 (l0.length : Int) 0
theorem slices_Index_int.mono_l : ∀ k, (∀ y0 y1 y2 y3, LeO (slices_Index_int.l0 k y0 y1 y2 y3) (slices_Index_int.l0 (k + 1) y0 y1 y2 y3))
 | 0 => fun _ _ _ _ r h => by simp [slices_Index_int.l0] at h
 | k + 1 => by
  have ih0 := slices_Index_int.mono_l k
  ·intro y0 y1 y2 y3
   unfold slices_Index_int.l0
   repeat' first
   | (with_reducible exact ih0 _ _ _ _)
   | (with_reducible exact LeO.refl _)
   | (with_reducible exact LeO.none _)
   | (with_reducible refine LeO.ite ?_ ?_)
   | (with_reducible refine LeO.bind ?_ (fun _ => ?_))
   | exact ih0 _ _ _ _
   | exact LeO.none _
   | refine LeO.ite ?_ ?_
   | refine LeO.bind ?_ (fun _ => ?_)
theorem slices_Index_int.mono : ∀ a0 a1 k, LeO (slices_Index_int.f k a0 a1) (slices_Index_int.f (k + 1) a0 a1) := by
 intro a0 a1 k
 have ih0 := slices_Index_int.mono_l k
 unfold slices_Index_int.f
 repeat' first
   | (with_reducible exact ih0 _ _ _ _)
   | (with_reducible exact LeO.refl _)
   | (with_reducible exact LeO.none _)
   | (with_reducible refine LeO.ite ?_ ?_)
   | (with_reducible refine LeO.bind ?_ (fun _ => ?_))
   | exact ih0 _ _ _ _
   | exact LeO.none _
   | refine LeO.ite ?_ ?_
   | refine LeO.bind ?_ (fun _ => ?_)
set_option maxHeartbeats 8000000 in
set_option maxRecDepth 100000 in
theorem slices_Index_int.calls (k : Nat) (A0 : Option Addr) (c0 : Nat) (l0 : List Int) (a1 : Int) (r : Int) (w : World) (hr0 : Kd.C (Kd.int .i64) w A0 l0.length l0) (hc0 : l0.length ≤ c0) (h : slices_Index_int.f k l0 a1 = some r) :
  Calls Try.prog 53 #[.slice A0 l0.length c0, .int .i64 a1] w fun e w' => e = .returned (.int .i64 r) ∧ Drawn0 w w' := by
 have HR0 := Aside0.mk hr0
 have HC0 := Aside0.mk hc0
 clear hr0; clear hc0
 have H : (slices_Index_int.l0 k l0 a1 (l0.length : Int) 0) = some r := h
 clear h
 have H' := Aside0.mk H
 clear H
 go_enter Try.func53, Try.ntmps53
 go_wp2
 go_loopg [8] k (fun kq v8 w' => ∃ (x8_1 : Int), v8 = .int .i64 x8_1 ∧ Aside0 (slices_Index_int.l0 kq l0 a1 (l0.length : Int) x8_1 = some r) ∧ Aside0 (kq ≤ k) ∧ Drawn0 w w')
 case atStart => exact ⟨(0), ez, H', ⟨Nat.le_refl _⟩, by repeat (first | exact Drawn0.refl _ | apply Drawn0.step)⟩
 case round =>
  clear H'
  (try clear p2)
  obtain ⟨x8_1, rfl, HA, HK1, ⟨m1, rfl⟩⟩ := hrel
  cases gk with
  | zero => exact absurd HA.out (by simp [slices_Index_int.l0])
  | succ k1 =>
   have H := HA.out
   clear HA
   simp only [slices_Index_int.l0] at H
   by_cases c3 : x8_1 < (l0.length : Int)
   ·rw [if_pos c3] at H
    have c3b0 : decide (x8_1 < (l0.length : Int)) = true := decide_eq_true c3
    clear c3
    by_cases c4 : 0 ≤ x8_1
    ·rw [if_pos c4] at H
     have c4b0 : decide (0 ≤ x8_1) = true := decide_eq_true c4
     clear c4
     by_cases c5 : x8_1 < (l0.length : Int)
     ·rw [if_pos c5] at H
      have c5b0 : decide (x8_1 < (l0.length : Int)) = true := decide_eq_true c5
      clear c5
      by_cases c6 : a1 = (rd l0 x8_1)
      ·rw [if_pos c6] at H
       have c6b0 : (a1 == (rd l0 x8_1)) = true := beq_iff_eq.mpr c6
       have c6b1 : (a1 != (rd l0 x8_1)) = false := bne_eq_false_iff_eq.mpr c6
       clear c6
       obtain rfl := Option.some.inj H
       have p712 : 0 ≤ (x8_1 : Int) := oda
       have q712 : x8_1 < (l0.length : Int) := oda
       obtain ⟨ad712, e712, hx712_0⟩ := Kd.at_int HR0.out x8_1 p712 q712
       cases e712
       replace p712 := eq_true p712
       replace q712 := eq_true q712
       go_wp2
       go_ret
       exact ⟨by first | rfl | (simp; done) | (simp [*]; done), by repeat (first | exact Drawn0.refl _ | apply Drawn0.step)⟩
      ·rw [if_neg c6] at H
       have c6b0 : (a1 == (rd l0 x8_1)) = false := beq_eq_false_iff_ne.mpr c6
       have c6b1 : (a1 != (rd l0 x8_1)) = true := bne_iff_ne.mpr c6
       have H' := Aside0.mk H
       clear H
       have p712 : 0 ≤ (x8_1 : Int) := oda
       have q712 : x8_1 < (l0.length : Int) := oda
       obtain ⟨ad712, e712, hx712_0⟩ := Kd.at_int HR0.out x8_1 p712 q712
       cases e712
       replace p712 := eq_true p712
       replace q712 := eq_true q712
       go_wp2
       go_roundg k1
       case measure => have := HK1.out; omega
       case rel => exact ⟨(wrap64 (x8_1 + 1)), ez, H', ⟨by have := HK1.out; omega⟩, by repeat (first | exact Drawn0.refl _ | apply Drawn0.step)⟩
     · exact absurd (of_decide_eq_true c3b0) c5
    ·rw [if_neg c4] at H
     exact absurd H (by simp)
   ·rw [if_neg c3] at H
    have c3b0 : decide (x8_1 < (l0.length : Int)) = false := decide_eq_false c3
    clear c3
    obtain rfl := Option.some.inj H
    go_wp2
    go_ret
    exact ⟨by first | rfl | (simp; done) | (simp [*]; done), by repeat (first | exact Drawn0.refl _ | apply Drawn0.step)⟩

end Go.Proofs.Ytedpoahndddgfaa.PAll
end
section
namespace Go.Proofs.Ytedpoahndddgfaa.PAll
open Go.RowKit Go.Proofs.YtedpoahndddgfaaW.PrintWords Go.Proofs.YtedpoahndddgfaaW.PrintLast Go.Proofs.YtedpoahndddgfaaW.PrintMore
attribute [local go_sem] max2_int min2_int max_two min_two max_three min_three max_four min_four   -- for this text's walks alone
set_option linter.unusedVariables false
set_option linter.unusedSimpArgs false

/-! ### cons_Next: function 34 -/
def cons_Next.f (k : Nat) (a0 : Int) (a1 : Int) (l2 : List (S38)) (l3 : List (S52)) (l4 : List Bool) : Option (Int × Bool) := (cons_Plan.f k a0 a1 l2 l3 l4).bind fun t713 => ((slices_Index_int.f k t713 a0).bind fun t716 => (some (mx t716 0, decide (t716 ≥ 0))))
theorem cons_Next.mono : ∀ a0 a1 a2 a3 a4 k, LeO (cons_Next.f k a0 a1 a2 a3 a4) (cons_Next.f (k + 1) a0 a1 a2 a3 a4) := by
 intro a0 a1 a2 a3 a4 k
 unfold cons_Next.f
 repeat' first
   | (with_reducible exact cons_Plan.mono _ _ _ _ _ _)
   | (with_reducible exact slices_Index_int.mono _ _ _)
   | (with_reducible exact LeO.refl _)
   | (with_reducible exact LeO.none _)
   | (with_reducible refine LeO.ite ?_ ?_)
   | (with_reducible refine LeO.bind ?_ (fun _ => ?_))
   | exact cons_Plan.mono _ _ _ _ _ _
   | exact slices_Index_int.mono _ _ _
   | exact LeO.none _
   | refine LeO.ite ?_ ?_
   | refine LeO.bind ?_ (fun _ => ?_)
set_option maxHeartbeats 8000000 in
set_option maxRecDepth 100000 in
theorem cons_Next.calls (k : Nat) (a0 : Int) (a1 : Int) (A2 : Option Addr) (c2 : Nat) (l2 : List (S38)) (A3 : Option Addr) (c3 : Nat) (l3 : List (S52)) (A4 : Option Addr) (c4 : Nat) (l4 : List Bool) (r1 : Int) (r2 : Bool) (w : World) (hr2 : Kd.C k38 w A2 l2.length l2) (hc2 : l2.length ≤ c2) (hr3 : Kd.C k52 w A3 l3.length l3) (hc3 : l3.length ≤ c3) (hr4 : Kd.C Kd.bool w A4 l4.length l4) (hc4 : l4.length ≤ c4) (h : cons_Next.f k a0 a1 l2 l3 l4 = some (r1, r2)) :
  Calls Try.prog 34 #[.int .i64 a0, .int .i64 a1, .slice A2 l2.length c2, .slice A3 l3.length c3, .slice A4 l4.length c4] w fun e w' => e = .returned (.tuple #[.int .i64 r1, .bool r2]) ∧ Below w.heap.size w w' := by
 have HR2 := Aside0.mk hr2
 have HC2 := Aside0.mk hc2
 clear hr2; clear hc2
 have HR3 := Aside0.mk hr3
 have HC3 := Aside0.mk hc3
 clear hr3; clear hc3
 have HR4 := Aside0.mk hr4
 have HC4 := Aside0.mk hc4
 clear hr4; clear hc4
 have HB := Aside0.mk (Below.refl w.heap.size w)
 have H : ((cons_Plan.f k a0 a1 l2 l3 l4).bind fun t713 => ((slices_Index_int.f k t713 a0).bind fun t716 => (some (mx t716 0, decide (t716 ≥ 0))))) = some (r1, r2) := h
 clear h
 replace H := Option.bind_eq_some_iff.mp H
 obtain ⟨t713, A60, H⟩ := H
 replace H : ((slices_Index_int.f k t713 a0).bind fun t716 => (some (mx t716 0, decide (t716 ≥ 0)))) = some (r1, r2) := H
 have A6 := Aside0.mk A60
 clear A60
 replace H := Option.bind_eq_some_iff.mp H
 obtain ⟨t716, A70, H⟩ := H
 replace H : (some (mx t716 0, decide (t716 ≥ 0))) = some (r1, r2) := H
 have A7 := Aside0.mk A70
 clear A70
 obtain ⟨ji8, hji8⟩ : ∃ j_ : Int, (mx t716 0) = j_ := ⟨_, rfl⟩
 replace H : (some (ji8, decide (t716 ≥ 0))) = some (r1, r2) := by first | (rw [hji8] at H; exact H) | (simp only [hji8] at H ⊢; exact H)
 (try rw [hji8] at A6)
 (try rw [hji8] at A7)
 (try (have hji8l : 0 ≤ ji8 := by (rw [← hji8]; unfold mx; (repeat' split) <;> omega)))
 (try (have hji8m : 0 ≤ ji8 := by omega))
 have hji8_ : (if t716 < 0 then 0 else t716) = ji8 := hji8
 simp only [Option.some.injEq, Prod.mk.injEq] at H
 obtain ⟨rfl, rfl⟩ := H
 go_enter Try.func34, Try.ntmps34
 go_wp2_with (first | ((with_reducible refine gate_callee (f := 37) rfl ?_); refine goesL_ (some 18) rfl rfl Try.func37 (by kernel_rfl) rfl #[.int .i64 a0, .int .i64 a1, .slice A2 l2.length c2, .slice A3 l3.length c3, .slice A4 l4.length c4] rfl mt ?_; (with_reducible refine (cons_Plan.calls k a0 a1 _ _ l2 _ _ l3 _ _ l4 t713 _ ?side1 ?side2 ?side3 ?side4 ?side5 ?side6 A6.out).mono ?_); (case side1 => exact mC HR2.out); (case side2 => exact HC2.out); (case side3 => exact mC HR3.out); (case side4 => exact HC3.out); (case side5 => exact mC HR4.out); (case side6 => exact HC4.out); rintro e w9 ⟨v714, rfl, ho0, hb⟩; refine ⟨_, rfl, ?_⟩; have n0_ := Aside0.mk (Kd.V_lower (Kd.V_mono (ok' := fun k_ => True) ho0 (fun k_ hk_ => trivial)) (below_size (mB HB.out))); have n1_ := Aside0.mk (below_step (mB HB.out) hb); clear HB; have HO715 := n0_; have HB := n1_; clear n0_ n1_; (try clear hb); (try clear hb2); (try clear hk); (try clear hi); (try clear ho0); obtain ⟨Ao10, co10, eo10⟩ := Kd.V_slice HO715.out; subst eo10) | ((with_reducible refine gate_callee (f := 53) rfl ?_); refine goesL_ (some 20) rfl rfl Try.func53 (by kernel_rfl) rfl #[.slice Ao10 t713.length co10, .int .i64 a0] rfl mt ?_; (with_reducible refine (slices_Index_int.calls k _ _ t713 a0 t716 _ ?side1 ?side2 A7.out).mono ?_); (case side1 => exact mC (Kd.V_reads' HO715.out).2.2); (case side2 => exact (Kd.V_reads' HO715.out).2.1); rintro e w' ⟨rfl, ⟨nd, rfl⟩⟩; refine ⟨_, rfl, ?_⟩))
 go_ret2
 exact ⟨by first | rfl | (simp [errW_none, errW_some] <;> rfl) | (simp only [← hji8]; first | rfl | (simp [errW_none, errW_some] <;> rfl)) | (simp [*, errW_none, errW_some] <;> rfl), by repeat (first | (with_reducible first | exact HB.out | apply below_alloc | apply pw_below_drewN | apply below_drew1) | exact HB.out)⟩

end Go.Proofs.Ytedpoahndddgfaa.PAll
end
section
namespace Go.Proofs.Ytedpoahndddgfaa.PAll
open Go.RowKit Go.Proofs.YtedpoahndddgfaaW.PrintWords Go.Proofs.YtedpoahndddgfaaW.PrintLast Go.Proofs.YtedpoahndddgfaaW.PrintMore
attribute [local go_sem] max2_int min2_int max_two min_two max_three min_three max_four min_four   -- for this text's walks alone
set_option linter.unusedVariables false
set_option linter.unusedSimpArgs false

/-! ### prebendref01_Ints: function 36 -/
def prebendref01_Ints.l0 : Nat → List Int → List Int → Int → Option (Bool)
 | 0, _, _, _ => none
 | k + 1, x0, x1, x5 => if x5 < (x0.length : Int) then (if 0 ≤ x5 then (if x5 < (x1.length : Int) then (if (rd x0 x5) = (rd x1 x5) then (prebendref01_Ints.l0 k x0 x1 (wrap64 (x5 + 1))) else (some false)) else (none)) else (none)) else (some true)
def prebendref01_Ints.f (k : Nat) (l0 : List Int) (l1 : List Int) : Option (Bool) := if (l0.length : Int) = (l1.length : Int) then (prebendref01_Ints.l0 k l0 l1 0) else (some false)
theorem prebendref01_Ints.mono_l : ∀ k, (∀ y0 y1 y2, LeO (prebendref01_Ints.l0 k y0 y1 y2) (prebendref01_Ints.l0 (k + 1) y0 y1 y2))
 | 0 => fun _ _ _ r h => by simp [prebendref01_Ints.l0] at h
 | k + 1 => by
  have ih0 := prebendref01_Ints.mono_l k
  ·intro y0 y1 y2
   unfold prebendref01_Ints.l0
   repeat' first
   | (with_reducible exact ih0 _ _ _)
   | (with_reducible exact LeO.refl _)
   | (with_reducible exact LeO.none _)
   | (with_reducible refine LeO.ite ?_ ?_)
   | (with_reducible refine LeO.bind ?_ (fun _ => ?_))
   | exact ih0 _ _ _
   | exact LeO.none _
   | refine LeO.ite ?_ ?_
   | refine LeO.bind ?_ (fun _ => ?_)
theorem prebendref01_Ints.mono : ∀ a0 a1 k, LeO (prebendref01_Ints.f k a0 a1) (prebendref01_Ints.f (k + 1) a0 a1) := by
 intro a0 a1 k
 have ih0 := prebendref01_Ints.mono_l k
 unfold prebendref01_Ints.f
 repeat' first
   | (with_reducible exact ih0 _ _ _)
   | (with_reducible exact LeO.refl _)
   | (with_reducible exact LeO.none _)
   | (with_reducible refine LeO.ite ?_ ?_)
   | (with_reducible refine LeO.bind ?_ (fun _ => ?_))
   | exact ih0 _ _ _
   | exact LeO.none _
   | refine LeO.ite ?_ ?_
   | refine LeO.bind ?_ (fun _ => ?_)
set_option maxHeartbeats 8000000 in
set_option maxRecDepth 100000 in
theorem prebendref01_Ints.calls (k : Nat) (A0 : Option Addr) (c0 : Nat) (l0 : List Int) (A1 : Option Addr) (c1 : Nat) (l1 : List Int) (r : Bool) (w : World) (hr0 : Kd.C (Kd.int .i64) w A0 l0.length l0) (hc0 : l0.length ≤ c0) (hr1 : Kd.C (Kd.int .i64) w A1 l1.length l1) (hc1 : l1.length ≤ c1) (h : prebendref01_Ints.f k l0 l1 = some r) :
  Calls Try.prog 36 #[.slice A0 l0.length c0, .slice A1 l1.length c1] w fun e w' => e = .returned (.bool r) ∧ Drawn0 w w' := by
 have HR0 := Aside0.mk hr0
 have HC0 := Aside0.mk hc0
 clear hr0; clear hc0
 have HR1 := Aside0.mk hr1
 have HC1 := Aside0.mk hc1
 clear hr1; clear hc1
 have H : (if (l0.length : Int) = (l1.length : Int) then (prebendref01_Ints.l0 k l0 l1 0) else (some false)) = some r := h
 clear h
 by_cases c3 : (l0.length : Int) = (l1.length : Int)
 ·rw [if_pos c3] at H
  have c3b0 : ((l0.length : Int) == (l1.length : Int)) = true := beq_iff_eq.mpr c3
  have c3b1 : ((l0.length : Int) != (l1.length : Int)) = false := bne_eq_false_iff_eq.mpr c3
  have c3b2 : (l0.length == l1.length) = true := by first | simpa using c3 | (simp at c3 ⊢; omega)
  clear c3
  have H' := Aside0.mk H
  clear H
  go_enter Try.func36, Try.ntmps36
  go_wp2
  repeat (go_quiet (fail); try go_wp2)
  go_loopg [5] k (fun kq v5 w' => ∃ (x5_1 : Int), v5 = .int .i64 x5_1 ∧ Aside0 (prebendref01_Ints.l0 kq l0 l1 x5_1 = some r) ∧ Aside0 (kq ≤ k) ∧ Drawn0 w w')
  case atStart => exact ⟨(0), ez, H', ⟨Nat.le_refl _⟩, by repeat (first | exact Drawn0.refl _ | apply Drawn0.step)⟩
  case round =>
   clear H'
   (try clear c1); (try clear p2); (try clear c3); (try clear c3b0); (try clear c3b1); (try clear c3b2)
   obtain ⟨x5_1, rfl, HA, HK1, ⟨m1, rfl⟩⟩ := hrel
   cases gk with
   | zero => exact absurd HA.out (by simp [prebendref01_Ints.l0])
   | succ k1 =>
    have H := HA.out
    clear HA
    simp only [prebendref01_Ints.l0] at H
    by_cases c4 : x5_1 < (l0.length : Int)
    ·rw [if_pos c4] at H
     have c4b0 : decide (x5_1 < (l0.length : Int)) = true := decide_eq_true c4
     clear c4
     by_cases c5 : 0 ≤ x5_1
     ·rw [if_pos c5] at H
      have c5b0 : decide (0 ≤ x5_1) = true := decide_eq_true c5
      clear c5
      by_cases c6 : x5_1 < (l1.length : Int)
      ·rw [if_pos c6] at H
       have c6b0 : decide (x5_1 < (l1.length : Int)) = true := decide_eq_true c6
       clear c6
       by_cases c7 : (rd l0 x5_1) = (rd l1 x5_1)
       ·rw [if_pos c7] at H
        have c7b0 : ((rd l0 x5_1) == (rd l1 x5_1)) = true := beq_iff_eq.mpr c7
        have c7b1 : ((rd l0 x5_1) != (rd l1 x5_1)) = false := bne_eq_false_iff_eq.mpr c7
        clear c7
        have H' := Aside0.mk H
        clear H
        have p717 : 0 ≤ (x5_1 : Int) := oda
        have q717 : x5_1 < (l0.length : Int) := oda
        obtain ⟨ad717, e717, hx717_0⟩ := Kd.at_int HR0.out x5_1 p717 q717
        cases e717
        replace p717 := eq_true p717
        replace q717 := eq_true q717
        have p718 : 0 ≤ (x5_1 : Int) := oda
        have q718 : x5_1 < (l1.length : Int) := oda
        obtain ⟨ad718, e718, hx718_0⟩ := Kd.at_int HR1.out x5_1 p718 q718
        cases e718
        replace p718 := eq_true p718
        replace q718 := eq_true q718
        go_wp2
        repeat (go_quiet (fail); try go_wp2)
        go_roundg k1
        case measure => have := HK1.out; omega
        case rel => exact ⟨(wrap64 (x5_1 + 1)), ez, H', ⟨by have := HK1.out; omega⟩, by repeat (first | exact Drawn0.refl _ | apply Drawn0.step)⟩
       ·rw [if_neg c7] at H
        have c7b0 : ((rd l0 x5_1) == (rd l1 x5_1)) = false := beq_eq_false_iff_ne.mpr c7
        have c7b1 : ((rd l0 x5_1) != (rd l1 x5_1)) = true := bne_iff_ne.mpr c7
        obtain rfl := Option.some.inj H
        have p717 : 0 ≤ (x5_1 : Int) := oda
        have q717 : x5_1 < (l0.length : Int) := oda
        obtain ⟨ad717, e717, hx717_0⟩ := Kd.at_int HR0.out x5_1 p717 q717
        cases e717
        replace p717 := eq_true p717
        replace q717 := eq_true q717
        have p718 : 0 ≤ (x5_1 : Int) := oda
        have q718 : x5_1 < (l1.length : Int) := oda
        obtain ⟨ad718, e718, hx718_0⟩ := Kd.at_int HR1.out x5_1 p718 q718
        cases e718
        replace p718 := eq_true p718
        replace q718 := eq_true q718
        go_wp2
        repeat (go_quiet (fail); try go_wp2)
        go_ret
        exact ⟨by first | rfl | (simp; done) | (simp [*]; done), by repeat (first | exact Drawn0.refl _ | apply Drawn0.step)⟩
      ·rw [if_neg c6] at H
       exact absurd H (by simp)
     ·rw [if_neg c5] at H
      exact absurd H (by simp)
    ·rw [if_neg c4] at H
     have c4b0 : decide (x5_1 < (l0.length : Int)) = false := decide_eq_false c4
     clear c4
     obtain rfl := Option.some.inj H
     go_wp2
     repeat (go_quiet (fail); try go_wp2)
     go_ret
     exact ⟨by first | rfl | (simp; done) | (simp [*]; done), by repeat (first | exact Drawn0.refl _ | apply Drawn0.step)⟩
 ·rw [if_neg c3] at H
  have c3b0 : ((l0.length : Int) == (l1.length : Int)) = false := beq_eq_false_iff_ne.mpr c3
  have c3b1 : ((l0.length : Int) != (l1.length : Int)) = true := bne_iff_ne.mpr c3
  have c3b2 : (l0.length == l1.length) = false := by first | simpa using c3 | (simp at c3 ⊢; omega)
  obtain rfl := Option.some.inj H
  go_enter Try.func36, Try.ntmps36
  go_wp2
  repeat (go_quiet (fail); try go_wp2)
  go_ret
  exact ⟨by first | rfl | (simp; done) | (simp [*]; done), by repeat (first | exact Drawn0.refl _ | apply Drawn0.step)⟩

end Go.Proofs.Ytedpoahndddgfaa.PAll
end
section
namespace Go.Proofs.Ytedpoahndddgfaa.PAll
open Go.RowKit Go.Proofs.YtedpoahndddgfaaW.PrintWords Go.Proofs.YtedpoahndddgfaaW.PrintLast Go.Proofs.YtedpoahndddgfaaW.PrintMore
attribute [local go_sem] max2_int min2_int max_two min_two max_three min_three max_four min_four   -- for this text's walks alone
set_option linter.unusedVariables false
set_option linter.unusedSimpArgs false

/-! ### prebendlaw18_awake: function 35 -/
def prebendlaw18_awake.f (k : Nat)  : Option (Bool) := (some (([(⟨5, 3⟩ : S38)] : List (S38)) : List (S38))).bind fun y719 => ((some (([(⟨2, 9⟩ : S52), (⟨1, 5⟩ : S52), (⟨1, 9⟩ : S52)] : List (S52)) : List (S52))).bind fun y722 => ((cons_Next.f k 0 4 y719 y722 ([] : List Bool)).bind fun bt725 => ((cons_Plan.f k 0 4 y719 y722 ([] : List Bool)).bind fun t727 => ((prebendref01_Ints.f k t727 (([5, 0, 5] : List Int))).bind fun t733 => (if t733 = true then (if bt725.1 = 1 then (some bt725.2) else (some false)) else (some false))))))
theorem prebendlaw18_awake.mono : ∀ k, LeO (prebendlaw18_awake.f k ) (prebendlaw18_awake.f (k + 1) ) := by
 intro  k
 unfold prebendlaw18_awake.f
 repeat' first
   | (with_reducible exact cons_Next.mono _ _ _ _ _ _)
   | (with_reducible exact cons_Plan.mono _ _ _ _ _ _)
   | (with_reducible exact prebendref01_Ints.mono _ _ _)
   | (with_reducible exact LeO.refl _)
   | (with_reducible exact LeO.none _)
   | (with_reducible refine LeO.ite ?_ ?_)
   | (with_reducible refine LeO.bind ?_ (fun _ => ?_))
   | exact cons_Next.mono _ _ _ _ _ _
   | exact cons_Plan.mono _ _ _ _ _ _
   | exact prebendref01_Ints.mono _ _ _
   | exact LeO.none _
   | refine LeO.ite ?_ ?_
   | refine LeO.bind ?_ (fun _ => ?_)
set_option maxHeartbeats 8000000 in
set_option maxRecDepth 100000 in
theorem prebendlaw18_awake.calls (k : Nat)  (r : Bool) (w : World) (h : prebendlaw18_awake.f k  = some r) :
  Calls Try.prog 35 #[] w fun e w' => e = .returned (.bool r) ∧ Below w.heap.size w w' := by
 have hu38 := Try.underlying38
 have hu52 := Try.underlying52
 have HB := Aside0.mk (Below.refl w.heap.size w)
 have H : ((some (([(⟨5, 3⟩ : S38)] : List (S38)) : List (S38))).bind fun y719 => ((some (([(⟨2, 9⟩ : S52), (⟨1, 5⟩ : S52), (⟨1, 9⟩ : S52)] : List (S52)) : List (S52))).bind fun y722 => ((cons_Next.f k 0 4 y719 y722 ([] : List Bool)).bind fun bt725 => ((cons_Plan.f k 0 4 y719 y722 ([] : List Bool)).bind fun t727 => ((prebendref01_Ints.f k t727 (([5, 0, 5] : List Int))).bind fun t733 => (if t733 = true then (if bt725.1 = 1 then (some bt725.2) else (some false)) else (some false))))))) = some r := h
 clear h
 obtain ⟨y719, hy719⟩ : ∃ y_ : List (S38), y_ = (([(⟨5, 3⟩ : S38)] : List (S38))) := ⟨_, rfl⟩
 replace H : ((some (([(⟨2, 9⟩ : S52), (⟨1, 5⟩ : S52), (⟨1, 9⟩ : S52)] : List (S52)) : List (S52))).bind fun y722 => ((cons_Next.f k 0 4 y719 y722 ([] : List Bool)).bind fun bt725 => ((cons_Plan.f k 0 4 y719 y722 ([] : List Bool)).bind fun t727 => ((prebendref01_Ints.f k t727 (([5, 0, 5] : List Int))).bind fun t733 => (if t733 = true then (if bt725.1 = 1 then (some bt725.2) else (some false)) else (some false)))))) = some r := mH hy719 H
 have Ny719 := Aside0.mk hy719
 clear hy719
 obtain ⟨y722, hy722⟩ : ∃ y_ : List (S52), y_ = (([(⟨2, 9⟩ : S52), (⟨1, 5⟩ : S52), (⟨1, 9⟩ : S52)] : List (S52))) := ⟨_, rfl⟩
 replace H : ((cons_Next.f k 0 4 y719 y722 ([] : List Bool)).bind fun bt725 => ((cons_Plan.f k 0 4 y719 y722 ([] : List Bool)).bind fun t727 => ((prebendref01_Ints.f k t727 (([5, 0, 5] : List Int))).bind fun t733 => (if t733 = true then (if bt725.1 = 1 then (some bt725.2) else (some false)) else (some false))))) = some r := mH hy722 H
 have Ny722 := Aside0.mk hy722
 clear hy722
 replace H := Option.bind_eq_some_iff.mp H
 obtain ⟨⟨t725, t726⟩, A10, H⟩ := H
 replace H : ((cons_Plan.f k 0 4 y719 y722 ([] : List Bool)).bind fun t727 => ((prebendref01_Ints.f k t727 (([5, 0, 5] : List Int))).bind fun t733 => (if t733 = true then (if t725 = 1 then (some t726) else (some false)) else (some false)))) = some r := H
 have A1 := Aside0.mk A10
 clear A10
 replace H := Option.bind_eq_some_iff.mp H
 obtain ⟨t727, A20, H⟩ := H
 replace H : ((prebendref01_Ints.f k t727 (([5, 0, 5] : List Int))).bind fun t733 => (if t733 = true then (if t725 = 1 then (some t726) else (some false)) else (some false))) = some r := H
 have A2 := Aside0.mk A20
 clear A20
 obtain ⟨y730, hy730⟩ : ∃ y_ : List Int, y_ = (([5, 0, 5] : List Int)) := ⟨_, rfl⟩
 replace H : ((prebendref01_Ints.f k t727 y730).bind fun t733 => (if t733 = true then (if t725 = 1 then (some t726) else (some false)) else (some false))) = some r := mH hy730 H
 have Ny730 := Aside0.mk hy730
 clear hy730
 replace H := Option.bind_eq_some_iff.mp H
 obtain ⟨t733, A30, H⟩ := H
 replace H : (if t733 = true then (if t725 = 1 then (some t726) else (some false)) else (some false)) = some r := H
 have A3 := Aside0.mk A30
 clear A30
 by_cases c4 : t733 = true
 ·subst c4
  have H1 : (if t725 = 1 then (some t726) else (some false)) = some r := by rw [if_pos rfl] at H; exact H
  clear H
  have H := H1
  clear H1
  by_cases c5 : t725 = 1
  ·rw [if_pos c5] at H
   have c5b0 : (t725 == 1) = true := beq_iff_eq.mpr c5
   have c5b1 : (t725 != 1) = false := bne_eq_false_iff_eq.mpr c5
   clear c5
   obtain rfl := Option.some.inj H
   go_enter Try.func35, Try.ntmps35
   go_wp2_with (first | ((with_reducible refine gate_dst (N := 6) rfl ?_); refine Kd.R_lit k38 _ 38 ?hg (N := 6) ?hd (xs := ([(⟨5, 3⟩ : S38)] : List (S38))) (inner := [.int .i64 5, .int .i64 3]) (ok := fun _ => True) (okp := fun _ => True) ?hr ?hp (fun _ hk => hk) trivial (Below.refl _ _) (Nat.le_refl _) (by simp) ?_; (case hd => rfl); (case hg => rfl); (case hr => first | (go_simp; done) | (go_simp; rfl)); (case hp => exact (Reps.c2 (show Kd.M k38 _ _ _ (⟨5, 3⟩ : S38) [.int .i64 5, .int .i64 3] from (k38_mkM _ _ _ (⟨5, 3⟩ : S38) )) (Reps.none _ _))); intro v720 w6 ho7 hb hg_ hnew_; clear hg_ hnew_; (first | rw [← Ny719.out] at ho7 | (simp only [Int.reduceToNat] at ho7; rw [← Ny719.out] at ho7)); have n0_ := Aside0.mk (Kd.R_lower ho7 (below_size (mB HB.out))); have n1_ := Aside0.mk (below_step (mB HB.out) hb); clear HB; have HO721 := n0_; have HB := n1_; clear n0_ n1_; clear hb ho7) | ((with_reducible refine gate_dst (N := 10) rfl ?_); refine Kd.R_lit k52 _ 52 ?hg (N := 10) ?hd (xs := ([(⟨2, 9⟩ : S52), (⟨1, 5⟩ : S52), (⟨1, 9⟩ : S52)] : List (S52))) (inner := [.int .i64 2, .int .i64 9, .int .i64 1, .int .i64 5, .int .i64 1, .int .i64 9]) (ok := fun _ => True) (okp := fun _ => True) ?hr ?hp (fun _ hk => hk) trivial (Below.refl _ _) (Nat.le_refl _) (by simp) ?_; (case hd => rfl); (case hg => rfl); (case hr => first | (go_simp; done) | (go_simp; rfl)); (case hp => exact (Reps.c2 (show Kd.M k52 _ _ _ (⟨2, 9⟩ : S52) [.int .i64 2, .int .i64 9] from (k52_mkM _ _ _ (⟨2, 9⟩ : S52) )) (Reps.c2 (show Kd.M k52 _ _ _ (⟨1, 5⟩ : S52) [.int .i64 1, .int .i64 5] from (k52_mkM _ _ _ (⟨1, 5⟩ : S52) )) (Reps.c2 (show Kd.M k52 _ _ _ (⟨1, 9⟩ : S52) [.int .i64 1, .int .i64 9] from (k52_mkM _ _ _ (⟨1, 9⟩ : S52) )) (Reps.none _ _))))); intro v723 w8 ho9 hb hg_ hnew_; clear hg_ hnew_; (first | rw [← Ny722.out] at ho9 | (simp only [Int.reduceToNat] at ho9; rw [← Ny722.out] at ho9)); have n0_ := Aside0.mk (Kd.R_below (mR HO721.out) hb); have n1_ := Aside0.mk (Kd.R_lower ho9 (below_size (mB HB.out))); have n2_ := Aside0.mk (below_step (mB HB.out) hb); clear HO721; clear HB; have HO721 := n0_; have HO724 := n1_; have HB := n2_; clear n0_ n1_ n2_; clear hb ho9; obtain ⟨Ao10, co10, eo10⟩ := Kd.R_slice HO721.out; subst eo10; obtain ⟨Ao11, co11, eo11⟩ := Kd.R_slice HO724.out; subst eo11) | ((with_reducible refine gate_callee (f := 34) rfl ?_); refine goesL_ (some 14) rfl rfl Try.func34 (by kernel_rfl) rfl #[.int .i64 0, .int .i64 4, .slice Ao10 y719.length co10, .slice Ao11 y722.length co11, .slice none 0 0] rfl mt ?_; (refine (cons_Next.calls k 0 4 _ _ y719 _ _ y722 _ _ ([] : List Bool) t725 t726 _ ?side1 ?side2 ?side3 ?side4 ?side5 ?side6 A1.out).mono ?_); (case side1 => exact mC (Kd.R_reads' HO721.out).2.2); (case side2 => exact (Kd.R_reads' HO721.out).2.1); (case side3 => exact mC (Kd.R_reads' HO724.out).2.2); (case side4 => exact (Kd.R_reads' HO724.out).2.1); (case side5 => exact Kd.C_nil _ _); (case side6 => exact Nat.le_refl _); rintro e w12 ⟨rfl, hb⟩; refine ⟨_, rfl, ?_⟩; have n0_ := Aside0.mk (Kd.R_below (mR HO721.out) hb); have n1_ := Aside0.mk (Kd.R_below (mR HO724.out) hb); have n2_ := Aside0.mk (below_step (mB HB.out) hb); clear HO721; clear HO724; clear HB; have HO721 := n0_; have HO724 := n1_; have HB := n2_; clear n0_ n1_ n2_; (try clear hb); (try clear hb2); (try clear hk); (try clear hi)) | ((with_reducible refine gate_callee (f := 37) rfl ?_); refine goesL_ (some 19) rfl rfl Try.func37 (by kernel_rfl) rfl #[.int .i64 0, .int .i64 4, .slice Ao10 y719.length co10, .slice Ao11 y722.length co11, .slice none 0 0] rfl mt ?_; (refine (cons_Plan.calls k 0 4 _ _ y719 _ _ y722 _ _ ([] : List Bool) t727 _ ?side1 ?side2 ?side3 ?side4 ?side5 ?side6 A2.out).mono ?_); (case side1 => exact mC (Kd.R_reads' HO721.out).2.2); (case side2 => exact (Kd.R_reads' HO721.out).2.1); (case side3 => exact mC (Kd.R_reads' HO724.out).2.2); (case side4 => exact (Kd.R_reads' HO724.out).2.1); (case side5 => exact Kd.C_nil _ _); (case side6 => exact Nat.le_refl _); rintro e w13 ⟨v728, rfl, ho0, hb⟩; refine ⟨_, rfl, ?_⟩; have n0_ := Aside0.mk (Kd.R_below (mR HO721.out) hb); have n1_ := Aside0.mk (Kd.R_below (mR HO724.out) hb); have n2_ := Aside0.mk (Kd.V_lower (Kd.V_mono (ok' := fun k_ => some k_ ≠ (.slice Ao10 y719.length co10 : Value).ownBlock ∧ some k_ ≠ (.slice Ao11 y722.length co11 : Value).ownBlock) ho0 (fun k_ hk_ => ⟨(Kd.fresh' (Kd.R_lt (mR HO721.out)) k_ hk_), (Kd.fresh' (Kd.R_lt (mR HO724.out)) k_ hk_)⟩)) (below_size (mB HB.out))); have n3_ := Aside0.mk (below_step (mB HB.out) hb); clear HO721; clear HO724; clear HB; have HO721 := n0_; have HO724 := n1_; have HO729 := n2_; have HB := n3_; clear n0_ n1_ n2_ n3_; (try clear hb); (try clear hb2); (try clear hk); (try clear hi); (try clear ho0)) | ((with_reducible refine gate_dst (N := 20) rfl ?_); refine Kd.R_lit (Kd.int .i64) _ 3 ?hg (N := 20) ?hd (xs := ([5, 0, 5] : List Int)) (inner := [.int .i64 5, .int .i64 0, .int .i64 5]) (ok := fun _ => True) (okp := fun _ => True) ?hr ?hp (fun _ hk => hk) trivial (Below.refl _ _) (Nat.le_refl _) (by simp) ?_; (case hd => rfl); (case hg => rfl); (case hr => first | (go_simp; done) | (go_simp; rfl)); (case hp => exact (Reps.one (show Kd.M (Kd.int .i64) _ _ _ 5 [.int .i64 5] from rfl) (Reps.one (show Kd.M (Kd.int .i64) _ _ _ 0 [.int .i64 0] from rfl) (Reps.one (show Kd.M (Kd.int .i64) _ _ _ 5 [.int .i64 5] from rfl) (Reps.none _ _))))); intro v731 w14 ho15 hb hg_ hnew_; clear hg_ hnew_; (first | rw [← Ny730.out] at ho15 | (simp only [Int.reduceToNat] at ho15; rw [← Ny730.out] at ho15)); have n0_ := Aside0.mk (Kd.R_below (mR HO721.out) hb); have n1_ := Aside0.mk (Kd.R_below (mR HO724.out) hb); have n2_ := Aside0.mk (Kd.V_elder' (mV HO729.out) (Kd.R_base ho15) hb); have n3_ := Aside0.mk (Kd.R_lower ho15 (below_size (mB HB.out))); have n4_ := Aside0.mk (below_step (mB HB.out) hb); clear HO721; clear HO724; clear HO729; clear HB; have HO721 := n0_; have HO724 := n1_; have HO729 := n2_; have HO732 := n3_; have HB := n4_; clear n0_ n1_ n2_ n3_ n4_; clear hb ho15; obtain ⟨Ao16, co16, eo16⟩ := Kd.V_slice HO729.out; subst eo16; obtain ⟨Ao17, co17, eo17⟩ := Kd.R_slice HO732.out; subst eo17) | ((with_reducible refine gate_callee (f := 36) rfl ?_); refine goesL_ (some 21) rfl rfl Try.func36 (by kernel_rfl) rfl #[.slice Ao16 t727.length co16, .slice Ao17 y730.length co17] rfl mt ?_; (with_reducible refine (prebendref01_Ints.calls k _ _ t727 _ _ y730 true _ ?side1 ?side2 ?side3 ?side4 A3.out).mono ?_); (case side1 => exact mC (Kd.V_reads' HO729.out).2.2); (case side2 => exact (Kd.V_reads' HO729.out).2.1); (case side3 => exact mC (Kd.R_reads' HO732.out).2.2); (case side4 => exact (Kd.R_reads' HO732.out).2.1); rintro e w' ⟨rfl, ⟨nd, rfl⟩⟩; refine ⟨_, rfl, ?_⟩))
   go_ret
   exact ⟨by first | rfl | (simp [errW_none, errW_some] <;> rfl) | (simp [*, errW_none, errW_some] <;> rfl), by repeat (first | (with_reducible first | exact HB.out | apply below_alloc | apply pw_below_drewN | apply below_drew1) | exact HB.out)⟩
  ·rw [if_neg c5] at H
   have c5b0 : (t725 == 1) = false := beq_eq_false_iff_ne.mpr c5
   have c5b1 : (t725 != 1) = true := bne_iff_ne.mpr c5
   obtain rfl := Option.some.inj H
   go_enter Try.func35, Try.ntmps35
   go_wp2_with (first | ((with_reducible refine gate_dst (N := 6) rfl ?_); refine Kd.R_lit k38 _ 38 ?hg (N := 6) ?hd (xs := ([(⟨5, 3⟩ : S38)] : List (S38))) (inner := [.int .i64 5, .int .i64 3]) (ok := fun _ => True) (okp := fun _ => True) ?hr ?hp (fun _ hk => hk) trivial (Below.refl _ _) (Nat.le_refl _) (by simp) ?_; (case hd => rfl); (case hg => rfl); (case hr => first | (go_simp; done) | (go_simp; rfl)); (case hp => exact (Reps.c2 (show Kd.M k38 _ _ _ (⟨5, 3⟩ : S38) [.int .i64 5, .int .i64 3] from (k38_mkM _ _ _ (⟨5, 3⟩ : S38) )) (Reps.none _ _))); intro v720 w18 ho19 hb hg_ hnew_; clear hg_ hnew_; (first | rw [← Ny719.out] at ho19 | (simp only [Int.reduceToNat] at ho19; rw [← Ny719.out] at ho19)); have n0_ := Aside0.mk (Kd.R_lower ho19 (below_size (mB HB.out))); have n1_ := Aside0.mk (below_step (mB HB.out) hb); clear HB; have HO721 := n0_; have HB := n1_; clear n0_ n1_; clear hb ho19) | ((with_reducible refine gate_dst (N := 10) rfl ?_); refine Kd.R_lit k52 _ 52 ?hg (N := 10) ?hd (xs := ([(⟨2, 9⟩ : S52), (⟨1, 5⟩ : S52), (⟨1, 9⟩ : S52)] : List (S52))) (inner := [.int .i64 2, .int .i64 9, .int .i64 1, .int .i64 5, .int .i64 1, .int .i64 9]) (ok := fun _ => True) (okp := fun _ => True) ?hr ?hp (fun _ hk => hk) trivial (Below.refl _ _) (Nat.le_refl _) (by simp) ?_; (case hd => rfl); (case hg => rfl); (case hr => first | (go_simp; done) | (go_simp; rfl)); (case hp => exact (Reps.c2 (show Kd.M k52 _ _ _ (⟨2, 9⟩ : S52) [.int .i64 2, .int .i64 9] from (k52_mkM _ _ _ (⟨2, 9⟩ : S52) )) (Reps.c2 (show Kd.M k52 _ _ _ (⟨1, 5⟩ : S52) [.int .i64 1, .int .i64 5] from (k52_mkM _ _ _ (⟨1, 5⟩ : S52) )) (Reps.c2 (show Kd.M k52 _ _ _ (⟨1, 9⟩ : S52) [.int .i64 1, .int .i64 9] from (k52_mkM _ _ _ (⟨1, 9⟩ : S52) )) (Reps.none _ _))))); intro v723 w20 ho21 hb hg_ hnew_; clear hg_ hnew_; (first | rw [← Ny722.out] at ho21 | (simp only [Int.reduceToNat] at ho21; rw [← Ny722.out] at ho21)); have n0_ := Aside0.mk (Kd.R_below (mR HO721.out) hb); have n1_ := Aside0.mk (Kd.R_lower ho21 (below_size (mB HB.out))); have n2_ := Aside0.mk (below_step (mB HB.out) hb); clear HO721; clear HB; have HO721 := n0_; have HO724 := n1_; have HB := n2_; clear n0_ n1_ n2_; clear hb ho21; obtain ⟨Ao22, co22, eo22⟩ := Kd.R_slice HO721.out; subst eo22; obtain ⟨Ao23, co23, eo23⟩ := Kd.R_slice HO724.out; subst eo23) | ((with_reducible refine gate_callee (f := 34) rfl ?_); refine goesL_ (some 14) rfl rfl Try.func34 (by kernel_rfl) rfl #[.int .i64 0, .int .i64 4, .slice Ao22 y719.length co22, .slice Ao23 y722.length co23, .slice none 0 0] rfl mt ?_; (refine (cons_Next.calls k 0 4 _ _ y719 _ _ y722 _ _ ([] : List Bool) t725 t726 _ ?side1 ?side2 ?side3 ?side4 ?side5 ?side6 A1.out).mono ?_); (case side1 => exact mC (Kd.R_reads' HO721.out).2.2); (case side2 => exact (Kd.R_reads' HO721.out).2.1); (case side3 => exact mC (Kd.R_reads' HO724.out).2.2); (case side4 => exact (Kd.R_reads' HO724.out).2.1); (case side5 => exact Kd.C_nil _ _); (case side6 => exact Nat.le_refl _); rintro e w24 ⟨rfl, hb⟩; refine ⟨_, rfl, ?_⟩; have n0_ := Aside0.mk (Kd.R_below (mR HO721.out) hb); have n1_ := Aside0.mk (Kd.R_below (mR HO724.out) hb); have n2_ := Aside0.mk (below_step (mB HB.out) hb); clear HO721; clear HO724; clear HB; have HO721 := n0_; have HO724 := n1_; have HB := n2_; clear n0_ n1_ n2_; (try clear hb); (try clear hb2); (try clear hk); (try clear hi)) | ((with_reducible refine gate_callee (f := 37) rfl ?_); refine goesL_ (some 19) rfl rfl Try.func37 (by kernel_rfl) rfl #[.int .i64 0, .int .i64 4, .slice Ao22 y719.length co22, .slice Ao23 y722.length co23, .slice none 0 0] rfl mt ?_; (refine (cons_Plan.calls k 0 4 _ _ y719 _ _ y722 _ _ ([] : List Bool) t727 _ ?side1 ?side2 ?side3 ?side4 ?side5 ?side6 A2.out).mono ?_); (case side1 => exact mC (Kd.R_reads' HO721.out).2.2); (case side2 => exact (Kd.R_reads' HO721.out).2.1); (case side3 => exact mC (Kd.R_reads' HO724.out).2.2); (case side4 => exact (Kd.R_reads' HO724.out).2.1); (case side5 => exact Kd.C_nil _ _); (case side6 => exact Nat.le_refl _); rintro e w25 ⟨v728, rfl, ho0, hb⟩; refine ⟨_, rfl, ?_⟩; have n0_ := Aside0.mk (Kd.R_below (mR HO721.out) hb); have n1_ := Aside0.mk (Kd.R_below (mR HO724.out) hb); have n2_ := Aside0.mk (Kd.V_lower (Kd.V_mono (ok' := fun k_ => some k_ ≠ (.slice Ao22 y719.length co22 : Value).ownBlock ∧ some k_ ≠ (.slice Ao23 y722.length co23 : Value).ownBlock) ho0 (fun k_ hk_ => ⟨(Kd.fresh' (Kd.R_lt (mR HO721.out)) k_ hk_), (Kd.fresh' (Kd.R_lt (mR HO724.out)) k_ hk_)⟩)) (below_size (mB HB.out))); have n3_ := Aside0.mk (below_step (mB HB.out) hb); clear HO721; clear HO724; clear HB; have HO721 := n0_; have HO724 := n1_; have HO729 := n2_; have HB := n3_; clear n0_ n1_ n2_ n3_; (try clear hb); (try clear hb2); (try clear hk); (try clear hi); (try clear ho0)) | ((with_reducible refine gate_dst (N := 20) rfl ?_); refine Kd.R_lit (Kd.int .i64) _ 3 ?hg (N := 20) ?hd (xs := ([5, 0, 5] : List Int)) (inner := [.int .i64 5, .int .i64 0, .int .i64 5]) (ok := fun _ => True) (okp := fun _ => True) ?hr ?hp (fun _ hk => hk) trivial (Below.refl _ _) (Nat.le_refl _) (by simp) ?_; (case hd => rfl); (case hg => rfl); (case hr => first | (go_simp; done) | (go_simp; rfl)); (case hp => exact (Reps.one (show Kd.M (Kd.int .i64) _ _ _ 5 [.int .i64 5] from rfl) (Reps.one (show Kd.M (Kd.int .i64) _ _ _ 0 [.int .i64 0] from rfl) (Reps.one (show Kd.M (Kd.int .i64) _ _ _ 5 [.int .i64 5] from rfl) (Reps.none _ _))))); intro v731 w26 ho27 hb hg_ hnew_; clear hg_ hnew_; (first | rw [← Ny730.out] at ho27 | (simp only [Int.reduceToNat] at ho27; rw [← Ny730.out] at ho27)); have n0_ := Aside0.mk (Kd.R_below (mR HO721.out) hb); have n1_ := Aside0.mk (Kd.R_below (mR HO724.out) hb); have n2_ := Aside0.mk (Kd.V_elder' (mV HO729.out) (Kd.R_base ho27) hb); have n3_ := Aside0.mk (Kd.R_lower ho27 (below_size (mB HB.out))); have n4_ := Aside0.mk (below_step (mB HB.out) hb); clear HO721; clear HO724; clear HO729; clear HB; have HO721 := n0_; have HO724 := n1_; have HO729 := n2_; have HO732 := n3_; have HB := n4_; clear n0_ n1_ n2_ n3_ n4_; clear hb ho27; obtain ⟨Ao28, co28, eo28⟩ := Kd.V_slice HO729.out; subst eo28; obtain ⟨Ao29, co29, eo29⟩ := Kd.R_slice HO732.out; subst eo29) | ((with_reducible refine gate_callee (f := 36) rfl ?_); refine goesL_ (some 21) rfl rfl Try.func36 (by kernel_rfl) rfl #[.slice Ao28 t727.length co28, .slice Ao29 y730.length co29] rfl mt ?_; (with_reducible refine (prebendref01_Ints.calls k _ _ t727 _ _ y730 true _ ?side1 ?side2 ?side3 ?side4 A3.out).mono ?_); (case side1 => exact mC (Kd.V_reads' HO729.out).2.2); (case side2 => exact (Kd.V_reads' HO729.out).2.1); (case side3 => exact mC (Kd.R_reads' HO732.out).2.2); (case side4 => exact (Kd.R_reads' HO732.out).2.1); rintro e w' ⟨rfl, ⟨nd, rfl⟩⟩; refine ⟨_, rfl, ?_⟩))
   go_ret
   exact ⟨by first | rfl | (simp [errW_none, errW_some] <;> rfl) | (simp [*, errW_none, errW_some] <;> rfl), by repeat (first | (with_reducible first | exact HB.out | apply below_alloc | apply pw_below_drewN | apply below_drew1) | exact HB.out)⟩
 ·replace c4 := Bool.eq_false_iff.mpr c4
  subst c4
  have H1 : (some false) = some r := by rw [if_neg (show ¬ (false = true) by decide)] at H; exact H
  clear H
  have H := H1
  clear H1
  obtain rfl := Option.some.inj H
  go_enter Try.func35, Try.ntmps35
  go_wp2_with (first | ((with_reducible refine gate_dst (N := 6) rfl ?_); refine Kd.R_lit k38 _ 38 ?hg (N := 6) ?hd (xs := ([(⟨5, 3⟩ : S38)] : List (S38))) (inner := [.int .i64 5, .int .i64 3]) (ok := fun _ => True) (okp := fun _ => True) ?hr ?hp (fun _ hk => hk) trivial (Below.refl _ _) (Nat.le_refl _) (by simp) ?_; (case hd => rfl); (case hg => rfl); (case hr => first | (go_simp; done) | (go_simp; rfl)); (case hp => exact (Reps.c2 (show Kd.M k38 _ _ _ (⟨5, 3⟩ : S38) [.int .i64 5, .int .i64 3] from (k38_mkM _ _ _ (⟨5, 3⟩ : S38) )) (Reps.none _ _))); intro v720 w30 ho31 hb hg_ hnew_; clear hg_ hnew_; (first | rw [← Ny719.out] at ho31 | (simp only [Int.reduceToNat] at ho31; rw [← Ny719.out] at ho31)); have n0_ := Aside0.mk (Kd.R_lower ho31 (below_size (mB HB.out))); have n1_ := Aside0.mk (below_step (mB HB.out) hb); clear HB; have HO721 := n0_; have HB := n1_; clear n0_ n1_; clear hb ho31) | ((with_reducible refine gate_dst (N := 10) rfl ?_); refine Kd.R_lit k52 _ 52 ?hg (N := 10) ?hd (xs := ([(⟨2, 9⟩ : S52), (⟨1, 5⟩ : S52), (⟨1, 9⟩ : S52)] : List (S52))) (inner := [.int .i64 2, .int .i64 9, .int .i64 1, .int .i64 5, .int .i64 1, .int .i64 9]) (ok := fun _ => True) (okp := fun _ => True) ?hr ?hp (fun _ hk => hk) trivial (Below.refl _ _) (Nat.le_refl _) (by simp) ?_; (case hd => rfl); (case hg => rfl); (case hr => first | (go_simp; done) | (go_simp; rfl)); (case hp => exact (Reps.c2 (show Kd.M k52 _ _ _ (⟨2, 9⟩ : S52) [.int .i64 2, .int .i64 9] from (k52_mkM _ _ _ (⟨2, 9⟩ : S52) )) (Reps.c2 (show Kd.M k52 _ _ _ (⟨1, 5⟩ : S52) [.int .i64 1, .int .i64 5] from (k52_mkM _ _ _ (⟨1, 5⟩ : S52) )) (Reps.c2 (show Kd.M k52 _ _ _ (⟨1, 9⟩ : S52) [.int .i64 1, .int .i64 9] from (k52_mkM _ _ _ (⟨1, 9⟩ : S52) )) (Reps.none _ _))))); intro v723 w32 ho33 hb hg_ hnew_; clear hg_ hnew_; (first | rw [← Ny722.out] at ho33 | (simp only [Int.reduceToNat] at ho33; rw [← Ny722.out] at ho33)); have n0_ := Aside0.mk (Kd.R_below (mR HO721.out) hb); have n1_ := Aside0.mk (Kd.R_lower ho33 (below_size (mB HB.out))); have n2_ := Aside0.mk (below_step (mB HB.out) hb); clear HO721; clear HB; have HO721 := n0_; have HO724 := n1_; have HB := n2_; clear n0_ n1_ n2_; clear hb ho33; obtain ⟨Ao34, co34, eo34⟩ := Kd.R_slice HO721.out; subst eo34; obtain ⟨Ao35, co35, eo35⟩ := Kd.R_slice HO724.out; subst eo35) | ((with_reducible refine gate_callee (f := 34) rfl ?_); refine goesL_ (some 14) rfl rfl Try.func34 (by kernel_rfl) rfl #[.int .i64 0, .int .i64 4, .slice Ao34 y719.length co34, .slice Ao35 y722.length co35, .slice none 0 0] rfl mt ?_; (refine (cons_Next.calls k 0 4 _ _ y719 _ _ y722 _ _ ([] : List Bool) t725 t726 _ ?side1 ?side2 ?side3 ?side4 ?side5 ?side6 A1.out).mono ?_); (case side1 => exact mC (Kd.R_reads' HO721.out).2.2); (case side2 => exact (Kd.R_reads' HO721.out).2.1); (case side3 => exact mC (Kd.R_reads' HO724.out).2.2); (case side4 => exact (Kd.R_reads' HO724.out).2.1); (case side5 => exact Kd.C_nil _ _); (case side6 => exact Nat.le_refl _); rintro e w36 ⟨rfl, hb⟩; refine ⟨_, rfl, ?_⟩; have n0_ := Aside0.mk (Kd.R_below (mR HO721.out) hb); have n1_ := Aside0.mk (Kd.R_below (mR HO724.out) hb); have n2_ := Aside0.mk (below_step (mB HB.out) hb); clear HO721; clear HO724; clear HB; have HO721 := n0_; have HO724 := n1_; have HB := n2_; clear n0_ n1_ n2_; (try clear hb); (try clear hb2); (try clear hk); (try clear hi)) | ((with_reducible refine gate_callee (f := 37) rfl ?_); refine goesL_ (some 19) rfl rfl Try.func37 (by kernel_rfl) rfl #[.int .i64 0, .int .i64 4, .slice Ao34 y719.length co34, .slice Ao35 y722.length co35, .slice none 0 0] rfl mt ?_; (refine (cons_Plan.calls k 0 4 _ _ y719 _ _ y722 _ _ ([] : List Bool) t727 _ ?side1 ?side2 ?side3 ?side4 ?side5 ?side6 A2.out).mono ?_); (case side1 => exact mC (Kd.R_reads' HO721.out).2.2); (case side2 => exact (Kd.R_reads' HO721.out).2.1); (case side3 => exact mC (Kd.R_reads' HO724.out).2.2); (case side4 => exact (Kd.R_reads' HO724.out).2.1); (case side5 => exact Kd.C_nil _ _); (case side6 => exact Nat.le_refl _); rintro e w37 ⟨v728, rfl, ho0, hb⟩; refine ⟨_, rfl, ?_⟩; have n0_ := Aside0.mk (Kd.R_below (mR HO721.out) hb); have n1_ := Aside0.mk (Kd.R_below (mR HO724.out) hb); have n2_ := Aside0.mk (Kd.V_lower (Kd.V_mono (ok' := fun k_ => some k_ ≠ (.slice Ao34 y719.length co34 : Value).ownBlock ∧ some k_ ≠ (.slice Ao35 y722.length co35 : Value).ownBlock) ho0 (fun k_ hk_ => ⟨(Kd.fresh' (Kd.R_lt (mR HO721.out)) k_ hk_), (Kd.fresh' (Kd.R_lt (mR HO724.out)) k_ hk_)⟩)) (below_size (mB HB.out))); have n3_ := Aside0.mk (below_step (mB HB.out) hb); clear HO721; clear HO724; clear HB; have HO721 := n0_; have HO724 := n1_; have HO729 := n2_; have HB := n3_; clear n0_ n1_ n2_ n3_; (try clear hb); (try clear hb2); (try clear hk); (try clear hi); (try clear ho0)) | ((with_reducible refine gate_dst (N := 20) rfl ?_); refine Kd.R_lit (Kd.int .i64) _ 3 ?hg (N := 20) ?hd (xs := ([5, 0, 5] : List Int)) (inner := [.int .i64 5, .int .i64 0, .int .i64 5]) (ok := fun _ => True) (okp := fun _ => True) ?hr ?hp (fun _ hk => hk) trivial (Below.refl _ _) (Nat.le_refl _) (by simp) ?_; (case hd => rfl); (case hg => rfl); (case hr => first | (go_simp; done) | (go_simp; rfl)); (case hp => exact (Reps.one (show Kd.M (Kd.int .i64) _ _ _ 5 [.int .i64 5] from rfl) (Reps.one (show Kd.M (Kd.int .i64) _ _ _ 0 [.int .i64 0] from rfl) (Reps.one (show Kd.M (Kd.int .i64) _ _ _ 5 [.int .i64 5] from rfl) (Reps.none _ _))))); intro v731 w38 ho39 hb hg_ hnew_; clear hg_ hnew_; (first | rw [← Ny730.out] at ho39 | (simp only [Int.reduceToNat] at ho39; rw [← Ny730.out] at ho39)); have n0_ := Aside0.mk (Kd.R_below (mR HO721.out) hb); have n1_ := Aside0.mk (Kd.R_below (mR HO724.out) hb); have n2_ := Aside0.mk (Kd.V_elder' (mV HO729.out) (Kd.R_base ho39) hb); have n3_ := Aside0.mk (Kd.R_lower ho39 (below_size (mB HB.out))); have n4_ := Aside0.mk (below_step (mB HB.out) hb); clear HO721; clear HO724; clear HO729; clear HB; have HO721 := n0_; have HO724 := n1_; have HO729 := n2_; have HO732 := n3_; have HB := n4_; clear n0_ n1_ n2_ n3_ n4_; clear hb ho39; obtain ⟨Ao40, co40, eo40⟩ := Kd.V_slice HO729.out; subst eo40; obtain ⟨Ao41, co41, eo41⟩ := Kd.R_slice HO732.out; subst eo41) | ((with_reducible refine gate_callee (f := 36) rfl ?_); refine goesL_ (some 21) rfl rfl Try.func36 (by kernel_rfl) rfl #[.slice Ao40 t727.length co40, .slice Ao41 y730.length co41] rfl mt ?_; (with_reducible refine (prebendref01_Ints.calls k _ _ t727 _ _ y730 false _ ?side1 ?side2 ?side3 ?side4 A3.out).mono ?_); (case side1 => exact mC (Kd.V_reads' HO729.out).2.2); (case side2 => exact (Kd.V_reads' HO729.out).2.1); (case side3 => exact mC (Kd.R_reads' HO732.out).2.2); (case side4 => exact (Kd.R_reads' HO732.out).2.1); rintro e w' ⟨rfl, ⟨nd, rfl⟩⟩; refine ⟨_, rfl, ?_⟩))
  go_ret
  exact ⟨by first | rfl | (simp [errW_none, errW_some] <;> rfl) | (simp [*, errW_none, errW_some] <;> rfl), by repeat (first | (with_reducible first | exact HB.out | apply below_alloc | apply pw_below_drewN | apply below_drew1) | exact HB.out)⟩

end Go.Proofs.Ytedpoahndddgfaa.PAll
end
section
namespace Go.Proofs.Ytedpoahndddgfaa.PAll
open Go.RowKit Go.Proofs.YtedpoahndddgfaaW.PrintWords Go.Proofs.YtedpoahndddgfaaW.PrintLast Go.Proofs.YtedpoahndddgfaaW.PrintMore
attribute [local go_sem] max2_int min2_int max_two min_two max_three min_three max_four min_four   -- for this text's walks alone
set_option linter.unusedVariables false
set_option linter.unusedSimpArgs false

/-! ### prebendlaw18_ConsPlans: function 10 -/
def prebendlaw18_ConsPlans.l0 : Nat → List Bool → Int → Int → List (S38) → List (S52) → List Int → Int → Bool → Int → Int → Option (Bool)
 | 0, _, _, _, _, _, _, _, _, _, _ => none
 | k + 1, x4, x11, x12, x13, x14, x15, x16, x17, x18, x19 => if x19 ≥ 0 then (if 0 ≤ x19 then (if x19 < (x15.length : Int) then (if (rd x15 x19) = x11 then (prebendlaw18_ConsPlans.l0 k x4 x11 x12 x13 x14 x15 x16 x17 x19 (wrap64 (x19 - 1))) else (prebendlaw18_ConsPlans.l0 k x4 x11 x12 x13 x14 x15 x16 x17 x18 (wrap64 (x19 - 1)))) else (none)) else (none)) else ((prebendlaw18_awake.f k).bind fun t748 => (if t748 = true then ((cons_Plan.f k x11 x12 x13 x14 x4).bind fun t749 => ((prebendref01_Ints.f k t749 x15).bind fun t752 => (if t752 = true then (if (x17 == (decide (x18 ≥ 0))) = true then (if x17 = true then (some (x16 == x18)) else (if x16 = 0 then (some true) else (some false))) else (some false)) else (some false)))) else (some false)))
def prebendlaw18_ConsPlans.f (k : Nat) (a0 : Int) (a1 : Int) (l2 : List (S38)) (l3 : List (S52)) (l4 : List Bool) : Option (Bool) := (prebendref16_Held.f a0 562949953421312).bind fun t734 => ((prebendref16_Held.f a1 1048576).bind fun t735 => ((prebendref17_Busy.f k l2).bind fun t736 => ((prebendref18_Asks.f k l3).bind fun t739 => ((prebendref18_Plan.f k t734 t735 t736 t739 l4).bind fun t742 => ((cons_Next.f k t734 t735 t736 t739 l4).bind fun bt745 => (prebendlaw18_ConsPlans.l0 k l4 t734 t735 t736 t739 t742 bt745.1 bt745.2 (-1) (wrap64 ((t742.length : Int) - 1))))))))
theorem prebendlaw18_ConsPlans.mono_l : ∀ k, (∀ y0 y1 y2 y3 y4 y5 y6 y7 y8 y9, LeO (prebendlaw18_ConsPlans.l0 k y0 y1 y2 y3 y4 y5 y6 y7 y8 y9) (prebendlaw18_ConsPlans.l0 (k + 1) y0 y1 y2 y3 y4 y5 y6 y7 y8 y9))
 | 0 => fun _ _ _ _ _ _ _ _ _ _ r h => by simp [prebendlaw18_ConsPlans.l0] at h
 | k + 1 => by
  have ih0 := prebendlaw18_ConsPlans.mono_l k
  ·intro y0 y1 y2 y3 y4 y5 y6 y7 y8 y9
   unfold prebendlaw18_ConsPlans.l0
   repeat' first
   | (with_reducible exact ih0 _ _ _ _ _ _ _ _ _ _)
   | (with_reducible exact cons_Next.mono _ _ _ _ _ _)
   | (with_reducible exact cons_Plan.mono _ _ _ _ _ _)
   | (with_reducible exact prebendlaw18_awake.mono _)
   | (with_reducible exact prebendref01_Ints.mono _ _ _)
   | (with_reducible exact prebendref17_Busy.mono _ _)
   | (with_reducible exact prebendref18_Asks.mono _ _)
   | (with_reducible exact prebendref18_Plan.mono _ _ _ _ _ _)
   | (with_reducible exact LeO.refl _)
   | (with_reducible exact LeO.none _)
   | (with_reducible refine LeO.ite ?_ ?_)
   | (with_reducible refine LeO.bind ?_ (fun _ => ?_))
   | exact ih0 _ _ _ _ _ _ _ _ _ _
   | exact cons_Next.mono _ _ _ _ _ _
   | exact cons_Plan.mono _ _ _ _ _ _
   | exact prebendlaw18_awake.mono _
   | exact prebendref01_Ints.mono _ _ _
   | exact prebendref17_Busy.mono _ _
   | exact prebendref18_Asks.mono _ _
   | exact prebendref18_Plan.mono _ _ _ _ _ _
   | exact LeO.none _
   | refine LeO.ite ?_ ?_
   | refine LeO.bind ?_ (fun _ => ?_)
theorem prebendlaw18_ConsPlans.mono : ∀ a0 a1 a2 a3 a4 k, LeO (prebendlaw18_ConsPlans.f k a0 a1 a2 a3 a4) (prebendlaw18_ConsPlans.f (k + 1) a0 a1 a2 a3 a4) := by
 intro a0 a1 a2 a3 a4 k
 have ih0 := prebendlaw18_ConsPlans.mono_l k
 unfold prebendlaw18_ConsPlans.f
 repeat' first
   | (with_reducible exact ih0 _ _ _ _ _ _ _ _ _ _)
   | (with_reducible exact cons_Next.mono _ _ _ _ _ _)
   | (with_reducible exact cons_Plan.mono _ _ _ _ _ _)
   | (with_reducible exact prebendlaw18_awake.mono _)
   | (with_reducible exact prebendref01_Ints.mono _ _ _)
   | (with_reducible exact prebendref17_Busy.mono _ _)
   | (with_reducible exact prebendref18_Asks.mono _ _)
   | (with_reducible exact prebendref18_Plan.mono _ _ _ _ _ _)
   | (with_reducible exact LeO.refl _)
   | (with_reducible exact LeO.none _)
   | (with_reducible refine LeO.ite ?_ ?_)
   | (with_reducible refine LeO.bind ?_ (fun _ => ?_))
   | exact ih0 _ _ _ _ _ _ _ _ _ _
   | exact cons_Next.mono _ _ _ _ _ _
   | exact cons_Plan.mono _ _ _ _ _ _
   | exact prebendlaw18_awake.mono _
   | exact prebendref01_Ints.mono _ _ _
   | exact prebendref17_Busy.mono _ _
   | exact prebendref18_Asks.mono _ _
   | exact prebendref18_Plan.mono _ _ _ _ _ _
   | exact LeO.none _
   | refine LeO.ite ?_ ?_
   | refine LeO.bind ?_ (fun _ => ?_)
set_option maxHeartbeats 8000000 in
set_option maxRecDepth 100000 in
theorem prebendlaw18_ConsPlans.calls (k : Nat) (a0 : Int) (a1 : Int) (A2 : Option Addr) (c2 : Nat) (l2 : List (S38)) (A3 : Option Addr) (c3 : Nat) (l3 : List (S52)) (A4 : Option Addr) (c4 : Nat) (l4 : List Bool) (r : Bool) (w : World) (hr2 : Kd.C k38 w A2 l2.length l2) (hc2 : l2.length ≤ c2) (hr3 : Kd.C k52 w A3 l3.length l3) (hc3 : l3.length ≤ c3) (hr4 : Kd.C Kd.bool w A4 l4.length l4) (hc4 : l4.length ≤ c4) (h : prebendlaw18_ConsPlans.f k a0 a1 l2 l3 l4 = some r) :
  Calls Try.prog 10 #[.int .i64 a0, .int .i64 a1, .slice A2 l2.length c2, .slice A3 l3.length c3, .slice A4 l4.length c4] w fun e w' => e = .returned (.bool r) ∧ Below w.heap.size w w' := by
 have HR2 := Aside0.mk hr2
 have HC2 := Aside0.mk hc2
 clear hr2; clear hc2
 have HR3 := Aside0.mk hr3
 have HC3 := Aside0.mk hc3
 clear hr3; clear hc3
 have HR4 := Aside0.mk hr4
 have HC4 := Aside0.mk hc4
 clear hr4; clear hc4
 have HB := Aside0.mk (Below.refl w.heap.size w)
 have H : ((prebendref16_Held.f a0 562949953421312).bind fun t734 => ((prebendref16_Held.f a1 1048576).bind fun t735 => ((prebendref17_Busy.f k l2).bind fun t736 => ((prebendref18_Asks.f k l3).bind fun t739 => ((prebendref18_Plan.f k t734 t735 t736 t739 l4).bind fun t742 => ((cons_Next.f k t734 t735 t736 t739 l4).bind fun bt745 => (prebendlaw18_ConsPlans.l0 k l4 t734 t735 t736 t739 t742 bt745.1 bt745.2 (-1) (wrap64 ((t742.length : Int) - 1))))))))) = some r := h
 clear h
 replace H := Option.bind_eq_some_iff.mp H
 obtain ⟨t734, A60, H⟩ := H
 replace H : ((prebendref16_Held.f a1 1048576).bind fun t735 => ((prebendref17_Busy.f k l2).bind fun t736 => ((prebendref18_Asks.f k l3).bind fun t739 => ((prebendref18_Plan.f k t734 t735 t736 t739 l4).bind fun t742 => ((cons_Next.f k t734 t735 t736 t739 l4).bind fun bt745 => (prebendlaw18_ConsPlans.l0 k l4 t734 t735 t736 t739 t742 bt745.1 bt745.2 (-1) (wrap64 ((t742.length : Int) - 1)))))))) = some r := H
 have A6 := Aside0.mk A60
 clear A60
 replace H := Option.bind_eq_some_iff.mp H
 obtain ⟨t735, A70, H⟩ := H
 replace H : ((prebendref17_Busy.f k l2).bind fun t736 => ((prebendref18_Asks.f k l3).bind fun t739 => ((prebendref18_Plan.f k t734 t735 t736 t739 l4).bind fun t742 => ((cons_Next.f k t734 t735 t736 t739 l4).bind fun bt745 => (prebendlaw18_ConsPlans.l0 k l4 t734 t735 t736 t739 t742 bt745.1 bt745.2 (-1) (wrap64 ((t742.length : Int) - 1))))))) = some r := H
 have A7 := Aside0.mk A70
 clear A70
 replace H := Option.bind_eq_some_iff.mp H
 obtain ⟨t736, A80, H⟩ := H
 replace H : ((prebendref18_Asks.f k l3).bind fun t739 => ((prebendref18_Plan.f k t734 t735 t736 t739 l4).bind fun t742 => ((cons_Next.f k t734 t735 t736 t739 l4).bind fun bt745 => (prebendlaw18_ConsPlans.l0 k l4 t734 t735 t736 t739 t742 bt745.1 bt745.2 (-1) (wrap64 ((t742.length : Int) - 1)))))) = some r := H
 have A8 := Aside0.mk A80
 clear A80
 replace H := Option.bind_eq_some_iff.mp H
 obtain ⟨t739, A90, H⟩ := H
 replace H : ((prebendref18_Plan.f k t734 t735 t736 t739 l4).bind fun t742 => ((cons_Next.f k t734 t735 t736 t739 l4).bind fun bt745 => (prebendlaw18_ConsPlans.l0 k l4 t734 t735 t736 t739 t742 bt745.1 bt745.2 (-1) (wrap64 ((t742.length : Int) - 1))))) = some r := H
 have A9 := Aside0.mk A90
 clear A90
 replace H := Option.bind_eq_some_iff.mp H
 obtain ⟨t742, A100, H⟩ := H
 replace H : ((cons_Next.f k t734 t735 t736 t739 l4).bind fun bt745 => (prebendlaw18_ConsPlans.l0 k l4 t734 t735 t736 t739 t742 bt745.1 bt745.2 (-1) (wrap64 ((t742.length : Int) - 1)))) = some r := H
 have A10 := Aside0.mk A100
 clear A100
 replace H := Option.bind_eq_some_iff.mp H
 obtain ⟨⟨t745, t746⟩, A110, H⟩ := H
 replace H : (prebendlaw18_ConsPlans.l0 k l4 t734 t735 t736 t739 t742 t745 t746 (-1) (wrap64 ((t742.length : Int) - 1))) = some r := H
 have A11 := Aside0.mk A110
 clear A110
 have H' := Aside0.mk H
 clear H
 go_enter Try.func10, Try.ntmps10
 go_wp2_with (first | ((with_reducible refine gate_callee (f := 13) rfl ?_); refine goesL_ (some 21) rfl rfl Try.func13 (by kernel_rfl) rfl #[.int .i64 a0, .int .i64 562949953421312] rfl mt ?_; (with_reducible refine (prebendref16_Held.calls a0 562949953421312 t734 _ A6.out).mono ?_); rintro e w' ⟨rfl, ⟨nd, rfl⟩⟩; refine ⟨_, rfl, ?_⟩) | ((with_reducible refine gate_callee (f := 13) rfl ?_); refine goesL_ (some 23) rfl rfl Try.func13 (by kernel_rfl) rfl #[.int .i64 a1, .int .i64 1048576] rfl mt ?_; (with_reducible refine (prebendref16_Held.calls a1 1048576 t735 _ A7.out).mono ?_); rintro e w' ⟨rfl, ⟨nd, rfl⟩⟩; refine ⟨_, rfl, ?_⟩) | ((with_reducible refine gate_callee (f := 25) rfl ?_); refine goesL_ (some 25) rfl rfl Try.func25 (by kernel_rfl) rfl #[.slice A2 l2.length c2] rfl mt ?_; (with_reducible refine (prebendref17_Busy.calls k _ _ l2 t736 _ ?side1 ?side2 A8.out).mono ?_); (case side1 => exact mC HR2.out); (case side2 => exact HC2.out); rintro e w12 ⟨v737, rfl, ho0, hb⟩; refine ⟨_, rfl, ?_⟩; have n0_ := Aside0.mk (Kd.R_lower ho0 (below_size (mB HB.out))); have n1_ := Aside0.mk (below_step (mB HB.out) hb); clear HB; have HO738 := n0_; have HB := n1_; clear n0_ n1_; (try clear hb); (try clear hb2); (try clear hk); (try clear hi); (try clear ho0)) | ((with_reducible refine gate_callee (f := 32) rfl ?_); refine goesL_ (some 27) rfl rfl Try.func32 (by kernel_rfl) rfl #[.slice A3 l3.length c3] rfl mt ?_; (with_reducible refine (prebendref18_Asks.calls k _ _ l3 t739 _ ?side1 ?side2 A9.out).mono ?_); (case side1 => repeat (first | exact (Kd.C_below HR3.out HB.out) | (with_reducible refine Kd.C_alloc ?_ _) | (with_reducible refine Kd.C_drewN ?_ _) | (with_reducible refine Kd.C_drew ?_))); (case side2 => exact HC3.out); rintro e w13 ⟨v740, rfl, ho0, hb⟩; refine ⟨_, rfl, ?_⟩; have n0_ := Aside0.mk (Kd.R_below (mR HO738.out) hb); have n1_ := Aside0.mk (Kd.R_lower ho0 (below_size (mB HB.out))); have n2_ := Aside0.mk (below_step (mB HB.out) hb); clear HO738; clear HB; have HO738 := n0_; have HO741 := n1_; have HB := n2_; clear n0_ n1_ n2_; (try clear hb); (try clear hb2); (try clear hk); (try clear hi); (try clear ho0); obtain ⟨Ao14, co14, eo14⟩ := Kd.R_slice HO738.out; subst eo14; obtain ⟨Ao15, co15, eo15⟩ := Kd.R_slice HO741.out; subst eo15) | ((with_reducible refine gate_callee (f := 33) rfl ?_); refine goesL_ (some 33) rfl rfl Try.func33 (by kernel_rfl) rfl #[.int .i64 t734, .int .i64 t735, .slice Ao14 t736.length co14, .slice Ao15 t739.length co15, .slice A4 l4.length c4] rfl mt ?_; (with_reducible refine (prebendref18_Plan.calls k t734 t735 _ _ t736 _ _ t739 _ _ l4 t742 _ ?side1 ?side2 ?side3 ?side4 ?side5 ?side6 A10.out).mono ?_); (case side1 => exact mC (Kd.R_reads' HO738.out).2.2); (case side2 => exact (Kd.R_reads' HO738.out).2.1); (case side3 => exact mC (Kd.R_reads' HO741.out).2.2); (case side4 => exact (Kd.R_reads' HO741.out).2.1); (case side5 => repeat (first | exact (Kd.C_below HR4.out HB.out) | (with_reducible refine Kd.C_alloc ?_ _) | (with_reducible refine Kd.C_drewN ?_ _) | (with_reducible refine Kd.C_drew ?_))); (case side6 => exact HC4.out); rintro e w16 ⟨v743, rfl, ho0, hb⟩; refine ⟨_, rfl, ?_⟩; have n0_ := Aside0.mk (Kd.R_below (mR HO738.out) hb); have n1_ := Aside0.mk (Kd.R_below (mR HO741.out) hb); have n2_ := Aside0.mk (Kd.R_lower ho0 (below_size (mB HB.out))); have n3_ := Aside0.mk (below_step (mB HB.out) hb); clear HO738; clear HO741; clear HB; have HO738 := n0_; have HO741 := n1_; have HO744 := n2_; have HB := n3_; clear n0_ n1_ n2_ n3_; (try clear hb); (try clear hb2); (try clear hk); (try clear hi); (try clear ho0)) | ((with_reducible refine gate_callee (f := 34) rfl ?_); refine goesL_ (some 40) rfl rfl Try.func34 (by kernel_rfl) rfl #[.int .i64 t734, .int .i64 t735, .slice Ao14 t736.length co14, .slice Ao15 t739.length co15, .slice A4 l4.length c4] rfl mt ?_; (with_reducible refine (cons_Next.calls k t734 t735 _ _ t736 _ _ t739 _ _ l4 t745 t746 _ ?side1 ?side2 ?side3 ?side4 ?side5 ?side6 A11.out).mono ?_); (case side1 => exact mC (Kd.R_reads' HO738.out).2.2); (case side2 => exact (Kd.R_reads' HO738.out).2.1); (case side3 => exact mC (Kd.R_reads' HO741.out).2.2); (case side4 => exact (Kd.R_reads' HO741.out).2.1); (case side5 => repeat (first | exact (Kd.C_below HR4.out HB.out) | (with_reducible refine Kd.C_alloc ?_ _) | (with_reducible refine Kd.C_drewN ?_ _) | (with_reducible refine Kd.C_drew ?_))); (case side6 => exact HC4.out); rintro e w17 ⟨rfl, hb⟩; refine ⟨_, rfl, ?_⟩; have n0_ := Aside0.mk (Kd.R_below (mR HO738.out) hb); have n1_ := Aside0.mk (Kd.R_below (mR HO741.out) hb); have n2_ := Aside0.mk (Kd.R_below (mR HO744.out) hb); have n3_ := Aside0.mk (below_step (mB HB.out) hb); clear HO738; clear HO741; clear HO744; clear HB; have HO738 := n0_; have HO741 := n1_; have HO744 := n2_; have HB := n3_; clear n0_ n1_ n2_ n3_; (try clear hb); (try clear hb2); (try clear hk); (try clear hi); obtain ⟨Ao18, co18, eo18⟩ := Kd.R_slice HO744.out; subst eo18))
 (try simp only [Act.put, List.setIfInBounds_toArray, List.set_cons_zero, List.set_cons_succ])
 go_loopg [18, 19] k (fun kq v18 v19 w' => ∃ (x18_1 : Int) (x19_1 : Int), v18 = .int .i64 x18_1 ∧ v19 = .int .i64 x19_1 ∧ Aside0 (prebendlaw18_ConsPlans.l0 kq l4 t734 t735 t736 t739 t742 t745 t746 x18_1 x19_1 = some r) ∧ Aside0 (kq ≤ k) ∧ Aside0 (Kd.R k38 38 w' w.heap.size (fun _ => True) (.slice Ao14 t736.length co14) t736) ∧ Aside0 (Kd.R k52 52 w' w.heap.size (fun _ => True) (.slice Ao15 t739.length co15) t739) ∧ Aside0 (Kd.R (Kd.int .i64) 3 w' w.heap.size (fun _ => True) (.slice Ao18 t742.length co18) t742) ∧ Aside0 (Below w.heap.size w w'))
 case atStart => exact ⟨((-1)), (wrap64 ((t742.length : Int) - 1)), ez, ez, H', ⟨Nat.le_refl _⟩, ⟨mR HO738.out⟩, ⟨mR HO741.out⟩, ⟨mR HO744.out⟩, ⟨mB HB.out⟩⟩
 case round =>
  clear H'
  (try clear c1); (try clear c2); (try clear p2); (try clear c3); (try clear c4); (try clear p6); (try clear c10); (try clear c13)
  obtain ⟨x18_1, x19_1, rfl, rfl, HA, HK1, HO_13, HO_14, HO_15, HB⟩ := hrel
  cases gk with
  | zero => exact absurd HA.out (by simp [prebendlaw18_ConsPlans.l0])
  | succ k1 =>
   have H := HA.out
   clear HA
   simp only [prebendlaw18_ConsPlans.l0] at H
   by_cases c19 : x19_1 ≥ 0
   ·rw [if_pos c19] at H
    have c19b0 : decide (0 ≤ x19_1) = true := decide_eq_true c19
    clear c19
    by_cases c20 : 0 ≤ x19_1
    ·rw [if_pos c20] at H
     have c20b0 : decide (0 ≤ x19_1) = true := decide_eq_true c20
     clear c20
     by_cases c21 : x19_1 < (t742.length : Int)
     ·rw [if_pos c21] at H
      have c21b0 : decide (x19_1 < (t742.length : Int)) = true := decide_eq_true c21
      clear c21
      by_cases c22 : (rd t742 x19_1) = t734
      ·rw [if_pos c22] at H
       have c22b0 : ((rd t742 x19_1) == t734) = true := beq_iff_eq.mpr c22
       have c22b1 : ((rd t742 x19_1) != t734) = false := bne_eq_false_iff_eq.mpr c22
       clear c22
       have H' := Aside0.mk H
       clear H
       have p747 : 0 ≤ (x19_1 : Int) := oda
       have q747 : x19_1 < (t742.length : Int) := oda
       obtain ⟨ad747, e747, hx747_0⟩ := Kd.at_int (Kd.R_reads' HO_15.out).2.2 x19_1 p747 q747
       cases e747
       replace p747 := eq_true p747
       replace q747 := eq_true q747
       go_wp2
       go_roundg k1
       case measure => have := HK1.out; omega
       case rel => exact ⟨(x19_1), (wrap64 (x19_1 - 1)), ez, ez, H', ⟨by have := HK1.out; omega⟩, ⟨mR HO_13.out⟩, ⟨mR HO_14.out⟩, ⟨mR HO_15.out⟩, ⟨mB HB.out⟩⟩
      ·rw [if_neg c22] at H
       have c22b0 : ((rd t742 x19_1) == t734) = false := beq_eq_false_iff_ne.mpr c22
       have c22b1 : ((rd t742 x19_1) != t734) = true := bne_iff_ne.mpr c22
       have H' := Aside0.mk H
       clear H
       have p747 : 0 ≤ (x19_1 : Int) := oda
       have q747 : x19_1 < (t742.length : Int) := oda
       obtain ⟨ad747, e747, hx747_0⟩ := Kd.at_int (Kd.R_reads' HO_15.out).2.2 x19_1 p747 q747
       cases e747
       replace p747 := eq_true p747
       replace q747 := eq_true q747
       go_wp2
       go_roundg k1
       case measure => have := HK1.out; omega
       case rel => exact ⟨(x18_1), (wrap64 (x19_1 - 1)), ez, ez, H', ⟨by have := HK1.out; omega⟩, ⟨mR HO_13.out⟩, ⟨mR HO_14.out⟩, ⟨mR HO_15.out⟩, ⟨mB HB.out⟩⟩
     ·rw [if_neg c21] at H
      exact absurd H (by simp)
    · exact absurd (of_decide_eq_true c19b0) c20
   ·rw [if_neg c19] at H
    have c19b0 : decide (0 ≤ x19_1) = false := decide_eq_false c19
    clear c19
    replace H := Option.bind_eq_some_iff.mp H
    obtain ⟨t748, A230, H⟩ := H
    replace H : (if t748 = true then ((cons_Plan.f k1 t734 t735 t736 t739 l4).bind fun t749 => ((prebendref01_Ints.f k1 t749 t742).bind fun t752 => (if t752 = true then (if (t746 == (decide (x18_1 ≥ 0))) = true then (if t746 = true then (some (t745 == x18_1)) else (if t745 = 0 then (some true) else (some false))) else (some false)) else (some false)))) else (some false)) = some r := H
    have A23 := Aside0.mk A230
    clear A230
    by_cases c24 : t748 = true
    ·subst c24
     have H1 : ((cons_Plan.f k1 t734 t735 t736 t739 l4).bind fun t749 => ((prebendref01_Ints.f k1 t749 t742).bind fun t752 => (if t752 = true then (if (t746 == (decide (x18_1 ≥ 0))) = true then (if t746 = true then (some (t745 == x18_1)) else (if t745 = 0 then (some true) else (some false))) else (some false)) else (some false)))) = some r := by rw [if_pos rfl] at H; exact H
     clear H
     have H := H1
     clear H1
     replace H := Option.bind_eq_some_iff.mp H
     obtain ⟨t749, A250, H⟩ := H
     replace H : ((prebendref01_Ints.f k1 t749 t742).bind fun t752 => (if t752 = true then (if (t746 == (decide (x18_1 ≥ 0))) = true then (if t746 = true then (some (t745 == x18_1)) else (if t745 = 0 then (some true) else (some false))) else (some false)) else (some false))) = some r := H
     have A25 := Aside0.mk A250
     clear A250
     replace H := Option.bind_eq_some_iff.mp H
     obtain ⟨t752, A260, H⟩ := H
     replace H : (if t752 = true then (if (t746 == (decide (x18_1 ≥ 0))) = true then (if t746 = true then (some (t745 == x18_1)) else (if t745 = 0 then (some true) else (some false))) else (some false)) else (some false)) = some r := H
     have A26 := Aside0.mk A260
     clear A260
     by_cases c27 : t752 = true
     ·subst c27
      have H1 : (if (t746 == (decide (x18_1 ≥ 0))) = true then (if t746 = true then (some (t745 == x18_1)) else (if t745 = 0 then (some true) else (some false))) else (some false)) = some r := by rw [if_pos rfl] at H; exact H
      clear H
      have H := H1
      clear H1
      by_cases c28 : (t746 == (decide (x18_1 ≥ 0))) = true
      ·rw [if_pos c28] at H
       have c28b0 : (t746 == (decide (x18_1 ≥ 0))) = true := c28
       (try (have c28b1 : decide (t746 = (decide (x18_1 ≥ 0))) = true := by simpa using c28))
       (try (have c28b2 : (t746 == (decide (x18_1 ≥ 0))) = true := by simpa using c28))
       clear c28
       by_cases c29 : t746 = true
       ·subst c29
        have H1 : (some (t745 == x18_1)) = some r := by rw [if_pos rfl] at H; exact H
        clear H
        have H := H1
        clear H1
        obtain rfl := Option.some.inj H
        go_wp2_with (first | ((with_reducible refine gate_callee (f := 35) rfl ?_); refine goesL_ (some 57) rfl rfl Try.func35 (by kernel_rfl) rfl #[] rfl mt ?_; (with_reducible refine (prebendlaw18_awake.calls k1  true _ A23.out).mono ?_); rintro e w30 ⟨rfl, hb⟩; refine ⟨_, rfl, ?_⟩; have n0_ := Aside0.mk (Kd.R_below (mR HO_13.out) hb); have n1_ := Aside0.mk (Kd.R_below (mR HO_14.out) hb); have n2_ := Aside0.mk (Kd.R_below (mR HO_15.out) hb); have n3_ := Aside0.mk (below_step (mB HB.out) hb); clear HO_13; clear HO_14; clear HO_15; clear HB; have HO_13 := n0_; have HO_14 := n1_; have HO_15 := n2_; have HB := n3_; clear n0_ n1_ n2_ n3_; (try clear hb); (try clear hb2); (try clear hk); (try clear hi)) | (go_at_call 37; (with_reducible refine (cons_Plan.calls k1 t734 t735 _ _ t736 _ _ t739 _ _ l4 t749 _ ?side1 ?side2 ?side3 ?side4 ?side5 ?side6 A25.out).mono ?_); (case side1 => exact mC (Kd.R_reads' HO_13.out).2.2); (case side2 => exact (Kd.R_reads' HO_13.out).2.1); (case side3 => exact mC (Kd.R_reads' HO_14.out).2.2); (case side4 => exact (Kd.R_reads' HO_14.out).2.1); (case side5 => repeat (first | exact (Kd.C_below HR4.out HB.out) | (with_reducible refine Kd.C_alloc ?_ _) | (with_reducible refine Kd.C_drewN ?_ _) | (with_reducible refine Kd.C_drew ?_))); (case side6 => exact HC4.out); rintro e w31 ⟨v750, rfl, ho0, hb⟩; have n0_ := Aside0.mk (Kd.R_below (mR HO_13.out) hb); have n1_ := Aside0.mk (Kd.R_below (mR HO_14.out) hb); have n2_ := Aside0.mk (Kd.R_below (mR HO_15.out) hb); have n3_ := Aside0.mk (Kd.V_lower (Kd.V_mono (ok' := fun k_ => some k_ ≠ (.slice Ao14 t736.length co14 : Value).ownBlock ∧ some k_ ≠ (.slice Ao15 t739.length co15 : Value).ownBlock ∧ some k_ ≠ (.slice Ao18 t742.length co18 : Value).ownBlock) ho0 (fun k_ hk_ => ⟨(Kd.fresh' (Kd.R_lt (mR HO_13.out)) k_ hk_), (Kd.fresh' (Kd.R_lt (mR HO_14.out)) k_ hk_), (Kd.fresh' (Kd.R_lt (mR HO_15.out)) k_ hk_)⟩)) (below_size (mB HB.out))); have n4_ := Aside0.mk (below_step (mB HB.out) hb); clear HO_13; clear HO_14; clear HO_15; clear HB; have HO_13 := n0_; have HO_14 := n1_; have HO_15 := n2_; have HO751 := n3_; have HB := n4_; clear n0_ n1_ n2_ n3_ n4_; (try clear hb); (try clear hb2); (try clear hk); (try clear hi); (try clear ho0); obtain ⟨Ao32, co32, eo32⟩ := Kd.V_slice HO751.out; subst eo32) | (go_at_call 36; (with_reducible refine (prebendref01_Ints.calls k1 _ _ t749 _ _ t742 true _ ?side1 ?side2 ?side3 ?side4 A26.out).mono ?_); (case side1 => exact mC (Kd.V_reads' HO751.out).2.2); (case side2 => exact (Kd.V_reads' HO751.out).2.1); (case side3 => exact mC (Kd.R_reads' HO_15.out).2.2); (case side4 => exact (Kd.R_reads' HO_15.out).2.1); rintro e w' ⟨rfl, ⟨nd, rfl⟩⟩))
        go_ret
        exact ⟨by first | rfl | (simp [errW_none, errW_some] <;> rfl) | (simp [*, errW_none, errW_some] <;> rfl), by repeat (first | (with_reducible first | exact HB.out | apply below_alloc | apply pw_below_drewN | apply below_drew1) | exact HB.out)⟩
       ·replace c29 := Bool.eq_false_iff.mpr c29
        subst c29
        have H1 : (if t745 = 0 then (some true) else (some false)) = some r := by rw [if_neg (show ¬ (false = true) by decide)] at H; exact H
        clear H
        have H := H1
        clear H1
        by_cases c33 : t745 = 0
        ·rw [if_pos c33] at H
         have c33b0 : (t745 == 0) = true := beq_iff_eq.mpr c33
         have c33b1 : (t745 != 0) = false := bne_eq_false_iff_eq.mpr c33
         clear c33
         obtain rfl := Option.some.inj H
         go_wp2_with (first | ((with_reducible refine gate_callee (f := 35) rfl ?_); refine goesL_ (some 57) rfl rfl Try.func35 (by kernel_rfl) rfl #[] rfl mt ?_; (with_reducible refine (prebendlaw18_awake.calls k1  true _ A23.out).mono ?_); rintro e w34 ⟨rfl, hb⟩; refine ⟨_, rfl, ?_⟩; have n0_ := Aside0.mk (Kd.R_below (mR HO_13.out) hb); have n1_ := Aside0.mk (Kd.R_below (mR HO_14.out) hb); have n2_ := Aside0.mk (Kd.R_below (mR HO_15.out) hb); have n3_ := Aside0.mk (below_step (mB HB.out) hb); clear HO_13; clear HO_14; clear HO_15; clear HB; have HO_13 := n0_; have HO_14 := n1_; have HO_15 := n2_; have HB := n3_; clear n0_ n1_ n2_ n3_; (try clear hb); (try clear hb2); (try clear hk); (try clear hi)) | (go_at_call 37; (with_reducible refine (cons_Plan.calls k1 t734 t735 _ _ t736 _ _ t739 _ _ l4 t749 _ ?side1 ?side2 ?side3 ?side4 ?side5 ?side6 A25.out).mono ?_); (case side1 => exact mC (Kd.R_reads' HO_13.out).2.2); (case side2 => exact (Kd.R_reads' HO_13.out).2.1); (case side3 => exact mC (Kd.R_reads' HO_14.out).2.2); (case side4 => exact (Kd.R_reads' HO_14.out).2.1); (case side5 => repeat (first | exact (Kd.C_below HR4.out HB.out) | (with_reducible refine Kd.C_alloc ?_ _) | (with_reducible refine Kd.C_drewN ?_ _) | (with_reducible refine Kd.C_drew ?_))); (case side6 => exact HC4.out); rintro e w35 ⟨v750, rfl, ho0, hb⟩; have n0_ := Aside0.mk (Kd.R_below (mR HO_13.out) hb); have n1_ := Aside0.mk (Kd.R_below (mR HO_14.out) hb); have n2_ := Aside0.mk (Kd.R_below (mR HO_15.out) hb); have n3_ := Aside0.mk (Kd.V_lower (Kd.V_mono (ok' := fun k_ => some k_ ≠ (.slice Ao14 t736.length co14 : Value).ownBlock ∧ some k_ ≠ (.slice Ao15 t739.length co15 : Value).ownBlock ∧ some k_ ≠ (.slice Ao18 t742.length co18 : Value).ownBlock) ho0 (fun k_ hk_ => ⟨(Kd.fresh' (Kd.R_lt (mR HO_13.out)) k_ hk_), (Kd.fresh' (Kd.R_lt (mR HO_14.out)) k_ hk_), (Kd.fresh' (Kd.R_lt (mR HO_15.out)) k_ hk_)⟩)) (below_size (mB HB.out))); have n4_ := Aside0.mk (below_step (mB HB.out) hb); clear HO_13; clear HO_14; clear HO_15; clear HB; have HO_13 := n0_; have HO_14 := n1_; have HO_15 := n2_; have HO751 := n3_; have HB := n4_; clear n0_ n1_ n2_ n3_ n4_; (try clear hb); (try clear hb2); (try clear hk); (try clear hi); (try clear ho0); obtain ⟨Ao36, co36, eo36⟩ := Kd.V_slice HO751.out; subst eo36) | (go_at_call 36; (with_reducible refine (prebendref01_Ints.calls k1 _ _ t749 _ _ t742 true _ ?side1 ?side2 ?side3 ?side4 A26.out).mono ?_); (case side1 => exact mC (Kd.V_reads' HO751.out).2.2); (case side2 => exact (Kd.V_reads' HO751.out).2.1); (case side3 => exact mC (Kd.R_reads' HO_15.out).2.2); (case side4 => exact (Kd.R_reads' HO_15.out).2.1); rintro e w' ⟨rfl, ⟨nd, rfl⟩⟩))
         go_ret
         exact ⟨by first | rfl | (simp [errW_none, errW_some] <;> rfl) | (simp [*, errW_none, errW_some] <;> rfl), by repeat (first | (with_reducible first | exact HB.out | apply below_alloc | apply pw_below_drewN | apply below_drew1) | exact HB.out)⟩
        ·rw [if_neg c33] at H
         have c33b0 : (t745 == 0) = false := beq_eq_false_iff_ne.mpr c33
         have c33b1 : (t745 != 0) = true := bne_iff_ne.mpr c33
         obtain rfl := Option.some.inj H
         go_wp2_with (first | ((with_reducible refine gate_callee (f := 35) rfl ?_); refine goesL_ (some 57) rfl rfl Try.func35 (by kernel_rfl) rfl #[] rfl mt ?_; (with_reducible refine (prebendlaw18_awake.calls k1  true _ A23.out).mono ?_); rintro e w37 ⟨rfl, hb⟩; refine ⟨_, rfl, ?_⟩; have n0_ := Aside0.mk (Kd.R_below (mR HO_13.out) hb); have n1_ := Aside0.mk (Kd.R_below (mR HO_14.out) hb); have n2_ := Aside0.mk (Kd.R_below (mR HO_15.out) hb); have n3_ := Aside0.mk (below_step (mB HB.out) hb); clear HO_13; clear HO_14; clear HO_15; clear HB; have HO_13 := n0_; have HO_14 := n1_; have HO_15 := n2_; have HB := n3_; clear n0_ n1_ n2_ n3_; (try clear hb); (try clear hb2); (try clear hk); (try clear hi)) | (go_at_call 37; (with_reducible refine (cons_Plan.calls k1 t734 t735 _ _ t736 _ _ t739 _ _ l4 t749 _ ?side1 ?side2 ?side3 ?side4 ?side5 ?side6 A25.out).mono ?_); (case side1 => exact mC (Kd.R_reads' HO_13.out).2.2); (case side2 => exact (Kd.R_reads' HO_13.out).2.1); (case side3 => exact mC (Kd.R_reads' HO_14.out).2.2); (case side4 => exact (Kd.R_reads' HO_14.out).2.1); (case side5 => repeat (first | exact (Kd.C_below HR4.out HB.out) | (with_reducible refine Kd.C_alloc ?_ _) | (with_reducible refine Kd.C_drewN ?_ _) | (with_reducible refine Kd.C_drew ?_))); (case side6 => exact HC4.out); rintro e w38 ⟨v750, rfl, ho0, hb⟩; have n0_ := Aside0.mk (Kd.R_below (mR HO_13.out) hb); have n1_ := Aside0.mk (Kd.R_below (mR HO_14.out) hb); have n2_ := Aside0.mk (Kd.R_below (mR HO_15.out) hb); have n3_ := Aside0.mk (Kd.V_lower (Kd.V_mono (ok' := fun k_ => some k_ ≠ (.slice Ao14 t736.length co14 : Value).ownBlock ∧ some k_ ≠ (.slice Ao15 t739.length co15 : Value).ownBlock ∧ some k_ ≠ (.slice Ao18 t742.length co18 : Value).ownBlock) ho0 (fun k_ hk_ => ⟨(Kd.fresh' (Kd.R_lt (mR HO_13.out)) k_ hk_), (Kd.fresh' (Kd.R_lt (mR HO_14.out)) k_ hk_), (Kd.fresh' (Kd.R_lt (mR HO_15.out)) k_ hk_)⟩)) (below_size (mB HB.out))); have n4_ := Aside0.mk (below_step (mB HB.out) hb); clear HO_13; clear HO_14; clear HO_15; clear HB; have HO_13 := n0_; have HO_14 := n1_; have HO_15 := n2_; have HO751 := n3_; have HB := n4_; clear n0_ n1_ n2_ n3_ n4_; (try clear hb); (try clear hb2); (try clear hk); (try clear hi); (try clear ho0); obtain ⟨Ao39, co39, eo39⟩ := Kd.V_slice HO751.out; subst eo39) | (go_at_call 36; (with_reducible refine (prebendref01_Ints.calls k1 _ _ t749 _ _ t742 true _ ?side1 ?side2 ?side3 ?side4 A26.out).mono ?_); (case side1 => exact mC (Kd.V_reads' HO751.out).2.2); (case side2 => exact (Kd.V_reads' HO751.out).2.1); (case side3 => exact mC (Kd.R_reads' HO_15.out).2.2); (case side4 => exact (Kd.R_reads' HO_15.out).2.1); rintro e w' ⟨rfl, ⟨nd, rfl⟩⟩))
         go_ret
         exact ⟨by first | rfl | (simp [errW_none, errW_some] <;> rfl) | (simp [*, errW_none, errW_some] <;> rfl), by repeat (first | (with_reducible first | exact HB.out | apply below_alloc | apply pw_below_drewN | apply below_drew1) | exact HB.out)⟩
      ·rw [if_neg c28] at H
       have c28b0 : (t746 == (decide (x18_1 ≥ 0))) = false := by simpa using c28
       (try (have c28b1 : decide (t746 = (decide (x18_1 ≥ 0))) = false := by simpa using c28))
       (try (have c28b2 : (t746 == (decide (x18_1 ≥ 0))) = false := by simpa using c28))
       (try (have c28b3 : ¬ (t746 = (decide (x18_1 ≥ 0))) := by simpa using c28))
       clear c28
       obtain rfl := Option.some.inj H
       go_wp2_with (first | ((with_reducible refine gate_callee (f := 35) rfl ?_); refine goesL_ (some 57) rfl rfl Try.func35 (by kernel_rfl) rfl #[] rfl mt ?_; (with_reducible refine (prebendlaw18_awake.calls k1  true _ A23.out).mono ?_); rintro e w40 ⟨rfl, hb⟩; refine ⟨_, rfl, ?_⟩; have n0_ := Aside0.mk (Kd.R_below (mR HO_13.out) hb); have n1_ := Aside0.mk (Kd.R_below (mR HO_14.out) hb); have n2_ := Aside0.mk (Kd.R_below (mR HO_15.out) hb); have n3_ := Aside0.mk (below_step (mB HB.out) hb); clear HO_13; clear HO_14; clear HO_15; clear HB; have HO_13 := n0_; have HO_14 := n1_; have HO_15 := n2_; have HB := n3_; clear n0_ n1_ n2_ n3_; (try clear hb); (try clear hb2); (try clear hk); (try clear hi)) | (go_at_call 37; (with_reducible refine (cons_Plan.calls k1 t734 t735 _ _ t736 _ _ t739 _ _ l4 t749 _ ?side1 ?side2 ?side3 ?side4 ?side5 ?side6 A25.out).mono ?_); (case side1 => exact mC (Kd.R_reads' HO_13.out).2.2); (case side2 => exact (Kd.R_reads' HO_13.out).2.1); (case side3 => exact mC (Kd.R_reads' HO_14.out).2.2); (case side4 => exact (Kd.R_reads' HO_14.out).2.1); (case side5 => repeat (first | exact (Kd.C_below HR4.out HB.out) | (with_reducible refine Kd.C_alloc ?_ _) | (with_reducible refine Kd.C_drewN ?_ _) | (with_reducible refine Kd.C_drew ?_))); (case side6 => exact HC4.out); rintro e w41 ⟨v750, rfl, ho0, hb⟩; have n0_ := Aside0.mk (Kd.R_below (mR HO_13.out) hb); have n1_ := Aside0.mk (Kd.R_below (mR HO_14.out) hb); have n2_ := Aside0.mk (Kd.R_below (mR HO_15.out) hb); have n3_ := Aside0.mk (Kd.V_lower (Kd.V_mono (ok' := fun k_ => some k_ ≠ (.slice Ao14 t736.length co14 : Value).ownBlock ∧ some k_ ≠ (.slice Ao15 t739.length co15 : Value).ownBlock ∧ some k_ ≠ (.slice Ao18 t742.length co18 : Value).ownBlock) ho0 (fun k_ hk_ => ⟨(Kd.fresh' (Kd.R_lt (mR HO_13.out)) k_ hk_), (Kd.fresh' (Kd.R_lt (mR HO_14.out)) k_ hk_), (Kd.fresh' (Kd.R_lt (mR HO_15.out)) k_ hk_)⟩)) (below_size (mB HB.out))); have n4_ := Aside0.mk (below_step (mB HB.out) hb); clear HO_13; clear HO_14; clear HO_15; clear HB; have HO_13 := n0_; have HO_14 := n1_; have HO_15 := n2_; have HO751 := n3_; have HB := n4_; clear n0_ n1_ n2_ n3_ n4_; (try clear hb); (try clear hb2); (try clear hk); (try clear hi); (try clear ho0); obtain ⟨Ao42, co42, eo42⟩ := Kd.V_slice HO751.out; subst eo42) | (go_at_call 36; (with_reducible refine (prebendref01_Ints.calls k1 _ _ t749 _ _ t742 true _ ?side1 ?side2 ?side3 ?side4 A26.out).mono ?_); (case side1 => exact mC (Kd.V_reads' HO751.out).2.2); (case side2 => exact (Kd.V_reads' HO751.out).2.1); (case side3 => exact mC (Kd.R_reads' HO_15.out).2.2); (case side4 => exact (Kd.R_reads' HO_15.out).2.1); rintro e w' ⟨rfl, ⟨nd, rfl⟩⟩))
       go_ret
       exact ⟨by first | rfl | (simp [errW_none, errW_some] <;> rfl) | (simp [*, errW_none, errW_some] <;> rfl), by repeat (first | (with_reducible first | exact HB.out | apply below_alloc | apply pw_below_drewN | apply below_drew1) | exact HB.out)⟩
     ·replace c27 := Bool.eq_false_iff.mpr c27
      subst c27
      have H1 : (some false) = some r := by rw [if_neg (show ¬ (false = true) by decide)] at H; exact H
      clear H
      have H := H1
      clear H1
      obtain rfl := Option.some.inj H
      go_wp2_with (first | ((with_reducible refine gate_callee (f := 35) rfl ?_); refine goesL_ (some 57) rfl rfl Try.func35 (by kernel_rfl) rfl #[] rfl mt ?_; (with_reducible refine (prebendlaw18_awake.calls k1  true _ A23.out).mono ?_); rintro e w43 ⟨rfl, hb⟩; refine ⟨_, rfl, ?_⟩; have n0_ := Aside0.mk (Kd.R_below (mR HO_13.out) hb); have n1_ := Aside0.mk (Kd.R_below (mR HO_14.out) hb); have n2_ := Aside0.mk (Kd.R_below (mR HO_15.out) hb); have n3_ := Aside0.mk (below_step (mB HB.out) hb); clear HO_13; clear HO_14; clear HO_15; clear HB; have HO_13 := n0_; have HO_14 := n1_; have HO_15 := n2_; have HB := n3_; clear n0_ n1_ n2_ n3_; (try clear hb); (try clear hb2); (try clear hk); (try clear hi)) | (go_at_call 37; (with_reducible refine (cons_Plan.calls k1 t734 t735 _ _ t736 _ _ t739 _ _ l4 t749 _ ?side1 ?side2 ?side3 ?side4 ?side5 ?side6 A25.out).mono ?_); (case side1 => exact mC (Kd.R_reads' HO_13.out).2.2); (case side2 => exact (Kd.R_reads' HO_13.out).2.1); (case side3 => exact mC (Kd.R_reads' HO_14.out).2.2); (case side4 => exact (Kd.R_reads' HO_14.out).2.1); (case side5 => repeat (first | exact (Kd.C_below HR4.out HB.out) | (with_reducible refine Kd.C_alloc ?_ _) | (with_reducible refine Kd.C_drewN ?_ _) | (with_reducible refine Kd.C_drew ?_))); (case side6 => exact HC4.out); rintro e w44 ⟨v750, rfl, ho0, hb⟩; have n0_ := Aside0.mk (Kd.R_below (mR HO_13.out) hb); have n1_ := Aside0.mk (Kd.R_below (mR HO_14.out) hb); have n2_ := Aside0.mk (Kd.R_below (mR HO_15.out) hb); have n3_ := Aside0.mk (Kd.V_lower (Kd.V_mono (ok' := fun k_ => some k_ ≠ (.slice Ao14 t736.length co14 : Value).ownBlock ∧ some k_ ≠ (.slice Ao15 t739.length co15 : Value).ownBlock ∧ some k_ ≠ (.slice Ao18 t742.length co18 : Value).ownBlock) ho0 (fun k_ hk_ => ⟨(Kd.fresh' (Kd.R_lt (mR HO_13.out)) k_ hk_), (Kd.fresh' (Kd.R_lt (mR HO_14.out)) k_ hk_), (Kd.fresh' (Kd.R_lt (mR HO_15.out)) k_ hk_)⟩)) (below_size (mB HB.out))); have n4_ := Aside0.mk (below_step (mB HB.out) hb); clear HO_13; clear HO_14; clear HO_15; clear HB; have HO_13 := n0_; have HO_14 := n1_; have HO_15 := n2_; have HO751 := n3_; have HB := n4_; clear n0_ n1_ n2_ n3_ n4_; (try clear hb); (try clear hb2); (try clear hk); (try clear hi); (try clear ho0); obtain ⟨Ao45, co45, eo45⟩ := Kd.V_slice HO751.out; subst eo45) | (go_at_call 36; (with_reducible refine (prebendref01_Ints.calls k1 _ _ t749 _ _ t742 false _ ?side1 ?side2 ?side3 ?side4 A26.out).mono ?_); (case side1 => exact mC (Kd.V_reads' HO751.out).2.2); (case side2 => exact (Kd.V_reads' HO751.out).2.1); (case side3 => exact mC (Kd.R_reads' HO_15.out).2.2); (case side4 => exact (Kd.R_reads' HO_15.out).2.1); rintro e w' ⟨rfl, ⟨nd, rfl⟩⟩))
      go_ret
      exact ⟨by first | rfl | (simp [errW_none, errW_some] <;> rfl) | (simp [*, errW_none, errW_some] <;> rfl), by repeat (first | (with_reducible first | exact HB.out | apply below_alloc | apply pw_below_drewN | apply below_drew1) | exact HB.out)⟩
    ·replace c24 := Bool.eq_false_iff.mpr c24
     subst c24
     have H1 : (some false) = some r := by rw [if_neg (show ¬ (false = true) by decide)] at H; exact H
     clear H
     have H := H1
     clear H1
     obtain rfl := Option.some.inj H
     go_wp2_with (first | ((with_reducible refine gate_callee (f := 35) rfl ?_); refine goesL_ (some 57) rfl rfl Try.func35 (by kernel_rfl) rfl #[] rfl mt ?_; (with_reducible refine (prebendlaw18_awake.calls k1  false _ A23.out).mono ?_); rintro e w46 ⟨rfl, hb⟩; refine ⟨_, rfl, ?_⟩; have n0_ := Aside0.mk (Kd.R_below (mR HO_13.out) hb); have n1_ := Aside0.mk (Kd.R_below (mR HO_14.out) hb); have n2_ := Aside0.mk (Kd.R_below (mR HO_15.out) hb); have n3_ := Aside0.mk (below_step (mB HB.out) hb); clear HO_13; clear HO_14; clear HO_15; clear HB; have HO_13 := n0_; have HO_14 := n1_; have HO_15 := n2_; have HB := n3_; clear n0_ n1_ n2_ n3_; (try clear hb); (try clear hb2); (try clear hk); (try clear hi)))
     go_ret
     exact ⟨by first | rfl | (simp [errW_none, errW_some] <;> rfl) | (simp [*, errW_none, errW_some] <;> rfl), by repeat (first | (with_reducible first | exact HB.out | apply below_alloc | apply pw_below_drewN | apply below_drew1) | exact HB.out)⟩

/-- THE ONE PURE STATEMENT of prebendlaw18_ConsPlans. -/
def prebendlaw18_ConsPlans.Pure : Prop := ∀ (a0 : Int) (a1 : Int) (l2 : List (S38)) (l3 : List (S52)) (l4 : List Bool), (Lit.int .i64 a0).wf = true → (Lit.int .i64 a1).wf = true → (l2.length ≤ maxLen ∧ ∀ y ∈ l2, g38 y) → (l3.length ≤ maxLen ∧ ∀ y ∈ l3, g52 y) → (l4.length ≤ maxLen ∧ ∀ y ∈ l4, True) → ∃ k, prebendlaw18_ConsPlans.f k a0 a1 l2 l3 l4 = some true
theorem prebendlaw18_ConsPlans.walk (P : prebendlaw18_ConsPlans.Pure) (a0 : Int) (a1 : Int) (A2 : Option Addr) (c2 : Nat) (l2 : List (S38)) (A3 : Option Addr) (c3 : Nat) (l3 : List (S52)) (A4 : Option Addr) (c4 : Nat) (l4 : List Bool) (w : World) (hr2 : Kd.C k38 w A2 l2.length l2) (hc2 : l2.length ≤ c2) (hr3 : Kd.C k52 w A3 l3.length l3) (hc3 : l3.length ≤ c3) (hr4 : Kd.C Kd.bool w A4 l4.length l4) (hc4 : l4.length ≤ c4) (h0_ : (Lit.int .i64 a0).wf = true) (h1_ : (Lit.int .i64 a1).wf = true) (h2_ : (l2.length ≤ maxLen ∧ ∀ y ∈ l2, g38 y)) (h3_ : (l3.length ≤ maxLen ∧ ∀ y ∈ l3, g52 y)) (h4_ : (l4.length ≤ maxLen ∧ ∀ y ∈ l4, True)) :
  Calls Try.prog 10 #[.int .i64 a0, .int .i64 a1, .slice A2 l2.length c2, .slice A3 l3.length c3, .slice A4 l4.length c4] w fun e w' => e = .returned (.bool true) ∧ Below w.heap.size w w' := by
 obtain ⟨k, h⟩ := P a0 a1 l2 l3 l4 h0_ h1_ h2_ h3_ h4_
 refine (prebendlaw18_ConsPlans.calls k a0 a1 A2 c2 l2 A3 c3 l3 A4 c4 l4 true w hr2 hc2 hr3 hc3 hr4 hc4 h).mono ?_
 rintro e w' ⟨rfl, hd⟩
 exact ⟨rfl, hd⟩

end Go.Proofs.Ytedpoahndddgfaa.PAll
end
