/- Words, plain functions and contracts of the functions that the law of this claim reaches; no conditions. -/
import Derived.Test.YtedpoahndddgfaaBEasyRefused3
section
namespace Go.Proofs.Ytedpoahndddgfaa.PAll
open Go.RowKit Go.Proofs.YtedpoahndddgfaaW.PrintWords Go.Proofs.YtedpoahndddgfaaW.PrintLast Go.Proofs.YtedpoahndddgfaaW.PrintMore
attribute [local go_sem] max2_int min2_int max_two min_two max_three min_three max_four min_four   -- for this text's walks alone
set_option linter.unusedVariables false
set_option linter.unusedSimpArgs false

/-! ### profile_Fit: function 17 -/
def profile_Fit.l0 : Nat → List (S40) → Int → Int → Int → List (S40) → Int → Int → Option (Int × Bool)
 | 0, _, _, _, _, _, _, _ => none
 | k + 1, x0, x1, x2, x8, x11, x12, x13 => if x13 < x12 then (if 0 ≤ x13 then (if x13 < (x11.length : Int) then (if ((rd_T40 x11 x13).f1) < x1 then (if (-1) ≥ 0 then (if (wrap64 (x13 + 1)) = (x0.length : Int) then (if 0 ≤ (-1) then (if (-1) < (x0.length : Int) then (some ((rd_T40 x0 (-1)).f0, true)) else (none)) else (none)) else (if 0 ≤ (wrap64 (x13 + 1)) then (if (wrap64 (x13 + 1)) < (x0.length : Int) then (if 0 ≤ (-1) then (if (-1) < (x0.length : Int) then (if (wrap64 (((rd_T40 x0 (wrap64 (x13 + 1))).f0) - ((rd_T40 x0 (-1)).f0))) ≥ (mx x2 1) then (some ((rd_T40 x0 (-1)).f0, true)) else (profile_Fit.l0 k x0 x1 x2 (-1) x11 x12 (wrap64 (x13 + 1)))) else (none)) else (none)) else (none)) else (none))) else (profile_Fit.l0 k x0 x1 x2 (-1) x11 x12 (wrap64 (x13 + 1)))) else (if x8 < 0 then (if x13 ≥ 0 then (if (wrap64 (x13 + 1)) = (x0.length : Int) then (if x13 < (x0.length : Int) then (some ((rd_T40 x0 x13).f0, true)) else (none)) else (if 0 ≤ (wrap64 (x13 + 1)) then (if (wrap64 (x13 + 1)) < (x0.length : Int) then (if x13 < (x0.length : Int) then (if (wrap64 (((rd_T40 x0 (wrap64 (x13 + 1))).f0) - ((rd_T40 x0 x13).f0))) ≥ (mx x2 1) then (some ((rd_T40 x0 x13).f0, true)) else (profile_Fit.l0 k x0 x1 x2 x13 x11 x12 (wrap64 (x13 + 1)))) else (none)) else (none)) else (none))) else (profile_Fit.l0 k x0 x1 x2 x13 x11 x12 (wrap64 (x13 + 1)))) else (if x8 ≥ 0 then (if (wrap64 (x13 + 1)) = (x0.length : Int) then (if 0 ≤ x8 then (if x8 < (x0.length : Int) then (some ((rd_T40 x0 x8).f0, true)) else (none)) else (none)) else (if 0 ≤ (wrap64 (x13 + 1)) then (if (wrap64 (x13 + 1)) < (x0.length : Int) then (if 0 ≤ x8 then (if x8 < (x0.length : Int) then (if (wrap64 (((rd_T40 x0 (wrap64 (x13 + 1))).f0) - ((rd_T40 x0 x8).f0))) ≥ (mx x2 1) then (some ((rd_T40 x0 x8).f0, true)) else (profile_Fit.l0 k x0 x1 x2 x8 x11 x12 (wrap64 (x13 + 1)))) else (none)) else (none)) else (none)) else (none))) else (profile_Fit.l0 k x0 x1 x2 x8 x11 x12 (wrap64 (x13 + 1)))))) else (none)) else (none)) else (some (0, false))
def profile_Fit.f (k : Nat) (l0 : List (S40)) (a1 : Int) (a2 : Int) : Option (Int × Bool) := profile_Fit.l0 k l0 a1 a2 (-1) l0 (l0.length : Int) 0
theorem profile_Fit.mono_l : ∀ k, (∀ y0 y1 y2 y3 y4 y5 y6, LeO (profile_Fit.l0 k y0 y1 y2 y3 y4 y5 y6) (profile_Fit.l0 (k + 1) y0 y1 y2 y3 y4 y5 y6))
 | 0 => fun _ _ _ _ _ _ _ r h => by simp [profile_Fit.l0] at h
 | k + 1 => by
  have ih0 := profile_Fit.mono_l k
  ·intro y0 y1 y2 y3 y4 y5 y6
   unfold profile_Fit.l0
   repeat' first
   | (with_reducible exact ih0 _ _ _ _ _ _ _)
   | (with_reducible exact LeO.refl _)
   | (with_reducible exact LeO.none _)
   | (with_reducible refine LeO.ite ?_ ?_)
   | (with_reducible refine LeO.bind ?_ (fun _ => ?_))
   | exact ih0 _ _ _ _ _ _ _
   | exact LeO.none _
   | refine LeO.ite ?_ ?_
   | refine LeO.bind ?_ (fun _ => ?_)
theorem profile_Fit.mono : ∀ a0 a1 a2 k, LeO (profile_Fit.f k a0 a1 a2) (profile_Fit.f (k + 1) a0 a1 a2) := by
 intro a0 a1 a2 k
 have ih0 := profile_Fit.mono_l k
 unfold profile_Fit.f
 repeat' first
   | (with_reducible exact ih0 _ _ _ _ _ _ _)
   | (with_reducible exact LeO.refl _)
   | (with_reducible exact LeO.none _)
   | (with_reducible refine LeO.ite ?_ ?_)
   | (with_reducible refine LeO.bind ?_ (fun _ => ?_))
   | exact ih0 _ _ _ _ _ _ _
   | exact LeO.none _
   | refine LeO.ite ?_ ?_
   | refine LeO.bind ?_ (fun _ => ?_)
def profile_Fit.T9 : Bool × List (List Nat × List Nat) := (true, [([], []), ([0], [0]), ([1], [1]), ([2], [2]), ([3, 2], [2, 3]), ([2], [2]), ([5, 2], [2, 5]), ([4, 6, 2], [2, 4, 6]), ([7, 2, 2], [2, 7]), ([8], [8]), ([8], [8]), ([10, 8], [8, 10]), ([9, 11, 8], [8, 9, 11]), ([12, 8], [8, 12]), ([13, 8], [8, 13]), ([8], [8]), ([8], [8]), ([15, 16, 8], [8, 15, 16]), ([17, 8], [8, 17]), ([18, 8], [8, 18]), ([14, 19, 8], [8, 14, 19]), ([8], [8]), ([21, 8], [8, 21]), ([20, 22, 8], [8, 20, 22]), ([8, 23, 2], [2, 8, 23]), ([2, 24], [2, 24])])
def profile_Fit.B9 : List Nat := [0, 1, 3, 7, 15, 7, 39, 127, 255, 511, 511, 1535, 4095, 8191, 16383, 511, 511, 98815, 229887, 492031, 1048575, 511, 2097663, 8388607, 16777215, 33554431]
theorem profile_Fit.tab9 : rtab .any (opsOf Try.f17 9) = profile_Fit.T9 := by kernel_rfl
theorem profile_Fit.bits9 : waitsOk profile_Fit.T9.2 profile_Fit.B9 = true := by kernel_rfl
set_option maxHeartbeats 8000000 in
set_option maxRecDepth 100000 in
theorem profile_Fit.calls (k : Nat) (A0 : Option Addr) (c0 : Nat) (l0 : List (S40)) (a1 : Int) (a2 : Int) (r1 : Int) (r2 : Bool) (w : World) (hr0 : Kd.C k40 w A0 l0.length l0) (hc0 : l0.length ≤ c0) (h : profile_Fit.f k l0 a1 a2 = some (r1, r2)) :
  Calls Try.prog 17 #[.slice A0 l0.length c0, .int .i64 a1, .int .i64 a2] w fun e w' => e = .returned (.tuple #[.int .i64 r1, .bool r2]) ∧ Below w.heap.size w w' := by
 have hu40 := Try.underlying40
 have HR0 := Aside0.mk hr0
 have HC0 := Aside0.mk hc0
 clear hr0; clear hc0
 have HB := Aside0.mk (Below.refl w.heap.size w)
 have H : (profile_Fit.l0 k l0 a1 a2 (-1) l0 (l0.length : Int) 0) = some (r1, r2) := h
 clear h
 have H' := Aside0.mk H
 clear H
 go_enter Try.func17, Try.ntmps17
 go_wp2
 go_loopg [8, 13] k (fun kq v8 v13 w' => ∃ (x8_1 : Int) (x13_1 : Int), v8 = .int .i64 x8_1 ∧ v13 = .int .i64 x13_1 ∧ Aside0 (profile_Fit.l0 kq l0 a1 a2 x8_1 l0 (l0.length : Int) x13_1 = some (r1, r2)) ∧ Aside0 (kq ≤ k) ∧ Aside0 (Below w.heap.size w w'))
 case atStart => exact ⟨((-1)), (0), ez, ez, H', ⟨Nat.le_refl _⟩, ⟨mB HB.out⟩⟩
 case round =>
  clear H'
  (try clear c1); (try clear p2)
  obtain ⟨x8_1, x13_1, rfl, rfl, HA, HK1, HB⟩ := hrel
  cases gk with
  | zero => exact absurd HA.out (by simp [profile_Fit.l0])
  | succ k1 =>
   have H := HA.out
   clear HA
   simp only [profile_Fit.l0] at H
   by_cases c4 : x13_1 < (l0.length : Int)
   ·rw [if_pos c4] at H
    have c4b0 : decide (x13_1 < (l0.length : Int)) = true := decide_eq_true c4
    clear c4
    by_cases c5 : 0 ≤ x13_1
    ·rw [if_pos c5] at H
     have c5b0 : decide (0 ≤ x13_1) = true := decide_eq_true c5
     clear c5
     by_cases c6 : x13_1 < (l0.length : Int)
     ·rw [if_pos c6] at H
      have c6b0 : decide (x13_1 < (l0.length : Int)) = true := decide_eq_true c6
      clear c6
      by_cases c7 : ((rd_T40 l0 x13_1).f1) < a1
      ·rw [if_pos c7] at H
       have c7b0 : decide (((rd_T40 l0 x13_1).f1) < a1) = true := decide_eq_true c7
       clear c7
       by_cases c8 : (-1) ≥ 0
       · exact absurd c8 (by decide)
       ·rw [if_neg c8] at H
        have c8b0 : decide (0 ≤ (-1)) = false := decide_eq_false c8
        clear c8
        have H' := Aside0.mk H
        clear H
        have p252 : 0 ≤ (x13_1 : Int) := oda
        have q252 : x13_1 < (l0.length : Int) := oda
        obtain ⟨ad252, e252, hx252_0, hx252_1⟩ := at_T40 HR0.out x13_1 p252 q252
        cases e252
        replace hx252_0 := (HB.out.cell (World.block_lt_of_cell? w _ hx252_0)).trans hx252_0
        replace hx252_1 := (HB.out.cell (World.block_lt_of_cell? w _ hx252_1)).trans hx252_1
        replace p252 := eq_true p252
        replace q252 := eq_true q252
        try go_wp2_with (first | ((with_reducible refine gate_dst (N := 10) rfl ?_); refine box_event ?hg (N := 10) ?hd (cs := #[.int .i64 0, .int .i64 0]) (t := 40) ?hr ?_; (case hd => rfl); (case hg => rfl); (case hr => first | (go_simp; done) | (go_simp; rfl)); intro gb253 hg w31 hbox hb; have n0_ := Aside0.mk (below_step (mB HB.out) hb); have n1_ := Aside0.mk (hbox); have n2_ := Aside0.mk ((by rw [hg]; exact (below_size (mB HB.out)) : w.heap.size ≤ gb253)); have n3_ := Aside0.mk ((by rw [hg]; exact (below_size (mB HB.out)) : w.heap.size ≤ gb253)); clear HB; have HB := n0_; have BK253 := n1_; have GW253 := n2_; have GE253 := n3_; clear n0_ n1_ n2_ n3_; clear hb hbox hg; have hcz32_0 : w31.cell? ⟨gb253, 0, none⟩ = some (.int .i64 0) := (blk_cell BK253.out 0).trans rfl; have hcz32_1 : w31.cell? ⟨gb253, 1, none⟩ = some (.int .i64 0) := (blk_cell BK253.out 1).trans rfl; have hfz32_0 := blk_frozen BK253.out 0; have hfz32_1 := blk_frozen BK253.out 1))
        have n0_ : Aside0 (((w31.setCell ⟨gb253, 0, none⟩ (.int .i64 ((rd_T40 l0 x13_1).f0))).setCell ⟨gb253, 1, none⟩ (.int .i64 ((rd_T40 l0 x13_1).f1))).heap[gb253]? = some (.cells #[.int .i64 ((rd_T40 l0 x13_1).f0), .int .i64 ((rd_T40 l0 x13_1).f1)] 40 (0, 0))) := ⟨by (with_reducible repeat (first | refine blk_drewN ?_ _ | refine blk_drew ?_ | refine blk_alloc ?_ _)); refine blk_put (cs := #[.int .i64 ((rd_T40 l0 x13_1).f0), .int .i64 0]) ?_ 1 _ rfl; (with_reducible repeat (first | refine blk_drewN ?_ _ | refine blk_drew ?_ | refine blk_alloc ?_ _)); refine blk_put (cs := #[.int .i64 0, .int .i64 0]) ?_ 0 _ rfl; (with_reducible repeat (first | refine blk_drewN ?_ _ | refine blk_drew ?_ | refine blk_alloc ?_ _)); exact BK253.out⟩
        have n1_ : Aside0 (Below w.heap.size w ((w31.setCell ⟨gb253, 0, none⟩ (.int .i64 ((rd_T40 l0 x13_1).f0))).setCell ⟨gb253, 1, none⟩ (.int .i64 ((rd_T40 l0 x13_1).f1)))) := ⟨mBs HB.out⟩
        (try clear BK253); (try clear HB)
        generalize ((w31.setCell ⟨gb253, 0, none⟩ (.int .i64 ((rd_T40 l0 x13_1).f0))).setCell ⟨gb253, 1, none⟩ (.int .i64 ((rd_T40 l0 x13_1).f1))) = w33 at n0_ n1_ ⊢
        have BK253 := n0_
        have HB := n1_
        clear n0_; clear n1_
        have n0_ := Aside0.mk (blk_drew BK253.out)
        have n1_ := Aside0.mk (below_drew1 HB.out)
        clear BK253; clear HB
        have BK253 := n0_
        have HB := n1_
        clear n0_; clear n1_
        refine start_ (n := 26) (S := fun w' => True) (ds := []) #[false, false, false, false, false, false, false, false, false, false, false, false, false, false, false, false, false, false, false, false, false, false, false, false, false, false] (by kernel_rfl) rfl rfl trivial (fun hHeld => ?_); refine with_tabW profile_Fit.tab9 profile_Fit.bits9 (fun HT_ HW_ => ?_)
        generalize w33.drew = w34 at BK253 HB hHeld ⊢
        refine plan_ [(0, 27), (1, 28), (2, 29)] ?_
        iterate 3 (refine planP_ (v := ?_) (a' := ?_) rfl rfl (any_of HT_.out (by kernel_rfl)) (fun _ _ _ h => h) (Or.inl ⟨by rfl, ?_⟩) ?_ ?_; rotate_left; (intro w'; go_simp; with_reducible rfl); rotate_left; (simp only [Act.put, List.setIfInBounds_toArray, List.set_cons_zero, List.set_cons_succ, i64_w, i32_w]; rfl))
        refine planEnd_ ?_
        refine plan_ [(3, 30), (4, 31), (5, 32), (6, 33), (7, 34), (8, 35), (9, 36), (10, 37), (11, 38), (12, 39), (13, 40), (14, 41), (15, 42), (16, 43), (17, 44), (18, 45), (19, 46), (20, 47), (21, 48), (22, 49), (23, 50), (24, 51)] ?_
        iterate 22 (refine planP_ (v := undef) (a' := ?_) rfl rfl (any_of HT_.out (by kernel_rfl)) (fun _ _ _ h => h) (Or.inr ⟨by rfl, rfl⟩) ?_ ?_; rotate_left; (simp only [Act.put, List.setIfInBounds_toArray, List.set_cons_zero, List.set_cons_succ, i64_w, i32_w]; rfl))
        refine planEnd_ ?_
        refine plan_ [(25, 52)] ?_
        refine planP_ (v := ?_) (a' := ?_) rfl rfl (any_of HT_.out (by kernel_rfl)) (fun _ _ _ h => h) (Or.inl ⟨by rfl, ?_⟩) ?_ ?_; rotate_left; (intro w'; go_simp; with_reducible rfl); rotate_left; (simp only [Act.put, List.setIfInBounds_toArray, List.set_cons_zero, List.set_cons_succ, i64_w, i32_w]; rfl)
        refine planEnd_ ?_
        refine done_ (done_of HT_.out (by kernel_rfl)) ?_
        try go_wp2
        go_roundg k1
        case measure => have := HK1.out; omega
        case rel => exact ⟨((-1)), (wrap64 (x13_1 + 1)), ez, ez, H', ⟨by have := HK1.out; omega⟩, ⟨mBs HB.out⟩⟩
      ·rw [if_neg c7] at H
       have c7b0 : decide (((rd_T40 l0 x13_1).f1) < a1) = false := decide_eq_false c7
       clear c7
       by_cases c35 : x8_1 < 0
       ·rw [if_pos c35] at H
        have c35b0 : decide (x8_1 < 0) = true := decide_eq_true c35
        clear c35
        by_cases c36 : x13_1 ≥ 0
        ·rw [if_pos c36] at H
         have c36b0 : decide (0 ≤ x13_1) = true := decide_eq_true c36
         clear c36
         by_cases c37 : (wrap64 (x13_1 + 1)) = (l0.length : Int)
         ·rw [if_pos c37] at H
          have c37b0 : ((wrap64 (x13_1 + 1)) == (l0.length : Int)) = true := beq_iff_eq.mpr c37
          have c37b1 : ((wrap64 (x13_1 + 1)) != (l0.length : Int)) = false := bne_eq_false_iff_eq.mpr c37
          clear c37
          by_cases c38 : x13_1 < (l0.length : Int)
          ·rw [if_pos c38] at H
           have c38b0 : decide (x13_1 < (l0.length : Int)) = true := decide_eq_true c38
           clear c38
           simp only [Option.some.injEq, Prod.mk.injEq] at H
           obtain ⟨rfl, rfl⟩ := H
           have p252 : 0 ≤ (x13_1 : Int) := oda
           have q252 : x13_1 < (l0.length : Int) := oda
           obtain ⟨ad252, e252, hx252_0, hx252_1⟩ := at_T40 HR0.out x13_1 p252 q252
           cases e252
           replace hx252_0 := (HB.out.cell (World.block_lt_of_cell? w _ hx252_0)).trans hx252_0
           replace hx252_1 := (HB.out.cell (World.block_lt_of_cell? w _ hx252_1)).trans hx252_1
           replace p252 := eq_true p252
           replace q252 := eq_true q252
           try go_wp2_with (first | ((with_reducible refine gate_dst (N := 10) rfl ?_); refine box_event ?hg (N := 10) ?hd (cs := #[.int .i64 0, .int .i64 0]) (t := 40) ?hr ?_; (case hd => rfl); (case hg => rfl); (case hr => first | (go_simp; done) | (go_simp; rfl)); intro gb253 hg w39 hbox hb; have n0_ := Aside0.mk (below_step (mB HB.out) hb); have n1_ := Aside0.mk (hbox); have n2_ := Aside0.mk ((by rw [hg]; exact (below_size (mB HB.out)) : w.heap.size ≤ gb253)); have n3_ := Aside0.mk ((by rw [hg]; exact (below_size (mB HB.out)) : w.heap.size ≤ gb253)); clear HB; have HB := n0_; have BK253 := n1_; have GW253 := n2_; have GE253 := n3_; clear n0_ n1_ n2_ n3_; clear hb hbox hg; have hcz40_0 : w39.cell? ⟨gb253, 0, none⟩ = some (.int .i64 0) := (blk_cell BK253.out 0).trans rfl; have hcz40_1 : w39.cell? ⟨gb253, 1, none⟩ = some (.int .i64 0) := (blk_cell BK253.out 1).trans rfl; have hfz40_0 := blk_frozen BK253.out 0; have hfz40_1 := blk_frozen BK253.out 1))
           have n0_ : Aside0 (((w39.setCell ⟨gb253, 0, none⟩ (.int .i64 ((rd_T40 l0 x13_1).f0))).setCell ⟨gb253, 1, none⟩ (.int .i64 ((rd_T40 l0 x13_1).f1))).heap[gb253]? = some (.cells #[.int .i64 ((rd_T40 l0 x13_1).f0), .int .i64 ((rd_T40 l0 x13_1).f1)] 40 (0, 0))) := ⟨by (with_reducible repeat (first | refine blk_drewN ?_ _ | refine blk_drew ?_ | refine blk_alloc ?_ _)); refine blk_put (cs := #[.int .i64 ((rd_T40 l0 x13_1).f0), .int .i64 0]) ?_ 1 _ rfl; (with_reducible repeat (first | refine blk_drewN ?_ _ | refine blk_drew ?_ | refine blk_alloc ?_ _)); refine blk_put (cs := #[.int .i64 0, .int .i64 0]) ?_ 0 _ rfl; (with_reducible repeat (first | refine blk_drewN ?_ _ | refine blk_drew ?_ | refine blk_alloc ?_ _)); exact BK253.out⟩
           have n1_ : Aside0 (Below w.heap.size w ((w39.setCell ⟨gb253, 0, none⟩ (.int .i64 ((rd_T40 l0 x13_1).f0))).setCell ⟨gb253, 1, none⟩ (.int .i64 ((rd_T40 l0 x13_1).f1)))) := ⟨mBs HB.out⟩
           (try clear BK253); (try clear HB)
           generalize ((w39.setCell ⟨gb253, 0, none⟩ (.int .i64 ((rd_T40 l0 x13_1).f0))).setCell ⟨gb253, 1, none⟩ (.int .i64 ((rd_T40 l0 x13_1).f1))) = w41 at n0_ n1_ ⊢
           have BK253 := n0_
           have HB := n1_
           clear n0_; clear n1_
           have n0_ := Aside0.mk (blk_drew BK253.out)
           have n1_ := Aside0.mk (below_drew1 HB.out)
           clear BK253; clear HB
           have BK253 := n0_
           have HB := n1_
           clear n0_; clear n1_
           refine start_ (n := 26) (S := fun w' => True) (ds := []) #[false, false, false, false, false, false, false, false, false, false, false, false, false, false, false, false, false, false, false, false, false, false, false, false, false, false] (by kernel_rfl) rfl rfl trivial (fun hHeld => ?_); refine with_tabW profile_Fit.tab9 profile_Fit.bits9 (fun HT_ HW_ => ?_)
           generalize w41.drew = w42 at BK253 HB hHeld ⊢
           refine plan_ [(0, 27), (1, 28), (2, 29), (3, 30), (4, 31), (5, 32), (6, 33), (7, 34), (8, 35)] ?_
           iterate 9 (refine planP_ (v := ?_) (a' := ?_) rfl rfl (any_of HT_.out (by kernel_rfl)) (fun _ _ _ h => h) (Or.inl ⟨by rfl, ?_⟩) ?_ ?_; rotate_left; (intro w'; go_simp; with_reducible rfl); rotate_left; (simp only [Act.put, List.setIfInBounds_toArray, List.set_cons_zero, List.set_cons_succ, i64_w, i32_w]; rfl))
           refine planEnd_ ?_
           refine plan_ [(9, 36), (10, 37), (11, 38), (12, 39), (13, 40), (14, 41), (15, 42), (16, 43), (17, 44), (18, 45), (19, 46), (20, 47), (21, 48), (22, 49), (23, 50)] ?_
           iterate 15 (refine planP_ (v := undef) (a' := ?_) rfl rfl (any_of HT_.out (by kernel_rfl)) (fun _ _ _ h => h) (Or.inr ⟨by rfl, rfl⟩) ?_ ?_; rotate_left; (simp only [Act.put, List.setIfInBounds_toArray, List.set_cons_zero, List.set_cons_succ, i64_w, i32_w]; rfl))
           refine planEnd_ ?_
           refine plan_ [(24, 51), (25, 52)] ?_
           iterate 2 (refine planP_ (v := ?_) (a' := ?_) rfl rfl (any_of HT_.out (by kernel_rfl)) (fun _ _ _ h => h) (Or.inl ⟨by rfl, ?_⟩) ?_ ?_; rotate_left; (intro w'; go_simp; with_reducible rfl); rotate_left; (simp only [Act.put, List.setIfInBounds_toArray, List.set_cons_zero, List.set_cons_succ, i64_w, i32_w]; rfl))
           refine planEnd_ ?_
           refine done_ (done_of HT_.out (by kernel_rfl)) ?_
           have p258 : 0 ≤ (x13_1 : Int) := oda
           have q258 : x13_1 < (l0.length : Int) := oda
           obtain ⟨ad258, e258, hx258_0, hx258_1⟩ := at_T40 HR0.out x13_1 p258 q258
           obtain rfl : ad252 = ad258 := (by injection e258)
           replace hx258_0 := (HB.out.cell (World.block_lt_of_cell? w _ hx258_0)).trans hx258_0
           replace hx258_1 := (HB.out.cell (World.block_lt_of_cell? w _ hx258_1)).trans hx258_1
           replace p258 := eq_true p258
           replace q258 := eq_true q258
           try go_wp2
           go_ret2
           exact ⟨by first | rfl | (simp [errW_none, errW_some] <;> rfl) | (simp [*, errW_none, errW_some] <;> rfl), by repeat (first | (with_reducible first | exact HB.out | apply below_alloc | apply pw_below_drewN | apply below_drew1 | refine below_set ?_ GE253.out) | exact HB.out)⟩
          · exact absurd (of_decide_eq_true c4b0) c38
         ·rw [if_neg c37] at H
          have c37b0 : ((wrap64 (x13_1 + 1)) == (l0.length : Int)) = false := beq_eq_false_iff_ne.mpr c37
          have c37b1 : ((wrap64 (x13_1 + 1)) != (l0.length : Int)) = true := bne_iff_ne.mpr c37
          obtain ⟨ji43, hji43⟩ : ∃ j_ : Int, (wrap64 (x13_1 + 1)) = j_ := ⟨_, rfl⟩
          replace H : (if 0 ≤ (ji43) then (if (ji43) < (l0.length : Int) then (if x13_1 < (l0.length : Int) then (if (wrap64 (((rd_T40 l0 (ji43)).f0) - ((rd_T40 l0 x13_1).f0))) ≥ (mx a2 1) then (some ((rd_T40 l0 x13_1).f0, true)) else (profile_Fit.l0 k1 l0 a1 a2 x13_1 l0 (l0.length : Int) ji43)) else (none)) else (none)) else (none)) = some (r1, r2) := by first | (rw [hji43] at H; exact H) | (simp only [hji43] at H ⊢; exact H)
          (try rw [hji43] at c37b0)
          (try rw [hji43] at c37b1)
          have hji43w : (IntKind.i64.wrap (x13_1 + 1)) = ji43 := (i64_w _).trans hji43
          by_cases c44 : 0 ≤ (ji43)
          ·rw [if_pos c44] at H
           have c44b0 : decide (0 ≤ (ji43)) = true := decide_eq_true c44
           clear c44
           by_cases c45 : (ji43) < (l0.length : Int)
           ·rw [if_pos c45] at H
            have c45b0 : decide ((ji43) < (l0.length : Int)) = true := decide_eq_true c45
            clear c45
            by_cases c46 : x13_1 < (l0.length : Int)
            ·rw [if_pos c46] at H
             have c46b0 : decide (x13_1 < (l0.length : Int)) = true := decide_eq_true c46
             clear c46
             obtain ⟨ji47, hji47⟩ : ∃ j_ : Int, (mx a2 1) = j_ := ⟨_, rfl⟩
             replace H : (if (wrap64 (((rd_T40 l0 (ji43)).f0) - ((rd_T40 l0 x13_1).f0))) ≥ (ji47) then (some ((rd_T40 l0 x13_1).f0, true)) else (profile_Fit.l0 k1 l0 a1 a2 x13_1 l0 (l0.length : Int) ji43)) = some (r1, r2) := by first | (rw [hji47] at H; exact H) | (simp only [hji47] at H ⊢; exact H)
             have hji47_ : (if a2 < 1 then 1 else a2) = ji47 := hji47
             by_cases c48 : (wrap64 (((rd_T40 l0 (ji43)).f0) - ((rd_T40 l0 x13_1).f0))) ≥ (ji47)
             ·rw [if_pos c48] at H
              have c48b0 : decide ((ji47) ≤ (wrap64 (((rd_T40 l0 (ji43)).f0) - ((rd_T40 l0 x13_1).f0)))) = true := decide_eq_true c48
              clear c48
              simp only [Option.some.injEq, Prod.mk.injEq] at H
              obtain ⟨rfl, rfl⟩ := H
              have p252 : 0 ≤ (x13_1 : Int) := oda
              have q252 : x13_1 < (l0.length : Int) := oda
              obtain ⟨ad252, e252, hx252_0, hx252_1⟩ := at_T40 HR0.out x13_1 p252 q252
              cases e252
              replace hx252_0 := (HB.out.cell (World.block_lt_of_cell? w _ hx252_0)).trans hx252_0
              replace hx252_1 := (HB.out.cell (World.block_lt_of_cell? w _ hx252_1)).trans hx252_1
              replace p252 := eq_true p252
              replace q252 := eq_true q252
              try go_wp2_with (first | ((with_reducible refine gate_dst (N := 10) rfl ?_); refine box_event ?hg (N := 10) ?hd (cs := #[.int .i64 0, .int .i64 0]) (t := 40) ?hr ?_; (case hd => rfl); (case hg => rfl); (case hr => first | (go_simp; done) | (go_simp; rfl)); intro gb253 hg w49 hbox hb; have n0_ := Aside0.mk (below_step (mB HB.out) hb); have n1_ := Aside0.mk (hbox); have n2_ := Aside0.mk ((by rw [hg]; exact (below_size (mB HB.out)) : w.heap.size ≤ gb253)); have n3_ := Aside0.mk ((by rw [hg]; exact (below_size (mB HB.out)) : w.heap.size ≤ gb253)); clear HB; have HB := n0_; have BK253 := n1_; have GW253 := n2_; have GE253 := n3_; clear n0_ n1_ n2_ n3_; clear hb hbox hg; have hcz50_0 : w49.cell? ⟨gb253, 0, none⟩ = some (.int .i64 0) := (blk_cell BK253.out 0).trans rfl; have hcz50_1 : w49.cell? ⟨gb253, 1, none⟩ = some (.int .i64 0) := (blk_cell BK253.out 1).trans rfl; have hfz50_0 := blk_frozen BK253.out 0; have hfz50_1 := blk_frozen BK253.out 1))
              have n0_ : Aside0 (((w49.setCell ⟨gb253, 0, none⟩ (.int .i64 ((rd_T40 l0 x13_1).f0))).setCell ⟨gb253, 1, none⟩ (.int .i64 ((rd_T40 l0 x13_1).f1))).heap[gb253]? = some (.cells #[.int .i64 ((rd_T40 l0 x13_1).f0), .int .i64 ((rd_T40 l0 x13_1).f1)] 40 (0, 0))) := ⟨by (with_reducible repeat (first | refine blk_drewN ?_ _ | refine blk_drew ?_ | refine blk_alloc ?_ _)); refine blk_put (cs := #[.int .i64 ((rd_T40 l0 x13_1).f0), .int .i64 0]) ?_ 1 _ rfl; (with_reducible repeat (first | refine blk_drewN ?_ _ | refine blk_drew ?_ | refine blk_alloc ?_ _)); refine blk_put (cs := #[.int .i64 0, .int .i64 0]) ?_ 0 _ rfl; (with_reducible repeat (first | refine blk_drewN ?_ _ | refine blk_drew ?_ | refine blk_alloc ?_ _)); exact BK253.out⟩
              have n1_ : Aside0 (Below w.heap.size w ((w49.setCell ⟨gb253, 0, none⟩ (.int .i64 ((rd_T40 l0 x13_1).f0))).setCell ⟨gb253, 1, none⟩ (.int .i64 ((rd_T40 l0 x13_1).f1)))) := ⟨mBs HB.out⟩
              (try clear BK253); (try clear HB)
              generalize ((w49.setCell ⟨gb253, 0, none⟩ (.int .i64 ((rd_T40 l0 x13_1).f0))).setCell ⟨gb253, 1, none⟩ (.int .i64 ((rd_T40 l0 x13_1).f1))) = w51 at n0_ n1_ ⊢
              have BK253 := n0_
              have HB := n1_
              clear n0_; clear n1_
              have n0_ := Aside0.mk (blk_drew BK253.out)
              have n1_ := Aside0.mk (below_drew1 HB.out)
              clear BK253; clear HB
              have BK253 := n0_
              have HB := n1_
              clear n0_; clear n1_
              have p259 : 0 ≤ ((ji43) : Int) := oda
              have q259 : (ji43) < (l0.length : Int) := oda
              obtain ⟨ad259, e259, hx259_0, hx259_1⟩ := at_T40 HR0.out (ji43) p259 q259
              have hw259_1 := hx259_1
              have hw259_0 := hx259_0
              obtain rfl : ad252 = ad259 := (by injection e259)
              replace hx259_0 := (HB.out.cell (World.block_lt_of_cell? w _ hx259_0)).trans hx259_0
              replace hx259_1 := (HB.out.cell (World.block_lt_of_cell? w _ hx259_1)).trans hx259_1
              replace p259 := eq_true p259
              replace q259 := eq_true q259
              have p260 : 0 ≤ (x13_1 : Int) := oda
              have q260 : x13_1 < (l0.length : Int) := oda
              obtain ⟨ad260, e260, hx260_0, hx260_1⟩ := at_T40 HR0.out x13_1 p260 q260
              have hw260_1 := hx260_1
              have hw260_0 := hx260_0
              obtain rfl : ad252 = ad260 := (by injection e260)
              replace hx260_0 := (HB.out.cell (World.block_lt_of_cell? w _ hx260_0)).trans hx260_0
              replace hx260_1 := (HB.out.cell (World.block_lt_of_cell? w _ hx260_1)).trans hx260_1
              replace p260 := eq_true p260
              replace q260 := eq_true q260
              refine start_ (n := 26) (S := fun w' => w'.cell? (ad252.add (((ji43)).toNat * 2)) = some (.int .i64 ((rd_T40 l0 (ji43)).f0)) ∧ w'.cell? ⟨(ad252.add (((ji43)).toNat * 2)).block, (ad252.add (((ji43)).toNat * 2)).off + 1, none⟩ = some (.int .i64 ((rd_T40 l0 (ji43)).f1)) ∧ w'.cell? (ad252.add ((x13_1).toNat * 2)) = some (.int .i64 ((rd_T40 l0 x13_1).f0)) ∧ w'.cell? ⟨(ad252.add ((x13_1).toNat * 2)).block, (ad252.add ((x13_1).toNat * 2)).off + 1, none⟩ = some (.int .i64 ((rd_T40 l0 x13_1).f1))) (ds := []) #[false, false, false, false, false, false, false, false, false, false, false, false, false, false, false, false, false, false, false, false, false, false, false, false, false, false] (by kernel_rfl) rfl rfl ⟨((HB.out.cell (World.block_lt_of_cell? w _ hw259_0)).trans hw259_0), ((HB.out.cell (World.block_lt_of_cell? w _ hw259_1)).trans hw259_1), ((HB.out.cell (World.block_lt_of_cell? w _ hw260_0)).trans hw260_0), ((HB.out.cell (World.block_lt_of_cell? w _ hw260_1)).trans hw260_1)⟩ (fun hHeld => ?_); refine with_tabW profile_Fit.tab9 profile_Fit.bits9 (fun HT_ HW_ => ?_)
              generalize w51.drew = w52 at BK253 HB hx259_0 hx259_1 hx260_0 hx260_1 hHeld ⊢
              refine plan_ [(0, 27), (1, 28), (2, 29), (3, 30), (4, 31), (5, 32), (6, 33), (7, 34), (8, 35), (9, 36), (10, 37), (11, 38), (12, 39), (13, 40), (15, 42), (16, 43), (17, 44), (18, 45), (21, 48), (22, 49)] ?_
              iterate 20 (refine planP_ (v := ?_) (a' := ?_) rfl rfl (any_of HT_.out (by kernel_rfl)) (fun _ _ _ h => h) (Or.inl ⟨by rfl, ?_⟩) ?_ ?_; rotate_left; (intro w'; go_simp; with_reducible rfl); rotate_left; (simp only [Act.put, List.setIfInBounds_toArray, List.set_cons_zero, List.set_cons_succ, i64_w, i32_w]; rfl))
              refine planEnd_ ?_
              refine plan_ [(14, 41), (19, 46)] ?_
              iterate 2 (refine planT_ (v := ?_) (a' := ?_) rfl rfl (take_ofW HT_.out HW_.out (by kernel_rfl)) (fun _ _ _ h => h) (Or.inl ⟨by rfl, ?_⟩) hHeld ?_ ?_; rotate_left; (rintro w' ⟨s0, s1, s2, s3⟩; go_simp; with_reducible rfl); rotate_left; (simp only [Act.put, List.setIfInBounds_toArray, List.set_cons_zero, List.set_cons_succ, i64_w, i32_w]; rfl))
              refine planEnd_ ?_
              refine plan_ [(20, 47), (23, 50), (24, 51), (25, 52)] ?_
              iterate 4 (refine planP_ (v := ?_) (a' := ?_) rfl rfl (any_of HT_.out (by kernel_rfl)) (fun _ _ _ h => h) (Or.inl ⟨by rfl, ?_⟩) ?_ ?_; rotate_left; (intro w'; go_simp; with_reducible rfl); rotate_left; (simp only [Act.put, List.setIfInBounds_toArray, List.set_cons_zero, List.set_cons_succ, i64_w, i32_w]; rfl))
              refine planEnd_ ?_
              refine done_ (done_of HT_.out (by kernel_rfl)) ?_
              have p261 : 0 ≤ (x13_1 : Int) := oda
              have q261 : x13_1 < (l0.length : Int) := oda
              obtain ⟨ad261, e261, hx261_0, hx261_1⟩ := at_T40 HR0.out x13_1 p261 q261
              obtain rfl : ad252 = ad261 := (by injection e261)
              replace hx261_0 := (HB.out.cell (World.block_lt_of_cell? w _ hx261_0)).trans hx261_0
              replace hx261_1 := (HB.out.cell (World.block_lt_of_cell? w _ hx261_1)).trans hx261_1
              replace p261 := eq_true p261
              replace q261 := eq_true q261
              try go_wp2
              go_ret2
              exact ⟨by first | rfl | (simp [errW_none, errW_some] <;> rfl) | (simp only [← hji43, ← hji47]; first | rfl | (simp [errW_none, errW_some] <;> rfl)) | (simp [*, errW_none, errW_some] <;> rfl), by repeat (first | (with_reducible first | exact HB.out | apply below_alloc | apply pw_below_drewN | apply below_drew1 | refine below_set ?_ GE253.out) | exact HB.out)⟩
             ·rw [if_neg c48] at H
              have c48b0 : decide ((ji47) ≤ (wrap64 (((rd_T40 l0 (ji43)).f0) - ((rd_T40 l0 x13_1).f0)))) = false := decide_eq_false c48
              clear c48
              have H' := Aside0.mk H
              clear H
              have p252 : 0 ≤ (x13_1 : Int) := oda
              have q252 : x13_1 < (l0.length : Int) := oda
              obtain ⟨ad252, e252, hx252_0, hx252_1⟩ := at_T40 HR0.out x13_1 p252 q252
              cases e252
              replace hx252_0 := (HB.out.cell (World.block_lt_of_cell? w _ hx252_0)).trans hx252_0
              replace hx252_1 := (HB.out.cell (World.block_lt_of_cell? w _ hx252_1)).trans hx252_1
              replace p252 := eq_true p252
              replace q252 := eq_true q252
              try go_wp2_with (first | ((with_reducible refine gate_dst (N := 10) rfl ?_); refine box_event ?hg (N := 10) ?hd (cs := #[.int .i64 0, .int .i64 0]) (t := 40) ?hr ?_; (case hd => rfl); (case hg => rfl); (case hr => first | (go_simp; done) | (go_simp; rfl)); intro gb253 hg w53 hbox hb; have n0_ := Aside0.mk (below_step (mB HB.out) hb); have n1_ := Aside0.mk (hbox); have n2_ := Aside0.mk ((by rw [hg]; exact (below_size (mB HB.out)) : w.heap.size ≤ gb253)); have n3_ := Aside0.mk ((by rw [hg]; exact (below_size (mB HB.out)) : w.heap.size ≤ gb253)); clear HB; have HB := n0_; have BK253 := n1_; have GW253 := n2_; have GE253 := n3_; clear n0_ n1_ n2_ n3_; clear hb hbox hg; have hcz54_0 : w53.cell? ⟨gb253, 0, none⟩ = some (.int .i64 0) := (blk_cell BK253.out 0).trans rfl; have hcz54_1 : w53.cell? ⟨gb253, 1, none⟩ = some (.int .i64 0) := (blk_cell BK253.out 1).trans rfl; have hfz54_0 := blk_frozen BK253.out 0; have hfz54_1 := blk_frozen BK253.out 1))
              have n0_ : Aside0 (((w53.setCell ⟨gb253, 0, none⟩ (.int .i64 ((rd_T40 l0 x13_1).f0))).setCell ⟨gb253, 1, none⟩ (.int .i64 ((rd_T40 l0 x13_1).f1))).heap[gb253]? = some (.cells #[.int .i64 ((rd_T40 l0 x13_1).f0), .int .i64 ((rd_T40 l0 x13_1).f1)] 40 (0, 0))) := ⟨by (with_reducible repeat (first | refine blk_drewN ?_ _ | refine blk_drew ?_ | refine blk_alloc ?_ _)); refine blk_put (cs := #[.int .i64 ((rd_T40 l0 x13_1).f0), .int .i64 0]) ?_ 1 _ rfl; (with_reducible repeat (first | refine blk_drewN ?_ _ | refine blk_drew ?_ | refine blk_alloc ?_ _)); refine blk_put (cs := #[.int .i64 0, .int .i64 0]) ?_ 0 _ rfl; (with_reducible repeat (first | refine blk_drewN ?_ _ | refine blk_drew ?_ | refine blk_alloc ?_ _)); exact BK253.out⟩
              have n1_ : Aside0 (Below w.heap.size w ((w53.setCell ⟨gb253, 0, none⟩ (.int .i64 ((rd_T40 l0 x13_1).f0))).setCell ⟨gb253, 1, none⟩ (.int .i64 ((rd_T40 l0 x13_1).f1)))) := ⟨mBs HB.out⟩
              (try clear BK253); (try clear HB)
              generalize ((w53.setCell ⟨gb253, 0, none⟩ (.int .i64 ((rd_T40 l0 x13_1).f0))).setCell ⟨gb253, 1, none⟩ (.int .i64 ((rd_T40 l0 x13_1).f1))) = w55 at n0_ n1_ ⊢
              have BK253 := n0_
              have HB := n1_
              clear n0_; clear n1_
              have n0_ := Aside0.mk (blk_drew BK253.out)
              have n1_ := Aside0.mk (below_drew1 HB.out)
              clear BK253; clear HB
              have BK253 := n0_
              have HB := n1_
              clear n0_; clear n1_
              have p259 : 0 ≤ ((ji43) : Int) := oda
              have q259 : (ji43) < (l0.length : Int) := oda
              obtain ⟨ad259, e259, hx259_0, hx259_1⟩ := at_T40 HR0.out (ji43) p259 q259
              have hw259_1 := hx259_1
              have hw259_0 := hx259_0
              obtain rfl : ad252 = ad259 := (by injection e259)
              replace hx259_0 := (HB.out.cell (World.block_lt_of_cell? w _ hx259_0)).trans hx259_0
              replace hx259_1 := (HB.out.cell (World.block_lt_of_cell? w _ hx259_1)).trans hx259_1
              replace p259 := eq_true p259
              replace q259 := eq_true q259
              have p260 : 0 ≤ (x13_1 : Int) := oda
              have q260 : x13_1 < (l0.length : Int) := oda
              obtain ⟨ad260, e260, hx260_0, hx260_1⟩ := at_T40 HR0.out x13_1 p260 q260
              have hw260_1 := hx260_1
              have hw260_0 := hx260_0
              obtain rfl : ad252 = ad260 := (by injection e260)
              replace hx260_0 := (HB.out.cell (World.block_lt_of_cell? w _ hx260_0)).trans hx260_0
              replace hx260_1 := (HB.out.cell (World.block_lt_of_cell? w _ hx260_1)).trans hx260_1
              replace p260 := eq_true p260
              replace q260 := eq_true q260
              refine start_ (n := 26) (S := fun w' => w'.cell? (ad252.add (((ji43)).toNat * 2)) = some (.int .i64 ((rd_T40 l0 (ji43)).f0)) ∧ w'.cell? ⟨(ad252.add (((ji43)).toNat * 2)).block, (ad252.add (((ji43)).toNat * 2)).off + 1, none⟩ = some (.int .i64 ((rd_T40 l0 (ji43)).f1)) ∧ w'.cell? (ad252.add ((x13_1).toNat * 2)) = some (.int .i64 ((rd_T40 l0 x13_1).f0)) ∧ w'.cell? ⟨(ad252.add ((x13_1).toNat * 2)).block, (ad252.add ((x13_1).toNat * 2)).off + 1, none⟩ = some (.int .i64 ((rd_T40 l0 x13_1).f1))) (ds := []) #[false, false, false, false, false, false, false, false, false, false, false, false, false, false, false, false, false, false, false, false, false, false, false, false, false, false] (by kernel_rfl) rfl rfl ⟨((HB.out.cell (World.block_lt_of_cell? w _ hw259_0)).trans hw259_0), ((HB.out.cell (World.block_lt_of_cell? w _ hw259_1)).trans hw259_1), ((HB.out.cell (World.block_lt_of_cell? w _ hw260_0)).trans hw260_0), ((HB.out.cell (World.block_lt_of_cell? w _ hw260_1)).trans hw260_1)⟩ (fun hHeld => ?_); refine with_tabW profile_Fit.tab9 profile_Fit.bits9 (fun HT_ HW_ => ?_)
              generalize w55.drew = w56 at BK253 HB hx259_0 hx259_1 hx260_0 hx260_1 hHeld ⊢
              refine plan_ [(0, 27), (1, 28), (2, 29), (3, 30), (4, 31), (5, 32), (6, 33), (7, 34), (8, 35), (9, 36), (10, 37), (11, 38), (12, 39), (13, 40), (15, 42), (16, 43), (17, 44), (18, 45), (21, 48), (22, 49)] ?_
              iterate 20 (refine planP_ (v := ?_) (a' := ?_) rfl rfl (any_of HT_.out (by kernel_rfl)) (fun _ _ _ h => h) (Or.inl ⟨by rfl, ?_⟩) ?_ ?_; rotate_left; (intro w'; go_simp; with_reducible rfl); rotate_left; (simp only [Act.put, List.setIfInBounds_toArray, List.set_cons_zero, List.set_cons_succ, i64_w, i32_w]; rfl))
              refine planEnd_ ?_
              refine plan_ [(14, 41), (19, 46)] ?_
              iterate 2 (refine planT_ (v := ?_) (a' := ?_) rfl rfl (take_ofW HT_.out HW_.out (by kernel_rfl)) (fun _ _ _ h => h) (Or.inl ⟨by rfl, ?_⟩) hHeld ?_ ?_; rotate_left; (rintro w' ⟨s0, s1, s2, s3⟩; go_simp; with_reducible rfl); rotate_left; (simp only [Act.put, List.setIfInBounds_toArray, List.set_cons_zero, List.set_cons_succ, i64_w, i32_w]; rfl))
              refine planEnd_ ?_
              refine plan_ [(20, 47), (23, 50), (24, 51), (25, 52)] ?_
              iterate 4 (refine planP_ (v := ?_) (a' := ?_) rfl rfl (any_of HT_.out (by kernel_rfl)) (fun _ _ _ h => h) (Or.inl ⟨by rfl, ?_⟩) ?_ ?_; rotate_left; (intro w'; go_simp; with_reducible rfl); rotate_left; (simp only [Act.put, List.setIfInBounds_toArray, List.set_cons_zero, List.set_cons_succ, i64_w, i32_w]; rfl))
              refine planEnd_ ?_
              refine done_ (done_of HT_.out (by kernel_rfl)) ?_
              try go_wp2
              go_roundg k1
              case measure => have := HK1.out; omega
              case rel => exact ⟨(x13_1), (ji43), ez, (by first | rfl | (simp; done) | (simp only [← hji43] <;> (first | rfl | simp)) | (simp [*]; done)), H', ⟨by have := HK1.out; omega⟩, ⟨mBs HB.out⟩⟩
            · exact absurd (of_decide_eq_true c4b0) c46
           ·rw [if_neg c45] at H
            exact absurd H (by simp)
          ·rw [if_neg c44] at H
           exact absurd H (by simp)
        · exact absurd (of_decide_eq_true c5b0) c36
       ·rw [if_neg c35] at H
        have c35b0 : decide (x8_1 < 0) = false := decide_eq_false c35
        clear c35
        by_cases c61 : x8_1 ≥ 0
        ·rw [if_pos c61] at H
         have c61b0 : decide (0 ≤ x8_1) = true := decide_eq_true c61
         clear c61
         by_cases c62 : (wrap64 (x13_1 + 1)) = (l0.length : Int)
         ·rw [if_pos c62] at H
          have c62b0 : ((wrap64 (x13_1 + 1)) == (l0.length : Int)) = true := beq_iff_eq.mpr c62
          have c62b1 : ((wrap64 (x13_1 + 1)) != (l0.length : Int)) = false := bne_eq_false_iff_eq.mpr c62
          clear c62
          by_cases c63 : 0 ≤ x8_1
          ·rw [if_pos c63] at H
           have c63b0 : decide (0 ≤ x8_1) = true := decide_eq_true c63
           clear c63
           by_cases c64 : x8_1 < (l0.length : Int)
           ·rw [if_pos c64] at H
            have c64b0 : decide (x8_1 < (l0.length : Int)) = true := decide_eq_true c64
            clear c64
            simp only [Option.some.injEq, Prod.mk.injEq] at H
            obtain ⟨rfl, rfl⟩ := H
            have p252 : 0 ≤ (x13_1 : Int) := oda
            have q252 : x13_1 < (l0.length : Int) := oda
            obtain ⟨ad252, e252, hx252_0, hx252_1⟩ := at_T40 HR0.out x13_1 p252 q252
            cases e252
            replace hx252_0 := (HB.out.cell (World.block_lt_of_cell? w _ hx252_0)).trans hx252_0
            replace hx252_1 := (HB.out.cell (World.block_lt_of_cell? w _ hx252_1)).trans hx252_1
            replace p252 := eq_true p252
            replace q252 := eq_true q252
            try go_wp2_with (first | ((with_reducible refine gate_dst (N := 10) rfl ?_); refine box_event ?hg (N := 10) ?hd (cs := #[.int .i64 0, .int .i64 0]) (t := 40) ?hr ?_; (case hd => rfl); (case hg => rfl); (case hr => first | (go_simp; done) | (go_simp; rfl)); intro gb253 hg w65 hbox hb; have n0_ := Aside0.mk (below_step (mB HB.out) hb); have n1_ := Aside0.mk (hbox); have n2_ := Aside0.mk ((by rw [hg]; exact (below_size (mB HB.out)) : w.heap.size ≤ gb253)); have n3_ := Aside0.mk ((by rw [hg]; exact (below_size (mB HB.out)) : w.heap.size ≤ gb253)); clear HB; have HB := n0_; have BK253 := n1_; have GW253 := n2_; have GE253 := n3_; clear n0_ n1_ n2_ n3_; clear hb hbox hg; have hcz66_0 : w65.cell? ⟨gb253, 0, none⟩ = some (.int .i64 0) := (blk_cell BK253.out 0).trans rfl; have hcz66_1 : w65.cell? ⟨gb253, 1, none⟩ = some (.int .i64 0) := (blk_cell BK253.out 1).trans rfl; have hfz66_0 := blk_frozen BK253.out 0; have hfz66_1 := blk_frozen BK253.out 1))
            have n0_ : Aside0 (((w65.setCell ⟨gb253, 0, none⟩ (.int .i64 ((rd_T40 l0 x13_1).f0))).setCell ⟨gb253, 1, none⟩ (.int .i64 ((rd_T40 l0 x13_1).f1))).heap[gb253]? = some (.cells #[.int .i64 ((rd_T40 l0 x13_1).f0), .int .i64 ((rd_T40 l0 x13_1).f1)] 40 (0, 0))) := ⟨by (with_reducible repeat (first | refine blk_drewN ?_ _ | refine blk_drew ?_ | refine blk_alloc ?_ _)); refine blk_put (cs := #[.int .i64 ((rd_T40 l0 x13_1).f0), .int .i64 0]) ?_ 1 _ rfl; (with_reducible repeat (first | refine blk_drewN ?_ _ | refine blk_drew ?_ | refine blk_alloc ?_ _)); refine blk_put (cs := #[.int .i64 0, .int .i64 0]) ?_ 0 _ rfl; (with_reducible repeat (first | refine blk_drewN ?_ _ | refine blk_drew ?_ | refine blk_alloc ?_ _)); exact BK253.out⟩
            have n1_ : Aside0 (Below w.heap.size w ((w65.setCell ⟨gb253, 0, none⟩ (.int .i64 ((rd_T40 l0 x13_1).f0))).setCell ⟨gb253, 1, none⟩ (.int .i64 ((rd_T40 l0 x13_1).f1)))) := ⟨mBs HB.out⟩
            (try clear BK253); (try clear HB)
            generalize ((w65.setCell ⟨gb253, 0, none⟩ (.int .i64 ((rd_T40 l0 x13_1).f0))).setCell ⟨gb253, 1, none⟩ (.int .i64 ((rd_T40 l0 x13_1).f1))) = w67 at n0_ n1_ ⊢
            have BK253 := n0_
            have HB := n1_
            clear n0_; clear n1_
            have n0_ := Aside0.mk (blk_drew BK253.out)
            have n1_ := Aside0.mk (below_drew1 HB.out)
            clear BK253; clear HB
            have BK253 := n0_
            have HB := n1_
            clear n0_; clear n1_
            refine start_ (n := 26) (S := fun w' => True) (ds := []) #[false, false, false, false, false, false, false, false, false, false, false, false, false, false, false, false, false, false, false, false, false, false, false, false, false, false] (by kernel_rfl) rfl rfl trivial (fun hHeld => ?_); refine with_tabW profile_Fit.tab9 profile_Fit.bits9 (fun HT_ HW_ => ?_)
            generalize w67.drew = w68 at BK253 HB hHeld ⊢
            refine plan_ [(0, 27), (1, 28), (2, 29), (3, 30), (4, 31), (5, 32), (6, 33), (7, 34), (8, 35)] ?_
            iterate 9 (refine planP_ (v := ?_) (a' := ?_) rfl rfl (any_of HT_.out (by kernel_rfl)) (fun _ _ _ h => h) (Or.inl ⟨by rfl, ?_⟩) ?_ ?_; rotate_left; (intro w'; go_simp; with_reducible rfl); rotate_left; (simp only [Act.put, List.setIfInBounds_toArray, List.set_cons_zero, List.set_cons_succ, i64_w, i32_w]; rfl))
            refine planEnd_ ?_
            refine plan_ [(9, 36), (10, 37), (11, 38), (12, 39), (13, 40), (14, 41), (15, 42), (16, 43), (17, 44), (18, 45), (19, 46), (20, 47), (21, 48), (22, 49), (23, 50)] ?_
            iterate 15 (refine planP_ (v := undef) (a' := ?_) rfl rfl (any_of HT_.out (by kernel_rfl)) (fun _ _ _ h => h) (Or.inr ⟨by rfl, rfl⟩) ?_ ?_; rotate_left; (simp only [Act.put, List.setIfInBounds_toArray, List.set_cons_zero, List.set_cons_succ, i64_w, i32_w]; rfl))
            refine planEnd_ ?_
            refine plan_ [(24, 51), (25, 52)] ?_
            iterate 2 (refine planP_ (v := ?_) (a' := ?_) rfl rfl (any_of HT_.out (by kernel_rfl)) (fun _ _ _ h => h) (Or.inl ⟨by rfl, ?_⟩) ?_ ?_; rotate_left; (intro w'; go_simp; with_reducible rfl); rotate_left; (simp only [Act.put, List.setIfInBounds_toArray, List.set_cons_zero, List.set_cons_succ, i64_w, i32_w]; rfl))
            refine planEnd_ ?_
            refine done_ (done_of HT_.out (by kernel_rfl)) ?_
            have p262 : 0 ≤ (x8_1 : Int) := oda
            have q262 : x8_1 < (l0.length : Int) := oda
            obtain ⟨ad262, e262, hx262_0, hx262_1⟩ := at_T40 HR0.out x8_1 p262 q262
            obtain rfl : ad252 = ad262 := (by injection e262)
            replace hx262_0 := (HB.out.cell (World.block_lt_of_cell? w _ hx262_0)).trans hx262_0
            replace hx262_1 := (HB.out.cell (World.block_lt_of_cell? w _ hx262_1)).trans hx262_1
            replace p262 := eq_true p262
            replace q262 := eq_true q262
            try go_wp2
            go_ret2
            exact ⟨by first | rfl | (simp [errW_none, errW_some] <;> rfl) | (simp [*, errW_none, errW_some] <;> rfl), by repeat (first | (with_reducible first | exact HB.out | apply below_alloc | apply pw_below_drewN | apply below_drew1 | refine below_set ?_ GE253.out) | exact HB.out)⟩
           ·rw [if_neg c64] at H
            exact absurd H (by simp)
          · exact absurd (of_decide_eq_true c61b0) c63
         ·rw [if_neg c62] at H
          have c62b0 : ((wrap64 (x13_1 + 1)) == (l0.length : Int)) = false := beq_eq_false_iff_ne.mpr c62
          have c62b1 : ((wrap64 (x13_1 + 1)) != (l0.length : Int)) = true := bne_iff_ne.mpr c62
          obtain ⟨ji69, hji69⟩ : ∃ j_ : Int, (wrap64 (x13_1 + 1)) = j_ := ⟨_, rfl⟩
          replace H : (if 0 ≤ (ji69) then (if (ji69) < (l0.length : Int) then (if 0 ≤ x8_1 then (if x8_1 < (l0.length : Int) then (if (wrap64 (((rd_T40 l0 (ji69)).f0) - ((rd_T40 l0 x8_1).f0))) ≥ (mx a2 1) then (some ((rd_T40 l0 x8_1).f0, true)) else (profile_Fit.l0 k1 l0 a1 a2 x8_1 l0 (l0.length : Int) ji69)) else (none)) else (none)) else (none)) else (none)) = some (r1, r2) := by first | (rw [hji69] at H; exact H) | (simp only [hji69] at H ⊢; exact H)
          (try rw [hji69] at c62b0)
          (try rw [hji69] at c62b1)
          have hji69w : (IntKind.i64.wrap (x13_1 + 1)) = ji69 := (i64_w _).trans hji69
          by_cases c70 : 0 ≤ (ji69)
          ·rw [if_pos c70] at H
           have c70b0 : decide (0 ≤ (ji69)) = true := decide_eq_true c70
           clear c70
           by_cases c71 : (ji69) < (l0.length : Int)
           ·rw [if_pos c71] at H
            have c71b0 : decide ((ji69) < (l0.length : Int)) = true := decide_eq_true c71
            clear c71
            by_cases c72 : 0 ≤ x8_1
            ·rw [if_pos c72] at H
             have c72b0 : decide (0 ≤ x8_1) = true := decide_eq_true c72
             clear c72
             by_cases c73 : x8_1 < (l0.length : Int)
             ·rw [if_pos c73] at H
              have c73b0 : decide (x8_1 < (l0.length : Int)) = true := decide_eq_true c73
              clear c73
              obtain ⟨ji74, hji74⟩ : ∃ j_ : Int, (mx a2 1) = j_ := ⟨_, rfl⟩
              replace H : (if (wrap64 (((rd_T40 l0 (ji69)).f0) - ((rd_T40 l0 x8_1).f0))) ≥ (ji74) then (some ((rd_T40 l0 x8_1).f0, true)) else (profile_Fit.l0 k1 l0 a1 a2 x8_1 l0 (l0.length : Int) ji69)) = some (r1, r2) := by first | (rw [hji74] at H; exact H) | (simp only [hji74] at H ⊢; exact H)
              have hji74_ : (if a2 < 1 then 1 else a2) = ji74 := hji74
              by_cases c75 : (wrap64 (((rd_T40 l0 (ji69)).f0) - ((rd_T40 l0 x8_1).f0))) ≥ (ji74)
              ·rw [if_pos c75] at H
               have c75b0 : decide ((ji74) ≤ (wrap64 (((rd_T40 l0 (ji69)).f0) - ((rd_T40 l0 x8_1).f0)))) = true := decide_eq_true c75
               clear c75
               simp only [Option.some.injEq, Prod.mk.injEq] at H
               obtain ⟨rfl, rfl⟩ := H
               have p252 : 0 ≤ (x13_1 : Int) := oda
               have q252 : x13_1 < (l0.length : Int) := oda
               obtain ⟨ad252, e252, hx252_0, hx252_1⟩ := at_T40 HR0.out x13_1 p252 q252
               cases e252
               replace hx252_0 := (HB.out.cell (World.block_lt_of_cell? w _ hx252_0)).trans hx252_0
               replace hx252_1 := (HB.out.cell (World.block_lt_of_cell? w _ hx252_1)).trans hx252_1
               replace p252 := eq_true p252
               replace q252 := eq_true q252
               try go_wp2_with (first | ((with_reducible refine gate_dst (N := 10) rfl ?_); refine box_event ?hg (N := 10) ?hd (cs := #[.int .i64 0, .int .i64 0]) (t := 40) ?hr ?_; (case hd => rfl); (case hg => rfl); (case hr => first | (go_simp; done) | (go_simp; rfl)); intro gb253 hg w76 hbox hb; have n0_ := Aside0.mk (below_step (mB HB.out) hb); have n1_ := Aside0.mk (hbox); have n2_ := Aside0.mk ((by rw [hg]; exact (below_size (mB HB.out)) : w.heap.size ≤ gb253)); have n3_ := Aside0.mk ((by rw [hg]; exact (below_size (mB HB.out)) : w.heap.size ≤ gb253)); clear HB; have HB := n0_; have BK253 := n1_; have GW253 := n2_; have GE253 := n3_; clear n0_ n1_ n2_ n3_; clear hb hbox hg; have hcz77_0 : w76.cell? ⟨gb253, 0, none⟩ = some (.int .i64 0) := (blk_cell BK253.out 0).trans rfl; have hcz77_1 : w76.cell? ⟨gb253, 1, none⟩ = some (.int .i64 0) := (blk_cell BK253.out 1).trans rfl; have hfz77_0 := blk_frozen BK253.out 0; have hfz77_1 := blk_frozen BK253.out 1))
               have n0_ : Aside0 (((w76.setCell ⟨gb253, 0, none⟩ (.int .i64 ((rd_T40 l0 x13_1).f0))).setCell ⟨gb253, 1, none⟩ (.int .i64 ((rd_T40 l0 x13_1).f1))).heap[gb253]? = some (.cells #[.int .i64 ((rd_T40 l0 x13_1).f0), .int .i64 ((rd_T40 l0 x13_1).f1)] 40 (0, 0))) := ⟨by (with_reducible repeat (first | refine blk_drewN ?_ _ | refine blk_drew ?_ | refine blk_alloc ?_ _)); refine blk_put (cs := #[.int .i64 ((rd_T40 l0 x13_1).f0), .int .i64 0]) ?_ 1 _ rfl; (with_reducible repeat (first | refine blk_drewN ?_ _ | refine blk_drew ?_ | refine blk_alloc ?_ _)); refine blk_put (cs := #[.int .i64 0, .int .i64 0]) ?_ 0 _ rfl; (with_reducible repeat (first | refine blk_drewN ?_ _ | refine blk_drew ?_ | refine blk_alloc ?_ _)); exact BK253.out⟩
               have n1_ : Aside0 (Below w.heap.size w ((w76.setCell ⟨gb253, 0, none⟩ (.int .i64 ((rd_T40 l0 x13_1).f0))).setCell ⟨gb253, 1, none⟩ (.int .i64 ((rd_T40 l0 x13_1).f1)))) := ⟨mBs HB.out⟩
               (try clear BK253); (try clear HB)
               generalize ((w76.setCell ⟨gb253, 0, none⟩ (.int .i64 ((rd_T40 l0 x13_1).f0))).setCell ⟨gb253, 1, none⟩ (.int .i64 ((rd_T40 l0 x13_1).f1))) = w78 at n0_ n1_ ⊢
               have BK253 := n0_
               have HB := n1_
               clear n0_; clear n1_
               have n0_ := Aside0.mk (blk_drew BK253.out)
               have n1_ := Aside0.mk (below_drew1 HB.out)
               clear BK253; clear HB
               have BK253 := n0_
               have HB := n1_
               clear n0_; clear n1_
               have p263 : 0 ≤ ((ji69) : Int) := oda
               have q263 : (ji69) < (l0.length : Int) := oda
               obtain ⟨ad263, e263, hx263_0, hx263_1⟩ := at_T40 HR0.out (ji69) p263 q263
               have hw263_1 := hx263_1
               have hw263_0 := hx263_0
               obtain rfl : ad252 = ad263 := (by injection e263)
               replace hx263_0 := (HB.out.cell (World.block_lt_of_cell? w _ hx263_0)).trans hx263_0
               replace hx263_1 := (HB.out.cell (World.block_lt_of_cell? w _ hx263_1)).trans hx263_1
               replace p263 := eq_true p263
               replace q263 := eq_true q263
               have p264 : 0 ≤ (x8_1 : Int) := oda
               have q264 : x8_1 < (l0.length : Int) := oda
               obtain ⟨ad264, e264, hx264_0, hx264_1⟩ := at_T40 HR0.out x8_1 p264 q264
               have hw264_1 := hx264_1
               have hw264_0 := hx264_0
               obtain rfl : ad252 = ad264 := (by injection e264)
               replace hx264_0 := (HB.out.cell (World.block_lt_of_cell? w _ hx264_0)).trans hx264_0
               replace hx264_1 := (HB.out.cell (World.block_lt_of_cell? w _ hx264_1)).trans hx264_1
               replace p264 := eq_true p264
               replace q264 := eq_true q264
               refine start_ (n := 26) (S := fun w' => w'.cell? (ad252.add (((ji69)).toNat * 2)) = some (.int .i64 ((rd_T40 l0 (ji69)).f0)) ∧ w'.cell? ⟨(ad252.add (((ji69)).toNat * 2)).block, (ad252.add (((ji69)).toNat * 2)).off + 1, none⟩ = some (.int .i64 ((rd_T40 l0 (ji69)).f1)) ∧ w'.cell? (ad252.add ((x8_1).toNat * 2)) = some (.int .i64 ((rd_T40 l0 x8_1).f0)) ∧ w'.cell? ⟨(ad252.add ((x8_1).toNat * 2)).block, (ad252.add ((x8_1).toNat * 2)).off + 1, none⟩ = some (.int .i64 ((rd_T40 l0 x8_1).f1))) (ds := []) #[false, false, false, false, false, false, false, false, false, false, false, false, false, false, false, false, false, false, false, false, false, false, false, false, false, false] (by kernel_rfl) rfl rfl ⟨((HB.out.cell (World.block_lt_of_cell? w _ hw263_0)).trans hw263_0), ((HB.out.cell (World.block_lt_of_cell? w _ hw263_1)).trans hw263_1), ((HB.out.cell (World.block_lt_of_cell? w _ hw264_0)).trans hw264_0), ((HB.out.cell (World.block_lt_of_cell? w _ hw264_1)).trans hw264_1)⟩ (fun hHeld => ?_); refine with_tabW profile_Fit.tab9 profile_Fit.bits9 (fun HT_ HW_ => ?_)
               generalize w78.drew = w79 at BK253 HB hx263_0 hx263_1 hx264_0 hx264_1 hHeld ⊢
               refine plan_ [(0, 27), (1, 28), (2, 29), (3, 30), (4, 31), (5, 32), (6, 33), (7, 34), (8, 35), (9, 36), (10, 37), (11, 38), (12, 39), (13, 40), (15, 42), (16, 43), (17, 44), (18, 45), (21, 48), (22, 49)] ?_
               iterate 20 (refine planP_ (v := ?_) (a' := ?_) rfl rfl (any_of HT_.out (by kernel_rfl)) (fun _ _ _ h => h) (Or.inl ⟨by rfl, ?_⟩) ?_ ?_; rotate_left; (intro w'; go_simp; with_reducible rfl); rotate_left; (simp only [Act.put, List.setIfInBounds_toArray, List.set_cons_zero, List.set_cons_succ, i64_w, i32_w]; rfl))
               refine planEnd_ ?_
               refine plan_ [(14, 41), (19, 46)] ?_
               iterate 2 (refine planT_ (v := ?_) (a' := ?_) rfl rfl (take_ofW HT_.out HW_.out (by kernel_rfl)) (fun _ _ _ h => h) (Or.inl ⟨by rfl, ?_⟩) hHeld ?_ ?_; rotate_left; (rintro w' ⟨s0, s1, s2, s3⟩; go_simp; with_reducible rfl); rotate_left; (simp only [Act.put, List.setIfInBounds_toArray, List.set_cons_zero, List.set_cons_succ, i64_w, i32_w]; rfl))
               refine planEnd_ ?_
               refine plan_ [(20, 47), (23, 50), (24, 51), (25, 52)] ?_
               iterate 4 (refine planP_ (v := ?_) (a' := ?_) rfl rfl (any_of HT_.out (by kernel_rfl)) (fun _ _ _ h => h) (Or.inl ⟨by rfl, ?_⟩) ?_ ?_; rotate_left; (intro w'; go_simp; with_reducible rfl); rotate_left; (simp only [Act.put, List.setIfInBounds_toArray, List.set_cons_zero, List.set_cons_succ, i64_w, i32_w]; rfl))
               refine planEnd_ ?_
               refine done_ (done_of HT_.out (by kernel_rfl)) ?_
               have p265 : 0 ≤ (x8_1 : Int) := oda
               have q265 : x8_1 < (l0.length : Int) := oda
               obtain ⟨ad265, e265, hx265_0, hx265_1⟩ := at_T40 HR0.out x8_1 p265 q265
               obtain rfl : ad252 = ad265 := (by injection e265)
               replace hx265_0 := (HB.out.cell (World.block_lt_of_cell? w _ hx265_0)).trans hx265_0
               replace hx265_1 := (HB.out.cell (World.block_lt_of_cell? w _ hx265_1)).trans hx265_1
               replace p265 := eq_true p265
               replace q265 := eq_true q265
               try go_wp2
               go_ret2
               exact ⟨by first | rfl | (simp [errW_none, errW_some] <;> rfl) | (simp only [← hji69, ← hji74]; first | rfl | (simp [errW_none, errW_some] <;> rfl)) | (simp [*, errW_none, errW_some] <;> rfl), by repeat (first | (with_reducible first | exact HB.out | apply below_alloc | apply pw_below_drewN | apply below_drew1 | refine below_set ?_ GE253.out) | exact HB.out)⟩
              ·rw [if_neg c75] at H
               have c75b0 : decide ((ji74) ≤ (wrap64 (((rd_T40 l0 (ji69)).f0) - ((rd_T40 l0 x8_1).f0)))) = false := decide_eq_false c75
               clear c75
               have H' := Aside0.mk H
               clear H
               have p252 : 0 ≤ (x13_1 : Int) := oda
               have q252 : x13_1 < (l0.length : Int) := oda
               obtain ⟨ad252, e252, hx252_0, hx252_1⟩ := at_T40 HR0.out x13_1 p252 q252
               cases e252
               replace hx252_0 := (HB.out.cell (World.block_lt_of_cell? w _ hx252_0)).trans hx252_0
               replace hx252_1 := (HB.out.cell (World.block_lt_of_cell? w _ hx252_1)).trans hx252_1
               replace p252 := eq_true p252
               replace q252 := eq_true q252
               try go_wp2_with (first | ((with_reducible refine gate_dst (N := 10) rfl ?_); refine box_event ?hg (N := 10) ?hd (cs := #[.int .i64 0, .int .i64 0]) (t := 40) ?hr ?_; (case hd => rfl); (case hg => rfl); (case hr => first | (go_simp; done) | (go_simp; rfl)); intro gb253 hg w80 hbox hb; have n0_ := Aside0.mk (below_step (mB HB.out) hb); have n1_ := Aside0.mk (hbox); have n2_ := Aside0.mk ((by rw [hg]; exact (below_size (mB HB.out)) : w.heap.size ≤ gb253)); have n3_ := Aside0.mk ((by rw [hg]; exact (below_size (mB HB.out)) : w.heap.size ≤ gb253)); clear HB; have HB := n0_; have BK253 := n1_; have GW253 := n2_; have GE253 := n3_; clear n0_ n1_ n2_ n3_; clear hb hbox hg; have hcz81_0 : w80.cell? ⟨gb253, 0, none⟩ = some (.int .i64 0) := (blk_cell BK253.out 0).trans rfl; have hcz81_1 : w80.cell? ⟨gb253, 1, none⟩ = some (.int .i64 0) := (blk_cell BK253.out 1).trans rfl; have hfz81_0 := blk_frozen BK253.out 0; have hfz81_1 := blk_frozen BK253.out 1))
               have n0_ : Aside0 (((w80.setCell ⟨gb253, 0, none⟩ (.int .i64 ((rd_T40 l0 x13_1).f0))).setCell ⟨gb253, 1, none⟩ (.int .i64 ((rd_T40 l0 x13_1).f1))).heap[gb253]? = some (.cells #[.int .i64 ((rd_T40 l0 x13_1).f0), .int .i64 ((rd_T40 l0 x13_1).f1)] 40 (0, 0))) := ⟨by (with_reducible repeat (first | refine blk_drewN ?_ _ | refine blk_drew ?_ | refine blk_alloc ?_ _)); refine blk_put (cs := #[.int .i64 ((rd_T40 l0 x13_1).f0), .int .i64 0]) ?_ 1 _ rfl; (with_reducible repeat (first | refine blk_drewN ?_ _ | refine blk_drew ?_ | refine blk_alloc ?_ _)); refine blk_put (cs := #[.int .i64 0, .int .i64 0]) ?_ 0 _ rfl; (with_reducible repeat (first | refine blk_drewN ?_ _ | refine blk_drew ?_ | refine blk_alloc ?_ _)); exact BK253.out⟩
               have n1_ : Aside0 (Below w.heap.size w ((w80.setCell ⟨gb253, 0, none⟩ (.int .i64 ((rd_T40 l0 x13_1).f0))).setCell ⟨gb253, 1, none⟩ (.int .i64 ((rd_T40 l0 x13_1).f1)))) := ⟨mBs HB.out⟩
               (try clear BK253); (try clear HB)
               generalize ((w80.setCell ⟨gb253, 0, none⟩ (.int .i64 ((rd_T40 l0 x13_1).f0))).setCell ⟨gb253, 1, none⟩ (.int .i64 ((rd_T40 l0 x13_1).f1))) = w82 at n0_ n1_ ⊢
               have BK253 := n0_
               have HB := n1_
               clear n0_; clear n1_
               have n0_ := Aside0.mk (blk_drew BK253.out)
               have n1_ := Aside0.mk (below_drew1 HB.out)
               clear BK253; clear HB
               have BK253 := n0_
               have HB := n1_
               clear n0_; clear n1_
               have p263 : 0 ≤ ((ji69) : Int) := oda
               have q263 : (ji69) < (l0.length : Int) := oda
               obtain ⟨ad263, e263, hx263_0, hx263_1⟩ := at_T40 HR0.out (ji69) p263 q263
               have hw263_1 := hx263_1
               have hw263_0 := hx263_0
               obtain rfl : ad252 = ad263 := (by injection e263)
               replace hx263_0 := (HB.out.cell (World.block_lt_of_cell? w _ hx263_0)).trans hx263_0
               replace hx263_1 := (HB.out.cell (World.block_lt_of_cell? w _ hx263_1)).trans hx263_1
               replace p263 := eq_true p263
               replace q263 := eq_true q263
               have p264 : 0 ≤ (x8_1 : Int) := oda
               have q264 : x8_1 < (l0.length : Int) := oda
               obtain ⟨ad264, e264, hx264_0, hx264_1⟩ := at_T40 HR0.out x8_1 p264 q264
               have hw264_1 := hx264_1
               have hw264_0 := hx264_0
               obtain rfl : ad252 = ad264 := (by injection e264)
               replace hx264_0 := (HB.out.cell (World.block_lt_of_cell? w _ hx264_0)).trans hx264_0
               replace hx264_1 := (HB.out.cell (World.block_lt_of_cell? w _ hx264_1)).trans hx264_1
               replace p264 := eq_true p264
               replace q264 := eq_true q264
               refine start_ (n := 26) (S := fun w' => w'.cell? (ad252.add (((ji69)).toNat * 2)) = some (.int .i64 ((rd_T40 l0 (ji69)).f0)) ∧ w'.cell? ⟨(ad252.add (((ji69)).toNat * 2)).block, (ad252.add (((ji69)).toNat * 2)).off + 1, none⟩ = some (.int .i64 ((rd_T40 l0 (ji69)).f1)) ∧ w'.cell? (ad252.add ((x8_1).toNat * 2)) = some (.int .i64 ((rd_T40 l0 x8_1).f0)) ∧ w'.cell? ⟨(ad252.add ((x8_1).toNat * 2)).block, (ad252.add ((x8_1).toNat * 2)).off + 1, none⟩ = some (.int .i64 ((rd_T40 l0 x8_1).f1))) (ds := []) #[false, false, false, false, false, false, false, false, false, false, false, false, false, false, false, false, false, false, false, false, false, false, false, false, false, false] (by kernel_rfl) rfl rfl ⟨((HB.out.cell (World.block_lt_of_cell? w _ hw263_0)).trans hw263_0), ((HB.out.cell (World.block_lt_of_cell? w _ hw263_1)).trans hw263_1), ((HB.out.cell (World.block_lt_of_cell? w _ hw264_0)).trans hw264_0), ((HB.out.cell (World.block_lt_of_cell? w _ hw264_1)).trans hw264_1)⟩ (fun hHeld => ?_); refine with_tabW profile_Fit.tab9 profile_Fit.bits9 (fun HT_ HW_ => ?_)
               generalize w82.drew = w83 at BK253 HB hx263_0 hx263_1 hx264_0 hx264_1 hHeld ⊢
               refine plan_ [(0, 27), (1, 28), (2, 29), (3, 30), (4, 31), (5, 32), (6, 33), (7, 34), (8, 35), (9, 36), (10, 37), (11, 38), (12, 39), (13, 40), (15, 42), (16, 43), (17, 44), (18, 45), (21, 48), (22, 49)] ?_
               iterate 20 (refine planP_ (v := ?_) (a' := ?_) rfl rfl (any_of HT_.out (by kernel_rfl)) (fun _ _ _ h => h) (Or.inl ⟨by rfl, ?_⟩) ?_ ?_; rotate_left; (intro w'; go_simp; with_reducible rfl); rotate_left; (simp only [Act.put, List.setIfInBounds_toArray, List.set_cons_zero, List.set_cons_succ, i64_w, i32_w]; rfl))
               refine planEnd_ ?_
               refine plan_ [(14, 41), (19, 46)] ?_
               iterate 2 (refine planT_ (v := ?_) (a' := ?_) rfl rfl (take_ofW HT_.out HW_.out (by kernel_rfl)) (fun _ _ _ h => h) (Or.inl ⟨by rfl, ?_⟩) hHeld ?_ ?_; rotate_left; (rintro w' ⟨s0, s1, s2, s3⟩; go_simp; with_reducible rfl); rotate_left; (simp only [Act.put, List.setIfInBounds_toArray, List.set_cons_zero, List.set_cons_succ, i64_w, i32_w]; rfl))
               refine planEnd_ ?_
               refine plan_ [(20, 47), (23, 50), (24, 51), (25, 52)] ?_
               iterate 4 (refine planP_ (v := ?_) (a' := ?_) rfl rfl (any_of HT_.out (by kernel_rfl)) (fun _ _ _ h => h) (Or.inl ⟨by rfl, ?_⟩) ?_ ?_; rotate_left; (intro w'; go_simp; with_reducible rfl); rotate_left; (simp only [Act.put, List.setIfInBounds_toArray, List.set_cons_zero, List.set_cons_succ, i64_w, i32_w]; rfl))
               refine planEnd_ ?_
               refine done_ (done_of HT_.out (by kernel_rfl)) ?_
               try go_wp2
               go_roundg k1
               case measure => have := HK1.out; omega
               case rel => exact ⟨(x8_1), (ji69), ez, (by first | rfl | (simp; done) | (simp only [← hji69] <;> (first | rfl | simp)) | (simp [*]; done)), H', ⟨by have := HK1.out; omega⟩, ⟨mBs HB.out⟩⟩
             ·rw [if_neg c73] at H
              exact absurd H (by simp)
            · exact absurd (of_decide_eq_true c61b0) c72
           ·rw [if_neg c71] at H
            exact absurd H (by simp)
          ·rw [if_neg c70] at H
           exact absurd H (by simp)
        ·rw [if_neg c61] at H
         have c61b0 : decide (0 ≤ x8_1) = false := decide_eq_false c61
         clear c61
         have H' := Aside0.mk H
         clear H
         have p252 : 0 ≤ (x13_1 : Int) := oda
         have q252 : x13_1 < (l0.length : Int) := oda
         obtain ⟨ad252, e252, hx252_0, hx252_1⟩ := at_T40 HR0.out x13_1 p252 q252
         cases e252
         replace hx252_0 := (HB.out.cell (World.block_lt_of_cell? w _ hx252_0)).trans hx252_0
         replace hx252_1 := (HB.out.cell (World.block_lt_of_cell? w _ hx252_1)).trans hx252_1
         replace p252 := eq_true p252
         replace q252 := eq_true q252
         try go_wp2_with (first | ((with_reducible refine gate_dst (N := 10) rfl ?_); refine box_event ?hg (N := 10) ?hd (cs := #[.int .i64 0, .int .i64 0]) (t := 40) ?hr ?_; (case hd => rfl); (case hg => rfl); (case hr => first | (go_simp; done) | (go_simp; rfl)); intro gb253 hg w84 hbox hb; have n0_ := Aside0.mk (below_step (mB HB.out) hb); have n1_ := Aside0.mk (hbox); have n2_ := Aside0.mk ((by rw [hg]; exact (below_size (mB HB.out)) : w.heap.size ≤ gb253)); have n3_ := Aside0.mk ((by rw [hg]; exact (below_size (mB HB.out)) : w.heap.size ≤ gb253)); clear HB; have HB := n0_; have BK253 := n1_; have GW253 := n2_; have GE253 := n3_; clear n0_ n1_ n2_ n3_; clear hb hbox hg; have hcz85_0 : w84.cell? ⟨gb253, 0, none⟩ = some (.int .i64 0) := (blk_cell BK253.out 0).trans rfl; have hcz85_1 : w84.cell? ⟨gb253, 1, none⟩ = some (.int .i64 0) := (blk_cell BK253.out 1).trans rfl; have hfz85_0 := blk_frozen BK253.out 0; have hfz85_1 := blk_frozen BK253.out 1))
         have n0_ : Aside0 (((w84.setCell ⟨gb253, 0, none⟩ (.int .i64 ((rd_T40 l0 x13_1).f0))).setCell ⟨gb253, 1, none⟩ (.int .i64 ((rd_T40 l0 x13_1).f1))).heap[gb253]? = some (.cells #[.int .i64 ((rd_T40 l0 x13_1).f0), .int .i64 ((rd_T40 l0 x13_1).f1)] 40 (0, 0))) := ⟨by (with_reducible repeat (first | refine blk_drewN ?_ _ | refine blk_drew ?_ | refine blk_alloc ?_ _)); refine blk_put (cs := #[.int .i64 ((rd_T40 l0 x13_1).f0), .int .i64 0]) ?_ 1 _ rfl; (with_reducible repeat (first | refine blk_drewN ?_ _ | refine blk_drew ?_ | refine blk_alloc ?_ _)); refine blk_put (cs := #[.int .i64 0, .int .i64 0]) ?_ 0 _ rfl; (with_reducible repeat (first | refine blk_drewN ?_ _ | refine blk_drew ?_ | refine blk_alloc ?_ _)); exact BK253.out⟩
         have n1_ : Aside0 (Below w.heap.size w ((w84.setCell ⟨gb253, 0, none⟩ (.int .i64 ((rd_T40 l0 x13_1).f0))).setCell ⟨gb253, 1, none⟩ (.int .i64 ((rd_T40 l0 x13_1).f1)))) := ⟨mBs HB.out⟩
         (try clear BK253); (try clear HB)
         generalize ((w84.setCell ⟨gb253, 0, none⟩ (.int .i64 ((rd_T40 l0 x13_1).f0))).setCell ⟨gb253, 1, none⟩ (.int .i64 ((rd_T40 l0 x13_1).f1))) = w86 at n0_ n1_ ⊢
         have BK253 := n0_
         have HB := n1_
         clear n0_; clear n1_
         have n0_ := Aside0.mk (blk_drew BK253.out)
         have n1_ := Aside0.mk (below_drew1 HB.out)
         clear BK253; clear HB
         have BK253 := n0_
         have HB := n1_
         clear n0_; clear n1_
         refine start_ (n := 26) (S := fun w' => True) (ds := []) #[false, false, false, false, false, false, false, false, false, false, false, false, false, false, false, false, false, false, false, false, false, false, false, false, false, false] (by kernel_rfl) rfl rfl trivial (fun hHeld => ?_); refine with_tabW profile_Fit.tab9 profile_Fit.bits9 (fun HT_ HW_ => ?_)
         generalize w86.drew = w87 at BK253 HB hHeld ⊢
         refine plan_ [(0, 27), (1, 28), (2, 29)] ?_
         iterate 3 (refine planP_ (v := ?_) (a' := ?_) rfl rfl (any_of HT_.out (by kernel_rfl)) (fun _ _ _ h => h) (Or.inl ⟨by rfl, ?_⟩) ?_ ?_; rotate_left; (intro w'; go_simp; with_reducible rfl); rotate_left; (simp only [Act.put, List.setIfInBounds_toArray, List.set_cons_zero, List.set_cons_succ, i64_w, i32_w]; rfl))
         refine planEnd_ ?_
         refine plan_ [(3, 30), (4, 31), (5, 32), (6, 33), (7, 34), (8, 35), (9, 36), (10, 37), (11, 38), (12, 39), (13, 40), (14, 41), (15, 42), (16, 43), (17, 44), (18, 45), (19, 46), (20, 47), (21, 48), (22, 49), (23, 50), (24, 51)] ?_
         iterate 22 (refine planP_ (v := undef) (a' := ?_) rfl rfl (any_of HT_.out (by kernel_rfl)) (fun _ _ _ h => h) (Or.inr ⟨by rfl, rfl⟩) ?_ ?_; rotate_left; (simp only [Act.put, List.setIfInBounds_toArray, List.set_cons_zero, List.set_cons_succ, i64_w, i32_w]; rfl))
         refine planEnd_ ?_
         refine plan_ [(25, 52)] ?_
         refine planP_ (v := ?_) (a' := ?_) rfl rfl (any_of HT_.out (by kernel_rfl)) (fun _ _ _ h => h) (Or.inl ⟨by rfl, ?_⟩) ?_ ?_; rotate_left; (intro w'; go_simp; with_reducible rfl); rotate_left; (simp only [Act.put, List.setIfInBounds_toArray, List.set_cons_zero, List.set_cons_succ, i64_w, i32_w]; rfl)
         refine planEnd_ ?_
         refine done_ (done_of HT_.out (by kernel_rfl)) ?_
         try go_wp2
         go_roundg k1
         case measure => have := HK1.out; omega
         case rel => exact ⟨(x8_1), (wrap64 (x13_1 + 1)), ez, ez, H', ⟨by have := HK1.out; omega⟩, ⟨mBs HB.out⟩⟩
     · exact absurd (of_decide_eq_true c4b0) c6
    ·rw [if_neg c5] at H
     exact absurd H (by simp)
   ·rw [if_neg c4] at H
    have c4b0 : decide (x13_1 < (l0.length : Int)) = false := decide_eq_false c4
    clear c4
    simp only [Option.some.injEq, Prod.mk.injEq] at H
    obtain ⟨rfl, rfl⟩ := H
    go_wp2
    go_ret2
    exact ⟨by first | rfl | (simp [errW_none, errW_some] <;> rfl) | (simp [*, errW_none, errW_some] <;> rfl), by repeat (first | (with_reducible first | exact HB.out | apply below_alloc | apply pw_below_drewN | apply below_drew1) | exact HB.out)⟩

end Go.Proofs.Ytedpoahndddgfaa.PAll
end
section
namespace Go.Proofs.Ytedpoahndddgfaa.PAll
open Go.RowKit Go.Proofs.YtedpoahndddgfaaW.PrintWords Go.Proofs.YtedpoahndddgfaaW.PrintLast Go.Proofs.YtedpoahndddgfaaW.PrintMore
attribute [local go_sem] max2_int min2_int max_two min_two max_three min_three max_four min_four   -- for this text's walks alone
set_option linter.unusedVariables false
set_option linter.unusedSimpArgs false

/-! ### easy_Shadow: function 29 -/
def easy_Shadow.f (k : Nat) (a0 : Int) (a1 : Int) (l2 : List (S38)) (a3 : Int) : Option (Int × Int × Bool) := (profile_New.f k a0 a1 l2).bind fun t501 => ((profile_Fit.f k t501 a3 1).bind fun bt504 => (if bt504.2 = true then ((profile_At.f k t501 bt504.1).bind fun t506 => (some (bt504.1, wrap64 (t506 - a3), true))) else (some (0, 0, false))))
theorem easy_Shadow.mono : ∀ a0 a1 a2 a3 k, LeO (easy_Shadow.f k a0 a1 a2 a3) (easy_Shadow.f (k + 1) a0 a1 a2 a3) := by
 intro a0 a1 a2 a3 k
 unfold easy_Shadow.f
 repeat' first
   | (with_reducible exact profile_At.mono _ _ _)
   | (with_reducible exact profile_Fit.mono _ _ _ _)
   | (with_reducible exact profile_New.mono _ _ _ _)
   | (with_reducible exact LeO.refl _)
   | (with_reducible exact LeO.none _)
   | (with_reducible refine LeO.ite ?_ ?_)
   | (with_reducible refine LeO.bind ?_ (fun _ => ?_))
   | exact profile_At.mono _ _ _
   | exact profile_Fit.mono _ _ _ _
   | exact profile_New.mono _ _ _ _
   | exact LeO.none _
   | refine LeO.ite ?_ ?_
   | refine LeO.bind ?_ (fun _ => ?_)
set_option maxHeartbeats 8000000 in
set_option maxRecDepth 100000 in
theorem easy_Shadow.calls (k : Nat) (a0 : Int) (a1 : Int) (A2 : Option Addr) (c2 : Nat) (l2 : List (S38)) (a3 : Int) (r1 : Int) (r2 : Int) (r3 : Bool) (w : World) (hr2 : Kd.C k38 w A2 l2.length l2) (hc2 : l2.length ≤ c2) (h : easy_Shadow.f k a0 a1 l2 a3 = some (r1, r2, r3)) :
  Calls Try.prog 29 #[.int .i64 a0, .int .i64 a1, .slice A2 l2.length c2, .int .i64 a3] w fun e w' => e = .returned (.tuple #[.int .i64 r1, .int .i64 r2, .bool r3]) ∧ Below w.heap.size w w' := by
 have HR2 := Aside0.mk hr2
 have HC2 := Aside0.mk hc2
 clear hr2; clear hc2
 have HB := Aside0.mk (Below.refl w.heap.size w)
 have H : ((profile_New.f k a0 a1 l2).bind fun t501 => ((profile_Fit.f k t501 a3 1).bind fun bt504 => (if bt504.2 = true then ((profile_At.f k t501 bt504.1).bind fun t506 => (some (bt504.1, wrap64 (t506 - a3), true))) else (some (0, 0, false))))) = some (r1, r2, r3) := h
 clear h
 replace H := Option.bind_eq_some_iff.mp H
 obtain ⟨t501, A50, H⟩ := H
 replace H : ((profile_Fit.f k t501 a3 1).bind fun bt504 => (if bt504.2 = true then ((profile_At.f k t501 bt504.1).bind fun t506 => (some (bt504.1, wrap64 (t506 - a3), true))) else (some (0, 0, false)))) = some (r1, r2, r3) := H
 have A5 := Aside0.mk A50
 clear A50
 replace H := Option.bind_eq_some_iff.mp H
 obtain ⟨⟨t504, t505⟩, A60, H⟩ := H
 replace H : (if t505 = true then ((profile_At.f k t501 t504).bind fun t506 => (some (t504, wrap64 (t506 - a3), true))) else (some (0, 0, false))) = some (r1, r2, r3) := H
 have A6 := Aside0.mk A60
 clear A60
 by_cases c7 : t505 = true
 ·subst c7
  have H1 : ((profile_At.f k t501 t504).bind fun t506 => (some (t504, wrap64 (t506 - a3), true))) = some (r1, r2, r3) := by rw [if_pos rfl] at H; exact H
  clear H
  have H := H1
  clear H1
  replace H := Option.bind_eq_some_iff.mp H
  obtain ⟨t506, A80, H⟩ := H
  replace H : (some (t504, wrap64 (t506 - a3), true)) = some (r1, r2, r3) := H
  have A8 := Aside0.mk A80
  clear A80
  simp only [Option.some.injEq, Prod.mk.injEq] at H
  obtain ⟨rfl, rfl, rfl⟩ := H
  go_enter Try.func29, Try.ntmps29
  go_wp2_with (first | ((with_reducible refine gate_callee (f := 14) rfl ?_); refine goesL_ (some 15) rfl rfl Try.func14 (by kernel_rfl) rfl #[.int .i64 a0, .int .i64 a1, .slice A2 l2.length c2] rfl mt ?_; (with_reducible refine (profile_New.calls k a0 a1 _ _ l2 t501 _ ?side1 ?side2 A5.out).mono ?_); (case side1 => exact mC HR2.out); (case side2 => exact HC2.out); rintro e w9 ⟨v502, rfl, ho0, hb⟩; refine ⟨_, rfl, ?_⟩; have n0_ := Aside0.mk (Kd.V_lower (Kd.V_mono (ok' := fun k_ => True) ho0 (fun k_ hk_ => trivial)) (below_size (mB HB.out))); have n1_ := Aside0.mk (below_step (mB HB.out) hb); clear HB; have HO503 := n0_; have HB := n1_; clear n0_ n1_; (try clear hb); (try clear hb2); (try clear hk); (try clear hi); (try clear ho0); obtain ⟨Ao10, co10, eo10⟩ := Kd.V_slice HO503.out; subst eo10) | ((with_reducible refine gate_callee (f := 17) rfl ?_); refine goesL_ (some 19) rfl rfl Try.func17 (by kernel_rfl) rfl #[.slice Ao10 t501.length co10, .int .i64 a3, .int .i64 1] rfl mt ?_; (with_reducible refine (profile_Fit.calls k _ _ t501 a3 1 t504 true _ ?side1 ?side2 A6.out).mono ?_); (case side1 => exact mC (Kd.V_reads' HO503.out).2.2); (case side2 => exact (Kd.V_reads' HO503.out).2.1); rintro e w11 ⟨rfl, hb⟩; refine ⟨_, rfl, ?_⟩; have n0_ := Aside0.mk (Kd.V_below (mV HO503.out) hb); have n1_ := Aside0.mk (below_step (mB HB.out) hb); clear HO503; clear HB; have HO503 := n0_; have HB := n1_; clear n0_ n1_; (try clear hb); (try clear hb2); (try clear hk); (try clear hi)) | ((with_reducible refine gate_callee (f := 20) rfl ?_); refine goesL_ (some 27) rfl rfl Try.func20 (by kernel_rfl) rfl #[.slice Ao10 t501.length co10, .int .i64 t504] rfl mt ?_; (with_reducible refine (profile_At.calls k _ _ t501 t504 t506 _ ?side1 ?side2 A8.out).mono ?_); (case side1 => exact mC (Kd.V_reads' HO503.out).2.2); (case side2 => exact (Kd.V_reads' HO503.out).2.1); rintro e w12 ⟨rfl, hb⟩; refine ⟨_, rfl, ?_⟩; have n0_ := Aside0.mk (Kd.V_below (mV HO503.out) hb); have n1_ := Aside0.mk (below_step (mB HB.out) hb); clear HO503; clear HB; have HO503 := n0_; have HB := n1_; clear n0_ n1_; (try clear hb); (try clear hb2); (try clear hk); (try clear hi)))
  go_ret3
  exact ⟨by first | rfl | (simp [errW_none, errW_some] <;> rfl) | (simp [*, errW_none, errW_some] <;> rfl), by repeat (first | (with_reducible first | exact HB.out | apply below_alloc | apply pw_below_drewN | apply below_drew1) | exact HB.out)⟩
 ·replace c7 := Bool.eq_false_iff.mpr c7
  subst c7
  have H1 : (some (0, 0, false)) = some (r1, r2, r3) := by rw [if_neg (show ¬ (false = true) by decide)] at H; exact H
  clear H
  have H := H1
  clear H1
  simp only [Option.some.injEq, Prod.mk.injEq] at H
  obtain ⟨rfl, rfl, rfl⟩ := H
  go_enter Try.func29, Try.ntmps29
  go_wp2_with (first | ((with_reducible refine gate_callee (f := 14) rfl ?_); refine goesL_ (some 15) rfl rfl Try.func14 (by kernel_rfl) rfl #[.int .i64 a0, .int .i64 a1, .slice A2 l2.length c2] rfl mt ?_; (with_reducible refine (profile_New.calls k a0 a1 _ _ l2 t501 _ ?side1 ?side2 A5.out).mono ?_); (case side1 => exact mC HR2.out); (case side2 => exact HC2.out); rintro e w13 ⟨v502, rfl, ho0, hb⟩; refine ⟨_, rfl, ?_⟩; have n0_ := Aside0.mk (Kd.V_lower (Kd.V_mono (ok' := fun k_ => True) ho0 (fun k_ hk_ => trivial)) (below_size (mB HB.out))); have n1_ := Aside0.mk (below_step (mB HB.out) hb); clear HB; have HO503 := n0_; have HB := n1_; clear n0_ n1_; (try clear hb); (try clear hb2); (try clear hk); (try clear hi); (try clear ho0); obtain ⟨Ao14, co14, eo14⟩ := Kd.V_slice HO503.out; subst eo14) | ((with_reducible refine gate_callee (f := 17) rfl ?_); refine goesL_ (some 19) rfl rfl Try.func17 (by kernel_rfl) rfl #[.slice Ao14 t501.length co14, .int .i64 a3, .int .i64 1] rfl mt ?_; (with_reducible refine (profile_Fit.calls k _ _ t501 a3 1 t504 false _ ?side1 ?side2 A6.out).mono ?_); (case side1 => exact mC (Kd.V_reads' HO503.out).2.2); (case side2 => exact (Kd.V_reads' HO503.out).2.1); rintro e w15 ⟨rfl, hb⟩; refine ⟨_, rfl, ?_⟩; have n0_ := Aside0.mk (Kd.V_below (mV HO503.out) hb); have n1_ := Aside0.mk (below_step (mB HB.out) hb); clear HO503; clear HB; have HO503 := n0_; have HB := n1_; clear n0_ n1_; (try clear hb); (try clear hb2); (try clear hk); (try clear hi)))
  go_ret3
  exact ⟨by first | rfl | (simp [errW_none, errW_some] <;> rfl) | (simp [*, errW_none, errW_some] <;> rfl), by repeat (first | (with_reducible first | exact HB.out | apply below_alloc | apply pw_below_drewN | apply below_drew1) | exact HB.out)⟩

end Go.Proofs.Ytedpoahndddgfaa.PAll
end
section
namespace Go.Proofs.Ytedpoahndddgfaa.PAll
open Go.RowKit Go.Proofs.YtedpoahndddgfaaW.PrintWords Go.Proofs.YtedpoahndddgfaaW.PrintLast Go.Proofs.YtedpoahndddgfaaW.PrintMore
attribute [local go_sem] max2_int min2_int max_two min_two max_three min_three max_four min_four   -- for this text's walks alone
set_option linter.unusedVariables false
set_option linter.unusedSimpArgs false

/-! ### easy_counts: function 50 -/
def easy_counts.f (a0 : Int) (a1 : Int) (l2 : List (S52)) (l3 : List Bool) : Option (Bool) := if 0 ≤ a0 then (if a0 < (l2.length : Int) then (if ((rd_T52 l2 a0).f0) ≤ a1 then (if a0 ≥ (l3.length : Int) then (some true) else (if a0 < (l3.length : Int) then (some (!(rdOf false l3 a0))) else (none))) else (some false)) else (none)) else (none)
set_option maxHeartbeats 8000000 in
set_option maxRecDepth 100000 in
theorem easy_counts.calls (a0 : Int) (a1 : Int) (A2 : Option Addr) (c2 : Nat) (l2 : List (S52)) (A3 : Option Addr) (c3 : Nat) (l3 : List Bool) (r : Bool) (w : World) (hr2 : Kd.C k52 w A2 l2.length l2) (hc2 : l2.length ≤ c2) (hr3 : Kd.C Kd.bool w A3 l3.length l3) (hc3 : l3.length ≤ c3) (h : easy_counts.f a0 a1 l2 l3 = some r) :
  Calls Try.prog 50 #[.int .i64 a0, .int .i64 a1, .slice A2 l2.length c2, .slice A3 l3.length c3] w fun e w' => e = .returned (.bool r) ∧ Drawn0 w w' := by
 have HR2 := Aside0.mk hr2
 have HC2 := Aside0.mk hc2
 clear hr2; clear hc2
 have HR3 := Aside0.mk hr3
 have HC3 := Aside0.mk hc3
 clear hr3; clear hc3
 have H : (if 0 ≤ a0 then (if a0 < (l2.length : Int) then (if ((rd_T52 l2 a0).f0) ≤ a1 then (if a0 ≥ (l3.length : Int) then (some true) else (if a0 < (l3.length : Int) then (some (!(rdOf false l3 a0))) else (none))) else (some false)) else (none)) else (none)) = some r := h
 clear h
 by_cases c5 : 0 ≤ a0
 ·rw [if_pos c5] at H
  have c5b0 : decide (0 ≤ a0) = true := decide_eq_true c5
  clear c5
  by_cases c6 : a0 < (l2.length : Int)
  ·rw [if_pos c6] at H
   have c6b0 : decide (a0 < (l2.length : Int)) = true := decide_eq_true c6
   clear c6
   by_cases c7 : ((rd_T52 l2 a0).f0) ≤ a1
   ·rw [if_pos c7] at H
    have c7b0 : decide (((rd_T52 l2 a0).f0) ≤ a1) = true := decide_eq_true c7
    clear c7
    by_cases c8 : a0 ≥ (l3.length : Int)
    ·rw [if_pos c8] at H
     have c8b0 : decide ((l3.length : Int) ≤ a0) = true := decide_eq_true c8
     clear c8
     obtain rfl := Option.some.inj H
     have p507 : 0 ≤ (a0 : Int) := oda
     have q507 : a0 < (l2.length : Int) := oda
     obtain ⟨ad507, e507, hx507_0, hx507_1⟩ := at_T52 HR2.out a0 p507 q507
     cases e507
     replace p507 := eq_true p507
     replace q507 := eq_true q507
     go_enter Try.func50, Try.ntmps50
     go_wp2
     go_ret
     exact ⟨by first | rfl | (simp; done) | (simp [*]; done), by repeat (first | exact Drawn0.refl _ | apply Drawn0.step)⟩
    ·rw [if_neg c8] at H
     have c8b0 : decide ((l3.length : Int) ≤ a0) = false := decide_eq_false c8
     clear c8
     by_cases c9 : a0 < (l3.length : Int)
     ·rw [if_pos c9] at H
      have c9b0 : decide (a0 < (l3.length : Int)) = true := decide_eq_true c9
      clear c9
      obtain rfl := Option.some.inj H
      have p507 : 0 ≤ (a0 : Int) := oda
      have q507 : a0 < (l2.length : Int) := oda
      obtain ⟨ad507, e507, hx507_0, hx507_1⟩ := at_T52 HR2.out a0 p507 q507
      cases e507
      replace p507 := eq_true p507
      replace q507 := eq_true q507
      have p508 : 0 ≤ (a0 : Int) := oda
      have q508 : a0 < (l3.length : Int) := oda
      obtain ⟨ad508, e508, hx508_0⟩ := Kd.at_bool HR3.out a0 p508 q508
      cases e508
      replace p508 := eq_true p508
      replace q508 := eq_true q508
      go_enter Try.func50, Try.ntmps50
      go_wp2
      go_ret
      exact ⟨by first | rfl | (simp; done) | (simp [*]; done), by repeat (first | exact Drawn0.refl _ | apply Drawn0.step)⟩
     ·rw [if_neg c9] at H
      exact absurd H (by simp)
   ·rw [if_neg c7] at H
    have c7b0 : decide (((rd_T52 l2 a0).f0) ≤ a1) = false := decide_eq_false c7
    clear c7
    obtain rfl := Option.some.inj H
    have p507 : 0 ≤ (a0 : Int) := oda
    have q507 : a0 < (l2.length : Int) := oda
    obtain ⟨ad507, e507, hx507_0, hx507_1⟩ := at_T52 HR2.out a0 p507 q507
    cases e507
    replace p507 := eq_true p507
    replace q507 := eq_true q507
    go_enter Try.func50, Try.ntmps50
    go_wp2
    go_ret
    exact ⟨by first | rfl | (simp; done) | (simp [*]; done), by repeat (first | exact Drawn0.refl _ | apply Drawn0.step)⟩
  ·rw [if_neg c6] at H
   exact absurd H (by simp)
 ·rw [if_neg c5] at H
  exact absurd H (by simp)

end Go.Proofs.Ytedpoahndddgfaa.PAll
end
section
namespace Go.Proofs.Ytedpoahndddgfaa.PAll
open Go.RowKit Go.Proofs.YtedpoahndddgfaaW.PrintWords Go.Proofs.YtedpoahndddgfaaW.PrintLast Go.Proofs.YtedpoahndddgfaaW.PrintMore
attribute [local go_sem] max2_int min2_int max_two min_two max_three min_three max_four min_four   -- for this text's walks alone
set_option linter.unusedVariables false
set_option linter.unusedSimpArgs false

/-! ### easy_Next: function 27 -/
mutual
def easy_Next.j1 : Nat → Int → Int → List (S38) → List (S52) → List Bool → Int → Int → Option (Int × Bool)
 | 0, _, _, _, _, _, _, _ => none
 | k + 1, x0, x1, x2, x3, x4, x12, x13 => if x13 = (x3.length : Int) then (some (0, false)) else (if 0 ≤ x13 then (if x13 < (x3.length : Int) then (if ((rd_T52 x3 x13).f0) ≤ x12 then (some (x13, true)) else ((easy_Shadow.f k x0 x1 x2 ((rd_T52 x3 x13).f0)).bind fun bt516 => (easy_Next.l1 k x0 x1 x3 x4 x12 bt516.1 bt516.2.1 (wrap64 (x13 + 1))))) else (none)) else (none))
def easy_Next.l1 : Nat → Int → Int → List (S52) → List Bool → Int → Int → Int → Int → Option (Int × Bool)
 | 0, _, _, _, _, _, _, _, _ => none
 | k + 1, x0, x1, x3, x4, x12, x14, x15, x17 => if x17 < (x3.length : Int) then (if 0 ≤ x17 then ((easy_counts.f x17 x1 x3 x4).bind fun t521 => (if t521 = true then (if ((rd_T52 x3 x17).f0) ≤ x12 then (if ((rd_T52 x3 x17).f1) ≤ (wrap64 (x14 - x0)) then (some (x17, true)) else (if ((rd_T52 x3 x17).f0) ≤ x15 then (some (x17, true)) else (easy_Next.l1 k x0 x1 x3 x4 x12 x14 x15 (wrap64 (x17 + 1))))) else (easy_Next.l1 k x0 x1 x3 x4 x12 x14 x15 (wrap64 (x17 + 1)))) else (easy_Next.l1 k x0 x1 x3 x4 x12 x14 x15 (wrap64 (x17 + 1))))) else (none)) else (some (0, false))
def easy_Next.l0 : Nat → Int → Int → List (S38) → List (S52) → List Bool → Int → Int → Option (Int × Bool)
 | 0, _, _, _, _, _, _, _ => none
 | k + 1, x0, x1, x2, x3, x4, x12, x13 => if x13 < (x3.length : Int) then ((easy_counts.f x13 x1 x3 x4).bind fun t513 => (if t513 = true then (easy_Next.j1 k x0 x1 x2 x3 x4 x12 x13) else (easy_Next.l0 k x0 x1 x2 x3 x4 x12 (wrap64 (x13 + 1))))) else (easy_Next.j1 k x0 x1 x2 x3 x4 x12 x13)
end
def easy_Next.f (k : Nat) (a0 : Int) (a1 : Int) (l2 : List (S38)) (l3 : List (S52)) (l4 : List Bool) : Option (Int × Bool) := (profile_New.f k a0 a1 l2).bind fun t509 => ((profile_At.f k t509 a0).bind fun t512 => (easy_Next.l0 k a0 a1 l2 l3 l4 t512 0))
theorem easy_Next.mono_l : ∀ k, (∀ y0 y1 y2 y3 y4 y5 y6, LeO (easy_Next.j1 k y0 y1 y2 y3 y4 y5 y6) (easy_Next.j1 (k + 1) y0 y1 y2 y3 y4 y5 y6)) ∧ (∀ y0 y1 y2 y3 y4 y5 y6 y7, LeO (easy_Next.l1 k y0 y1 y2 y3 y4 y5 y6 y7) (easy_Next.l1 (k + 1) y0 y1 y2 y3 y4 y5 y6 y7)) ∧ (∀ y0 y1 y2 y3 y4 y5 y6, LeO (easy_Next.l0 k y0 y1 y2 y3 y4 y5 y6) (easy_Next.l0 (k + 1) y0 y1 y2 y3 y4 y5 y6))
 | 0 => ⟨fun _ _ _ _ _ _ _ r h => by simp [easy_Next.j1] at h, fun _ _ _ _ _ _ _ _ r h => by simp [easy_Next.l1] at h, fun _ _ _ _ _ _ _ r h => by simp [easy_Next.l0] at h⟩
 | k + 1 => by
  obtain ⟨ih0, ih1, ih2⟩ := easy_Next.mono_l k
  refine ⟨?_, ?_, ?_⟩
  ·intro y0 y1 y2 y3 y4 y5 y6
   unfold easy_Next.j1
   repeat' first
   | (with_reducible exact ih0 _ _ _ _ _ _ _)
   | (with_reducible exact ih1 _ _ _ _ _ _ _ _)
   | (with_reducible exact ih2 _ _ _ _ _ _ _)
   | (with_reducible exact easy_Shadow.mono _ _ _ _ _)
   | (with_reducible exact profile_At.mono _ _ _)
   | (with_reducible exact profile_New.mono _ _ _ _)
   | (with_reducible exact LeO.refl _)
   | (with_reducible exact LeO.none _)
   | (with_reducible refine LeO.ite ?_ ?_)
   | (with_reducible refine LeO.bind ?_ (fun _ => ?_))
   | exact ih0 _ _ _ _ _ _ _
   | exact ih1 _ _ _ _ _ _ _ _
   | exact ih2 _ _ _ _ _ _ _
   | exact easy_Shadow.mono _ _ _ _ _
   | exact profile_At.mono _ _ _
   | exact profile_New.mono _ _ _ _
   | exact LeO.none _
   | refine LeO.ite ?_ ?_
   | refine LeO.bind ?_ (fun _ => ?_)
  ·intro y0 y1 y2 y3 y4 y5 y6 y7
   unfold easy_Next.l1
   repeat' first
   | (with_reducible exact ih0 _ _ _ _ _ _ _)
   | (with_reducible exact ih1 _ _ _ _ _ _ _ _)
   | (with_reducible exact ih2 _ _ _ _ _ _ _)
   | (with_reducible exact easy_Shadow.mono _ _ _ _ _)
   | (with_reducible exact profile_At.mono _ _ _)
   | (with_reducible exact profile_New.mono _ _ _ _)
   | (with_reducible exact LeO.refl _)
   | (with_reducible exact LeO.none _)
   | (with_reducible refine LeO.ite ?_ ?_)
   | (with_reducible refine LeO.bind ?_ (fun _ => ?_))
   | exact ih0 _ _ _ _ _ _ _
   | exact ih1 _ _ _ _ _ _ _ _
   | exact ih2 _ _ _ _ _ _ _
   | exact easy_Shadow.mono _ _ _ _ _
   | exact profile_At.mono _ _ _
   | exact profile_New.mono _ _ _ _
   | exact LeO.none _
   | refine LeO.ite ?_ ?_
   | refine LeO.bind ?_ (fun _ => ?_)
  ·intro y0 y1 y2 y3 y4 y5 y6
   unfold easy_Next.l0
   repeat' first
   | (with_reducible exact ih0 _ _ _ _ _ _ _)
   | (with_reducible exact ih1 _ _ _ _ _ _ _ _)
   | (with_reducible exact ih2 _ _ _ _ _ _ _)
   | (with_reducible exact easy_Shadow.mono _ _ _ _ _)
   | (with_reducible exact profile_At.mono _ _ _)
   | (with_reducible exact profile_New.mono _ _ _ _)
   | (with_reducible exact LeO.refl _)
   | (with_reducible exact LeO.none _)
   | (with_reducible refine LeO.ite ?_ ?_)
   | (with_reducible refine LeO.bind ?_ (fun _ => ?_))
   | exact ih0 _ _ _ _ _ _ _
   | exact ih1 _ _ _ _ _ _ _ _
   | exact ih2 _ _ _ _ _ _ _
   | exact easy_Shadow.mono _ _ _ _ _
   | exact profile_At.mono _ _ _
   | exact profile_New.mono _ _ _ _
   | exact LeO.none _
   | refine LeO.ite ?_ ?_
   | refine LeO.bind ?_ (fun _ => ?_)
theorem easy_Next.mono : ∀ a0 a1 a2 a3 a4 k, LeO (easy_Next.f k a0 a1 a2 a3 a4) (easy_Next.f (k + 1) a0 a1 a2 a3 a4) := by
 intro a0 a1 a2 a3 a4 k
 obtain ⟨ih0, ih1, ih2⟩ := easy_Next.mono_l k
 unfold easy_Next.f
 repeat' first
   | (with_reducible exact ih0 _ _ _ _ _ _ _)
   | (with_reducible exact ih1 _ _ _ _ _ _ _ _)
   | (with_reducible exact ih2 _ _ _ _ _ _ _)
   | (with_reducible exact easy_Shadow.mono _ _ _ _ _)
   | (with_reducible exact profile_At.mono _ _ _)
   | (with_reducible exact profile_New.mono _ _ _ _)
   | (with_reducible exact LeO.refl _)
   | (with_reducible exact LeO.none _)
   | (with_reducible refine LeO.ite ?_ ?_)
   | (with_reducible refine LeO.bind ?_ (fun _ => ?_))
   | exact ih0 _ _ _ _ _ _ _
   | exact ih1 _ _ _ _ _ _ _ _
   | exact ih2 _ _ _ _ _ _ _
   | exact easy_Shadow.mono _ _ _ _ _
   | exact profile_At.mono _ _ _
   | exact profile_New.mono _ _ _ _
   | exact LeO.none _
   | refine LeO.ite ?_ ?_
   | refine LeO.bind ?_ (fun _ => ?_)
set_option maxHeartbeats 8000000 in
set_option maxRecDepth 100000 in
theorem easy_Next.calls (k : Nat) (a0 : Int) (a1 : Int) (A2 : Option Addr) (c2 : Nat) (l2 : List (S38)) (A3 : Option Addr) (c3 : Nat) (l3 : List (S52)) (A4 : Option Addr) (c4 : Nat) (l4 : List Bool) (r1 : Int) (r2 : Bool) (w : World) (hr2 : Kd.C k38 w A2 l2.length l2) (hc2 : l2.length ≤ c2) (hr3 : Kd.C k52 w A3 l3.length l3) (hc3 : l3.length ≤ c3) (hr4 : Kd.C Kd.bool w A4 l4.length l4) (hc4 : l4.length ≤ c4) (h : easy_Next.f k a0 a1 l2 l3 l4 = some (r1, r2)) :
  Calls Try.prog 27 #[.int .i64 a0, .int .i64 a1, .slice A2 l2.length c2, .slice A3 l3.length c3, .slice A4 l4.length c4] w fun e w' => e = .returned (.tuple #[.int .i64 r1, .bool r2]) ∧ Below w.heap.size w w' := by
 have hu52 := Try.underlying52
 have HR2 := Aside0.mk hr2
 have HC2 := Aside0.mk hc2
 clear hr2; clear hc2
 have HR3 := Aside0.mk hr3
 have HC3 := Aside0.mk hc3
 clear hr3; clear hc3
 have HR4 := Aside0.mk hr4
 have HC4 := Aside0.mk hc4
 clear hr4; clear hc4
 have HB := Aside0.mk (Below.refl w.heap.size w)
 have H : ((profile_New.f k a0 a1 l2).bind fun t509 => ((profile_At.f k t509 a0).bind fun t512 => (easy_Next.l0 k a0 a1 l2 l3 l4 t512 0))) = some (r1, r2) := h
 clear h
 replace H := Option.bind_eq_some_iff.mp H
 obtain ⟨t509, A60, H⟩ := H
 replace H : ((profile_At.f k t509 a0).bind fun t512 => (easy_Next.l0 k a0 a1 l2 l3 l4 t512 0)) = some (r1, r2) := H
 have A6 := Aside0.mk A60
 clear A60
 replace H := Option.bind_eq_some_iff.mp H
 obtain ⟨t512, A70, H⟩ := H
 replace H : (easy_Next.l0 k a0 a1 l2 l3 l4 t512 0) = some (r1, r2) := H
 have A7 := Aside0.mk A70
 clear A70
 have HC8 := Aside0.mk H
 clear H
 go_enter Try.func27, Try.ntmps27
 go_upto_block 0 with (first | ((with_reducible refine gate_callee (f := 14) rfl ?_); refine goesL_ (some 22) rfl rfl Try.func14 (by kernel_rfl) rfl #[.int .i64 a0, .int .i64 a1, .slice A2 l2.length c2] rfl mt ?_; (with_reducible refine (profile_New.calls k a0 a1 _ _ l2 t509 _ ?side1 ?side2 A6.out).mono ?_); (case side1 => exact mC HR2.out); (case side2 => exact HC2.out); rintro e w9 ⟨v510, rfl, ho0, hb⟩; refine ⟨_, rfl, ?_⟩; have n0_ := Aside0.mk (Kd.V_lower (Kd.V_mono (ok' := fun k_ => True) ho0 (fun k_ hk_ => trivial)) (below_size (mB HB.out))); have n1_ := Aside0.mk (below_step (mB HB.out) hb); clear HB; have HO511 := n0_; have HB := n1_; clear n0_ n1_; (try clear hb); (try clear hb2); (try clear hk); (try clear hi); (try clear ho0); obtain ⟨Ao10, co10, eo10⟩ := Kd.V_slice HO511.out; subst eo10) | ((with_reducible refine gate_callee (f := 20) rfl ?_); refine goesL_ (some 24) rfl rfl Try.func20 (by kernel_rfl) rfl #[.slice Ao10 t509.length co10, .int .i64 a0] rfl mt ?_; (with_reducible refine (profile_At.calls k _ _ t509 a0 t512 _ ?side1 ?side2 A7.out).mono ?_); (case side1 => exact mC (Kd.V_reads' HO511.out).2.2); (case side2 => exact (Kd.V_reads' HO511.out).2.1); rintro e w11 ⟨rfl, hb⟩; refine ⟨_, rfl, ?_⟩; have n0_ := Aside0.mk (Kd.V_below (mV HO511.out) hb); have n1_ := Aside0.mk (below_step (mB HB.out) hb); clear HO511; clear HB; have HO511 := n0_; have HB := n1_; clear n0_ n1_; (try clear hb); (try clear hb2); (try clear hk); (try clear hi)))
 (try simp only [Act.put, List.setIfInBounds_toArray, List.set_cons_zero, List.set_cons_succ])
 go_cut [13] (fun v13 wc => ∃ (kq : Nat) (x13_7 : Int), v13 = .int .i64 x13_7 ∧ Aside0 (easy_Next.j1 kq a0 a1 l2 l3 l4 t512 x13_7 = some (r1, r2)) ∧ Aside0 (kq ≤ k) ∧ Aside0 (Below w.heap.size w wc))
 case first =>
  have H := HC8.out
  clear HC8
  have H' := Aside0.mk H
  clear H
  go_wp2
  go_loopg [13] k (fun kq v13 w' => ∃ (x13_1 : Int), v13 = .int .i64 x13_1 ∧ Aside0 (easy_Next.l0 kq a0 a1 l2 l3 l4 t512 x13_1 = some (r1, r2)) ∧ Aside0 (kq ≤ k) ∧ Aside0 (Below w.heap.size w w'))
  case atStart => exact ⟨(0), ez, H', ⟨Nat.le_refl _⟩, ⟨mB HB.out⟩⟩
  case round =>
   clear H'
   (try clear c1); (try clear c2); (try clear p2); (try clear c3); (try clear c4)
   obtain ⟨x13_1, rfl, HA, HK1, HB⟩ := hrel
   cases gk with
   | zero => exact absurd HA.out (by simp [easy_Next.l0])
   | succ k1 =>
    have H := HA.out
    clear HA
    simp only [easy_Next.l0] at H
    by_cases c12 : x13_1 < (l3.length : Int)
    ·rw [if_pos c12] at H
     have c12b0 : decide (x13_1 < (l3.length : Int)) = true := decide_eq_true c12
     clear c12
     (first | rw [c12b0] | (simp only [i64_w, i32_w]; rw [c12b0]) | skip)
     replace H := Option.bind_eq_some_iff.mp H
     obtain ⟨t513, A130, H⟩ := H
     replace H : (if t513 = true then (easy_Next.j1 k1 a0 a1 l2 l3 l4 t512 x13_1) else (easy_Next.l0 k1 a0 a1 l2 l3 l4 t512 (wrap64 (x13_1 + 1)))) = some (r1, r2) := H
     have A13 := Aside0.mk A130
     clear A130
     by_cases c14 : t513 = true
     ·subst c14
      have H1 : (easy_Next.j1 k1 a0 a1 l2 l3 l4 t512 x13_1) = some (r1, r2) := by rw [if_pos rfl] at H; exact H
      clear H
      have H := H1
      clear H1
      have H' := Aside0.mk H
      clear H
      go_wp2_with (first | (go_at_call 50; (with_reducible refine (easy_counts.calls x13_1 a1 _ _ l3 _ _ l4 true _ ?side1 ?side2 ?side3 ?side4 A13.out).mono ?_); (case side1 => repeat (first | exact (Kd.C_below HR3.out HB.out) | (with_reducible refine Kd.C_alloc ?_ _) | (with_reducible refine Kd.C_drewN ?_ _) | (with_reducible refine Kd.C_drew ?_))); (case side2 => exact HC3.out); (case side3 => repeat (first | exact (Kd.C_below HR4.out HB.out) | (with_reducible refine Kd.C_alloc ?_ _) | (with_reducible refine Kd.C_drewN ?_ _) | (with_reducible refine Kd.C_drew ?_))); (case side4 => exact HC4.out); rintro e w' ⟨rfl, ⟨nd, rfl⟩⟩))
      go_meet
      case rel => exact ⟨_, (x13_1), ez, H', ⟨by have := HK1.out; first | omega | exact Nat.le_refl _⟩, ⟨mB HB.out⟩⟩
     ·replace c14 := Bool.eq_false_iff.mpr c14
      subst c14
      have H1 : (easy_Next.l0 k1 a0 a1 l2 l3 l4 t512 (wrap64 (x13_1 + 1))) = some (r1, r2) := by rw [if_neg (show ¬ (false = true) by decide)] at H; exact H
      clear H
      have H := H1
      clear H1
      have H' := Aside0.mk H
      clear H
      go_wp2_with (first | (go_at_call 50; (with_reducible refine (easy_counts.calls x13_1 a1 _ _ l3 _ _ l4 false _ ?side1 ?side2 ?side3 ?side4 A13.out).mono ?_); (case side1 => repeat (first | exact (Kd.C_below HR3.out HB.out) | (with_reducible refine Kd.C_alloc ?_ _) | (with_reducible refine Kd.C_drewN ?_ _) | (with_reducible refine Kd.C_drew ?_))); (case side2 => exact HC3.out); (case side3 => repeat (first | exact (Kd.C_below HR4.out HB.out) | (with_reducible refine Kd.C_alloc ?_ _) | (with_reducible refine Kd.C_drewN ?_ _) | (with_reducible refine Kd.C_drew ?_))); (case side4 => exact HC4.out); rintro e w' ⟨rfl, ⟨nd, rfl⟩⟩))
      go_roundg k1
      case measure => have := HK1.out; omega
      case rel => exact ⟨(wrap64 (x13_1 + 1)), ez, H', ⟨by have := HK1.out; omega⟩, ⟨mB HB.out⟩⟩
    ·rw [if_neg c12] at H
     have c12b0 : decide (x13_1 < (l3.length : Int)) = false := decide_eq_false c12
     clear c12
     (first | rw [c12b0] | (simp only [i64_w, i32_w]; rw [c12b0]) | skip)
     have H' := Aside0.mk H
     clear H
     go_wp2
     go_meet
     case rel => exact ⟨_, (x13_1), ez, H', ⟨by have := HK1.out; first | omega | exact Nat.le_refl _⟩, ⟨mB HB.out⟩⟩
 case rest =>
  clear HC8
  (try clear c1); (try clear c2); (try clear p2); (try clear c3); (try clear c4); (try clear p6); (try clear c12); (try clear c12b0); (try clear c14); (try clear p2)
  obtain ⟨kq, x13_7, rfl, HA, HJ7, HB⟩ := hcut
  cases kq with
  | zero => exact absurd HA.out (by simp [easy_Next.j1])
  | succ kj7 =>
   have H := HA.out
   clear HA
   simp only [easy_Next.j1] at H
   by_cases c15 : x13_7 = (l3.length : Int)
   ·rw [if_pos c15] at H
    have c15b0 : (x13_7 == (l3.length : Int)) = true := beq_iff_eq.mpr c15
    have c15b1 : (x13_7 != (l3.length : Int)) = false := bne_eq_false_iff_eq.mpr c15
    clear c15
    simp only [Option.some.injEq, Prod.mk.injEq] at H
    obtain ⟨rfl, rfl⟩ := H
    go_wp2
    go_ret2
    exact ⟨by first | rfl | (simp [errW_none, errW_some] <;> rfl) | (simp [*, errW_none, errW_some] <;> rfl), by repeat (first | (with_reducible first | exact HB.out | apply below_alloc | apply pw_below_drewN | apply below_drew1) | exact HB.out)⟩
   ·rw [if_neg c15] at H
    have c15b0 : (x13_7 == (l3.length : Int)) = false := beq_eq_false_iff_ne.mpr c15
    have c15b1 : (x13_7 != (l3.length : Int)) = true := bne_iff_ne.mpr c15
    by_cases c16 : 0 ≤ x13_7
    ·rw [if_pos c16] at H
     have c16b0 : decide (0 ≤ x13_7) = true := decide_eq_true c16
     clear c16
     by_cases c17 : x13_7 < (l3.length : Int)
     ·rw [if_pos c17] at H
      have c17b0 : decide (x13_7 < (l3.length : Int)) = true := decide_eq_true c17
      clear c17
      by_cases c18 : ((rd_T52 l3 x13_7).f0) ≤ t512
      ·rw [if_pos c18] at H
       have c18b0 : decide (((rd_T52 l3 x13_7).f0) ≤ t512) = true := decide_eq_true c18
       clear c18
       simp only [Option.some.injEq, Prod.mk.injEq] at H
       obtain ⟨rfl, rfl⟩ := H
       have p514 : 0 ≤ (x13_7 : Int) := oda
       have q514 : x13_7 < (l3.length : Int) := oda
       obtain ⟨ad514, e514, hx514_0, hx514_1⟩ := at_T52 HR3.out x13_7 p514 q514
       cases e514
       replace hx514_0 := (HB.out.cell (World.block_lt_of_cell? w _ hx514_0)).trans hx514_0
       replace hx514_1 := (HB.out.cell (World.block_lt_of_cell? w _ hx514_1)).trans hx514_1
       replace p514 := eq_true p514
       replace q514 := eq_true q514
       go_wp2
       go_ret2
       exact ⟨by first | rfl | (simp [errW_none, errW_some] <;> rfl) | (simp [*, errW_none, errW_some] <;> rfl), by repeat (first | (with_reducible first | exact HB.out | apply below_alloc | apply pw_below_drewN | apply below_drew1) | exact HB.out)⟩
      ·rw [if_neg c18] at H
       have c18b0 : decide (((rd_T52 l3 x13_7).f0) ≤ t512) = false := decide_eq_false c18
       clear c18
       replace H := Option.bind_eq_some_iff.mp H
       obtain ⟨⟨t516, t517, t518⟩, A190, H⟩ := H
       replace H : (easy_Next.l1 kj7 a0 a1 l3 l4 t512 t516 t517 (wrap64 (x13_7 + 1))) = some (r1, r2) := H
       have A19 := Aside0.mk A190
       clear A190
       have H' := Aside0.mk H
       clear H
       have p514 : 0 ≤ (x13_7 : Int) := oda
       have q514 : x13_7 < (l3.length : Int) := oda
       obtain ⟨ad514, e514, hx514_0, hx514_1⟩ := at_T52 HR3.out x13_7 p514 q514
       cases e514
       replace hx514_0 := (HB.out.cell (World.block_lt_of_cell? w _ hx514_0)).trans hx514_0
       replace hx514_1 := (HB.out.cell (World.block_lt_of_cell? w _ hx514_1)).trans hx514_1
       replace p514 := eq_true p514
       replace q514 := eq_true q514
       have p515 : 0 ≤ (x13_7 : Int) := oda
       have q515 : x13_7 < (l3.length : Int) := oda
       obtain ⟨ad515, e515, hx515_0, hx515_1⟩ := at_T52 HR3.out x13_7 p515 q515
       obtain rfl : ad514 = ad515 := (by injection e515)
       replace hx515_0 := (HB.out.cell (World.block_lt_of_cell? w _ hx515_0)).trans hx515_0
       replace hx515_1 := (HB.out.cell (World.block_lt_of_cell? w _ hx515_1)).trans hx515_1
       replace p515 := eq_true p515
       replace q515 := eq_true q515
       go_wp2_with (first | ((with_reducible refine gate_callee (f := 29) rfl ?_); refine goesL_ (some 62) rfl rfl Try.func29 (by kernel_rfl) rfl #[.int .i64 a0, .int .i64 a1, .slice A2 l2.length c2, .int .i64 ((rd_T52 l3 x13_7).f0)] rfl mt ?_; (with_reducible refine (easy_Shadow.calls kj7 a0 a1 _ _ l2 ((rd_T52 l3 x13_7).f0) t516 t517 t518 _ ?side1 ?side2 A19.out).mono ?_); (case side1 => repeat (first | exact (Kd.C_below HR2.out HB.out) | (with_reducible refine Kd.C_alloc ?_ _) | (with_reducible refine Kd.C_drewN ?_ _) | (with_reducible refine Kd.C_drew ?_))); (case side2 => exact HC2.out); rintro e w20 ⟨rfl, hb⟩; refine ⟨_, rfl, ?_⟩; have n0_ := Aside0.mk (below_step (mB HB.out) hb); clear HB; have HB := n0_; clear n0_; (try clear hb); (try clear hb2); (try clear hk); (try clear hi)))
       (try simp only [Act.put, List.setIfInBounds_toArray, List.set_cons_zero, List.set_cons_succ])
       go_loopg [17] kj7 (fun kq v17 w' => ∃ (x17_2 : Int), v17 = .int .i64 x17_2 ∧ Aside0 (easy_Next.l1 kq a0 a1 l3 l4 t512 t516 t517 x17_2 = some (r1, r2)) ∧ Aside0 (kq ≤ kj7) ∧ Aside0 (Below w.heap.size w w'))
       case atStart => exact ⟨(wrap64 (x13_7 + 1)), ez, H', ⟨Nat.le_refl _⟩, ⟨mB HB.out⟩⟩
       case round =>
        clear H'
        (try clear c1); (try clear c2); (try clear p2); (try clear c3); (try clear c4); (try clear p5); (try clear q5); (try clear hx5); (try clear p6); (try clear c12); (try clear c12b0); (try clear c14); (try clear c15); (try clear c15b0); (try clear c15b1); (try clear c16); (try clear c16b0); (try clear c17); (try clear c17b0); (try clear c18); (try clear c18b0); (try clear c20); (try clear hx514_0); (try clear hx514_1); (try clear hx515_0); (try clear hx515_1); (try clear p2); (try clear p514); (try clear p515); (try clear p6); (try clear q514); (try clear q515)
        obtain ⟨x17_2, rfl, HA, HK2, HB⟩ := hrel
        cases gk with
        | zero => exact absurd HA.out (by simp [easy_Next.l1])
        | succ k2 =>
         have H := HA.out
         clear HA
         simp only [easy_Next.l1] at H
         by_cases c21 : x17_2 < (l3.length : Int)
         ·rw [if_pos c21] at H
          have c21b0 : decide (x17_2 < (l3.length : Int)) = true := decide_eq_true c21
          clear c21
          by_cases c22 : 0 ≤ x17_2
          ·rw [if_pos c22] at H
           have c22b0 : decide (0 ≤ x17_2) = true := decide_eq_true c22
           clear c22
           replace H := Option.bind_eq_some_iff.mp H
           obtain ⟨t521, A230, H⟩ := H
           replace H : (if t521 = true then (if ((rd_T52 l3 x17_2).f0) ≤ t512 then (if ((rd_T52 l3 x17_2).f1) ≤ (wrap64 (t516 - a0)) then (some (x17_2, true)) else (if ((rd_T52 l3 x17_2).f0) ≤ t517 then (some (x17_2, true)) else (easy_Next.l1 k2 a0 a1 l3 l4 t512 t516 t517 (wrap64 (x17_2 + 1))))) else (easy_Next.l1 k2 a0 a1 l3 l4 t512 t516 t517 (wrap64 (x17_2 + 1)))) else (easy_Next.l1 k2 a0 a1 l3 l4 t512 t516 t517 (wrap64 (x17_2 + 1)))) = some (r1, r2) := H
           have A23 := Aside0.mk A230
           clear A230
           by_cases c24 : t521 = true
           ·subst c24
            have H1 : (if ((rd_T52 l3 x17_2).f0) ≤ t512 then (if ((rd_T52 l3 x17_2).f1) ≤ (wrap64 (t516 - a0)) then (some (x17_2, true)) else (if ((rd_T52 l3 x17_2).f0) ≤ t517 then (some (x17_2, true)) else (easy_Next.l1 k2 a0 a1 l3 l4 t512 t516 t517 (wrap64 (x17_2 + 1))))) else (easy_Next.l1 k2 a0 a1 l3 l4 t512 t516 t517 (wrap64 (x17_2 + 1)))) = some (r1, r2) := by rw [if_pos rfl] at H; exact H
            clear H
            have H := H1
            clear H1
            by_cases c25 : ((rd_T52 l3 x17_2).f0) ≤ t512
            ·rw [if_pos c25] at H
             have c25b0 : decide (((rd_T52 l3 x17_2).f0) ≤ t512) = true := decide_eq_true c25
             clear c25
             by_cases c26 : ((rd_T52 l3 x17_2).f1) ≤ (wrap64 (t516 - a0))
             ·rw [if_pos c26] at H
              have c26b0 : decide (((rd_T52 l3 x17_2).f1) ≤ (wrap64 (t516 - a0))) = true := decide_eq_true c26
              clear c26
              simp only [Option.some.injEq, Prod.mk.injEq] at H
              obtain ⟨rfl, rfl⟩ := H
              have p519 : 0 ≤ (x17_2 : Int) := oda
              have q519 : x17_2 < (l3.length : Int) := oda
              obtain ⟨ad519, e519, hx519_0, hx519_1⟩ := at_T52 HR3.out x17_2 p519 q519
              obtain rfl : ad514 = ad519 := (by injection e519)
              replace hx519_0 := (HB.out.cell (World.block_lt_of_cell? w _ hx519_0)).trans hx519_0
              replace hx519_1 := (HB.out.cell (World.block_lt_of_cell? w _ hx519_1)).trans hx519_1
              replace p519 := eq_true p519
              replace q519 := eq_true q519
              go_wp2_with (first | ((with_reducible refine gate_dst (N := 18) rfl ?_); refine box_event ?hg (N := 18) ?hd (cs := #[.int .i64 0, .int .i64 0]) (t := 52) ?hr ?_; (case hd => rfl); (case hg => rfl); (case hr => first | (go_simp; done) | (go_simp; rfl)); intro gb520 hg w27 hbox hb; have n0_ := Aside0.mk (below_step (mB HB.out) hb); have n1_ := Aside0.mk (hbox); have n2_ := Aside0.mk ((by rw [hg]; exact (below_size (mB HB.out)) : w.heap.size ≤ gb520)); have n3_ := Aside0.mk ((by rw [hg]; exact (below_size (mB HB.out)) : w.heap.size ≤ gb520)); clear HB; have HB := n0_; have BK520 := n1_; have GW520 := n2_; have GE520 := n3_; clear n0_ n1_ n2_ n3_; clear hb hbox hg; have hcz28_0 : w27.cell? ⟨gb520, 0, none⟩ = some (.int .i64 0) := (blk_cell BK520.out 0).trans rfl; have hcz28_1 : w27.cell? ⟨gb520, 1, none⟩ = some (.int .i64 0) := (blk_cell BK520.out 1).trans rfl; have hfz28_0 := blk_frozen BK520.out 0; have hfz28_1 := blk_frozen BK520.out 1) | ((with_reducible refine gate_callee (f := 50) rfl ?_); refine goesL_ (some 82) rfl rfl Try.func50 (by kernel_rfl) rfl #[.int .i64 x17_2, .int .i64 a1, .slice (some ad514) l3.length c3, .slice A4 l4.length c4] rfl mt ?_; (with_reducible refine (easy_counts.calls x17_2 a1 _ _ l3 _ _ l4 true _ ?side1 ?side2 ?side3 ?side4 A23.out).mono ?_); (case side1 => exact Kd.C_below HR3.out (mBs HB.out)); (case side2 => exact HC3.out); (case side3 => exact Kd.C_below HR4.out (mBs HB.out)); (case side4 => exact HC4.out); rintro e w' ⟨rfl, ⟨nd, rfl⟩⟩; refine ⟨_, rfl, ?_⟩))
              go_ret2
              exact ⟨by first | rfl | (simp [errW_none, errW_some] <;> rfl) | (simp [*, errW_none, errW_some] <;> rfl), by repeat (first | (with_reducible first | exact HB.out | apply below_alloc | apply pw_below_drewN | apply below_drew1 | refine below_set ?_ GE520.out) | exact HB.out)⟩
             ·rw [if_neg c26] at H
              have c26b0 : decide (((rd_T52 l3 x17_2).f1) ≤ (wrap64 (t516 - a0))) = false := decide_eq_false c26
              clear c26
              by_cases c29 : ((rd_T52 l3 x17_2).f0) ≤ t517
              ·rw [if_pos c29] at H
               have c29b0 : decide (((rd_T52 l3 x17_2).f0) ≤ t517) = true := decide_eq_true c29
               clear c29
               simp only [Option.some.injEq, Prod.mk.injEq] at H
               obtain ⟨rfl, rfl⟩ := H
               have p519 : 0 ≤ (x17_2 : Int) := oda
               have q519 : x17_2 < (l3.length : Int) := oda
               obtain ⟨ad519, e519, hx519_0, hx519_1⟩ := at_T52 HR3.out x17_2 p519 q519
               obtain rfl : ad514 = ad519 := (by injection e519)
               replace hx519_0 := (HB.out.cell (World.block_lt_of_cell? w _ hx519_0)).trans hx519_0
               replace hx519_1 := (HB.out.cell (World.block_lt_of_cell? w _ hx519_1)).trans hx519_1
               replace p519 := eq_true p519
               replace q519 := eq_true q519
               go_wp2_with (first | ((with_reducible refine gate_dst (N := 18) rfl ?_); refine box_event ?hg (N := 18) ?hd (cs := #[.int .i64 0, .int .i64 0]) (t := 52) ?hr ?_; (case hd => rfl); (case hg => rfl); (case hr => first | (go_simp; done) | (go_simp; rfl)); intro gb520 hg w30 hbox hb; have n0_ := Aside0.mk (below_step (mB HB.out) hb); have n1_ := Aside0.mk (hbox); have n2_ := Aside0.mk ((by rw [hg]; exact (below_size (mB HB.out)) : w.heap.size ≤ gb520)); have n3_ := Aside0.mk ((by rw [hg]; exact (below_size (mB HB.out)) : w.heap.size ≤ gb520)); clear HB; have HB := n0_; have BK520 := n1_; have GW520 := n2_; have GE520 := n3_; clear n0_ n1_ n2_ n3_; clear hb hbox hg; have hcz31_0 : w30.cell? ⟨gb520, 0, none⟩ = some (.int .i64 0) := (blk_cell BK520.out 0).trans rfl; have hcz31_1 : w30.cell? ⟨gb520, 1, none⟩ = some (.int .i64 0) := (blk_cell BK520.out 1).trans rfl; have hfz31_0 := blk_frozen BK520.out 0; have hfz31_1 := blk_frozen BK520.out 1) | ((with_reducible refine gate_callee (f := 50) rfl ?_); refine goesL_ (some 82) rfl rfl Try.func50 (by kernel_rfl) rfl #[.int .i64 x17_2, .int .i64 a1, .slice (some ad514) l3.length c3, .slice A4 l4.length c4] rfl mt ?_; (with_reducible refine (easy_counts.calls x17_2 a1 _ _ l3 _ _ l4 true _ ?side1 ?side2 ?side3 ?side4 A23.out).mono ?_); (case side1 => exact Kd.C_below HR3.out (mBs HB.out)); (case side2 => exact HC3.out); (case side3 => exact Kd.C_below HR4.out (mBs HB.out)); (case side4 => exact HC4.out); rintro e w' ⟨rfl, ⟨nd, rfl⟩⟩; refine ⟨_, rfl, ?_⟩))
               go_ret2
               exact ⟨by first | rfl | (simp [errW_none, errW_some] <;> rfl) | (simp [*, errW_none, errW_some] <;> rfl), by repeat (first | (with_reducible first | exact HB.out | apply below_alloc | apply pw_below_drewN | apply below_drew1 | refine below_set ?_ GE520.out) | exact HB.out)⟩
              ·rw [if_neg c29] at H
               have c29b0 : decide (((rd_T52 l3 x17_2).f0) ≤ t517) = false := decide_eq_false c29
               clear c29
               have H' := Aside0.mk H
               clear H
               have p519 : 0 ≤ (x17_2 : Int) := oda
               have q519 : x17_2 < (l3.length : Int) := oda
               obtain ⟨ad519, e519, hx519_0, hx519_1⟩ := at_T52 HR3.out x17_2 p519 q519
               obtain rfl : ad514 = ad519 := (by injection e519)
               replace hx519_0 := (HB.out.cell (World.block_lt_of_cell? w _ hx519_0)).trans hx519_0
               replace hx519_1 := (HB.out.cell (World.block_lt_of_cell? w _ hx519_1)).trans hx519_1
               replace p519 := eq_true p519
               replace q519 := eq_true q519
               go_wp2_with (first | ((with_reducible refine gate_dst (N := 18) rfl ?_); refine box_event ?hg (N := 18) ?hd (cs := #[.int .i64 0, .int .i64 0]) (t := 52) ?hr ?_; (case hd => rfl); (case hg => rfl); (case hr => first | (go_simp; done) | (go_simp; rfl)); intro gb520 hg w32 hbox hb; have n0_ := Aside0.mk (below_step (mB HB.out) hb); have n1_ := Aside0.mk (hbox); have n2_ := Aside0.mk ((by rw [hg]; exact (below_size (mB HB.out)) : w.heap.size ≤ gb520)); have n3_ := Aside0.mk ((by rw [hg]; exact (below_size (mB HB.out)) : w.heap.size ≤ gb520)); clear HB; have HB := n0_; have BK520 := n1_; have GW520 := n2_; have GE520 := n3_; clear n0_ n1_ n2_ n3_; clear hb hbox hg; have hcz33_0 : w32.cell? ⟨gb520, 0, none⟩ = some (.int .i64 0) := (blk_cell BK520.out 0).trans rfl; have hcz33_1 : w32.cell? ⟨gb520, 1, none⟩ = some (.int .i64 0) := (blk_cell BK520.out 1).trans rfl; have hfz33_0 := blk_frozen BK520.out 0; have hfz33_1 := blk_frozen BK520.out 1) | ((with_reducible refine gate_callee (f := 50) rfl ?_); refine goesL_ (some 82) rfl rfl Try.func50 (by kernel_rfl) rfl #[.int .i64 x17_2, .int .i64 a1, .slice (some ad514) l3.length c3, .slice A4 l4.length c4] rfl mt ?_; (with_reducible refine (easy_counts.calls x17_2 a1 _ _ l3 _ _ l4 true _ ?side1 ?side2 ?side3 ?side4 A23.out).mono ?_); (case side1 => exact Kd.C_below HR3.out (mBs HB.out)); (case side2 => exact HC3.out); (case side3 => exact Kd.C_below HR4.out (mBs HB.out)); (case side4 => exact HC4.out); rintro e w' ⟨rfl, ⟨nd, rfl⟩⟩; refine ⟨_, rfl, ?_⟩))
               go_roundg k2
               case measure => have := HJ7.out; have := HK2.out; omega
               case rel => exact ⟨(wrap64 (x17_2 + 1)), ez, H', ⟨by have := HJ7.out; have := HK2.out; omega⟩, ⟨mBs HB.out⟩⟩
            ·rw [if_neg c25] at H
             have c25b0 : decide (((rd_T52 l3 x17_2).f0) ≤ t512) = false := decide_eq_false c25
             clear c25
             have H' := Aside0.mk H
             clear H
             have p519 : 0 ≤ (x17_2 : Int) := oda
             have q519 : x17_2 < (l3.length : Int) := oda
             obtain ⟨ad519, e519, hx519_0, hx519_1⟩ := at_T52 HR3.out x17_2 p519 q519
             obtain rfl : ad514 = ad519 := (by injection e519)
             replace hx519_0 := (HB.out.cell (World.block_lt_of_cell? w _ hx519_0)).trans hx519_0
             replace hx519_1 := (HB.out.cell (World.block_lt_of_cell? w _ hx519_1)).trans hx519_1
             replace p519 := eq_true p519
             replace q519 := eq_true q519
             go_wp2_with (first | ((with_reducible refine gate_dst (N := 18) rfl ?_); refine box_event ?hg (N := 18) ?hd (cs := #[.int .i64 0, .int .i64 0]) (t := 52) ?hr ?_; (case hd => rfl); (case hg => rfl); (case hr => first | (go_simp; done) | (go_simp; rfl)); intro gb520 hg w34 hbox hb; have n0_ := Aside0.mk (below_step (mB HB.out) hb); have n1_ := Aside0.mk (hbox); have n2_ := Aside0.mk ((by rw [hg]; exact (below_size (mB HB.out)) : w.heap.size ≤ gb520)); have n3_ := Aside0.mk ((by rw [hg]; exact (below_size (mB HB.out)) : w.heap.size ≤ gb520)); clear HB; have HB := n0_; have BK520 := n1_; have GW520 := n2_; have GE520 := n3_; clear n0_ n1_ n2_ n3_; clear hb hbox hg; have hcz35_0 : w34.cell? ⟨gb520, 0, none⟩ = some (.int .i64 0) := (blk_cell BK520.out 0).trans rfl; have hcz35_1 : w34.cell? ⟨gb520, 1, none⟩ = some (.int .i64 0) := (blk_cell BK520.out 1).trans rfl; have hfz35_0 := blk_frozen BK520.out 0; have hfz35_1 := blk_frozen BK520.out 1) | ((with_reducible refine gate_callee (f := 50) rfl ?_); refine goesL_ (some 82) rfl rfl Try.func50 (by kernel_rfl) rfl #[.int .i64 x17_2, .int .i64 a1, .slice (some ad514) l3.length c3, .slice A4 l4.length c4] rfl mt ?_; (with_reducible refine (easy_counts.calls x17_2 a1 _ _ l3 _ _ l4 true _ ?side1 ?side2 ?side3 ?side4 A23.out).mono ?_); (case side1 => exact Kd.C_below HR3.out (mBs HB.out)); (case side2 => exact HC3.out); (case side3 => exact Kd.C_below HR4.out (mBs HB.out)); (case side4 => exact HC4.out); rintro e w' ⟨rfl, ⟨nd, rfl⟩⟩; refine ⟨_, rfl, ?_⟩))
             go_roundg k2
             case measure => have := HJ7.out; have := HK2.out; omega
             case rel => exact ⟨(wrap64 (x17_2 + 1)), ez, H', ⟨by have := HJ7.out; have := HK2.out; omega⟩, ⟨mBs HB.out⟩⟩
           ·replace c24 := Bool.eq_false_iff.mpr c24
            subst c24
            have H1 : (easy_Next.l1 k2 a0 a1 l3 l4 t512 t516 t517 (wrap64 (x17_2 + 1))) = some (r1, r2) := by rw [if_neg (show ¬ (false = true) by decide)] at H; exact H
            clear H
            have H := H1
            clear H1
            have H' := Aside0.mk H
            clear H
            have p519 : 0 ≤ (x17_2 : Int) := oda
            have q519 : x17_2 < (l3.length : Int) := oda
            obtain ⟨ad519, e519, hx519_0, hx519_1⟩ := at_T52 HR3.out x17_2 p519 q519
            obtain rfl : ad514 = ad519 := (by injection e519)
            replace hx519_0 := (HB.out.cell (World.block_lt_of_cell? w _ hx519_0)).trans hx519_0
            replace hx519_1 := (HB.out.cell (World.block_lt_of_cell? w _ hx519_1)).trans hx519_1
            replace p519 := eq_true p519
            replace q519 := eq_true q519
            go_wp2_with (first | ((with_reducible refine gate_dst (N := 18) rfl ?_); refine box_event ?hg (N := 18) ?hd (cs := #[.int .i64 0, .int .i64 0]) (t := 52) ?hr ?_; (case hd => rfl); (case hg => rfl); (case hr => first | (go_simp; done) | (go_simp; rfl)); intro gb520 hg w36 hbox hb; have n0_ := Aside0.mk (below_step (mB HB.out) hb); have n1_ := Aside0.mk (hbox); have n2_ := Aside0.mk ((by rw [hg]; exact (below_size (mB HB.out)) : w.heap.size ≤ gb520)); have n3_ := Aside0.mk ((by rw [hg]; exact (below_size (mB HB.out)) : w.heap.size ≤ gb520)); clear HB; have HB := n0_; have BK520 := n1_; have GW520 := n2_; have GE520 := n3_; clear n0_ n1_ n2_ n3_; clear hb hbox hg; have hcz37_0 : w36.cell? ⟨gb520, 0, none⟩ = some (.int .i64 0) := (blk_cell BK520.out 0).trans rfl; have hcz37_1 : w36.cell? ⟨gb520, 1, none⟩ = some (.int .i64 0) := (blk_cell BK520.out 1).trans rfl; have hfz37_0 := blk_frozen BK520.out 0; have hfz37_1 := blk_frozen BK520.out 1) | ((with_reducible refine gate_callee (f := 50) rfl ?_); refine goesL_ (some 82) rfl rfl Try.func50 (by kernel_rfl) rfl #[.int .i64 x17_2, .int .i64 a1, .slice (some ad514) l3.length c3, .slice A4 l4.length c4] rfl mt ?_; (with_reducible refine (easy_counts.calls x17_2 a1 _ _ l3 _ _ l4 false _ ?side1 ?side2 ?side3 ?side4 A23.out).mono ?_); (case side1 => exact Kd.C_below HR3.out (mBs HB.out)); (case side2 => exact HC3.out); (case side3 => exact Kd.C_below HR4.out (mBs HB.out)); (case side4 => exact HC4.out); rintro e w' ⟨rfl, ⟨nd, rfl⟩⟩; refine ⟨_, rfl, ?_⟩))
            go_roundg k2
            case measure => have := HJ7.out; have := HK2.out; omega
            case rel => exact ⟨(wrap64 (x17_2 + 1)), ez, H', ⟨by have := HJ7.out; have := HK2.out; omega⟩, ⟨mBs HB.out⟩⟩
          ·rw [if_neg c22] at H
           exact absurd H (by simp)
         ·rw [if_neg c21] at H
          have c21b0 : decide (x17_2 < (l3.length : Int)) = false := decide_eq_false c21
          clear c21
          simp only [Option.some.injEq, Prod.mk.injEq] at H
          obtain ⟨rfl, rfl⟩ := H
          go_wp2
          go_ret2
          exact ⟨by first | rfl | (simp [errW_none, errW_some] <;> rfl) | (simp [*, errW_none, errW_some] <;> rfl), by repeat (first | (with_reducible first | exact HB.out | apply below_alloc | apply pw_below_drewN | apply below_drew1) | exact HB.out)⟩
     ·rw [if_neg c17] at H
      exact absurd H (by simp)
    ·rw [if_neg c16] at H
     exact absurd H (by simp)

end Go.Proofs.Ytedpoahndddgfaa.PAll
end
section
namespace Go.Proofs.Ytedpoahndddgfaa.PAll
open Go.RowKit Go.Proofs.YtedpoahndddgfaaW.PrintWords Go.Proofs.YtedpoahndddgfaaW.PrintLast Go.Proofs.YtedpoahndddgfaaW.PrintMore
attribute [local go_sem] max2_int min2_int max_two min_two max_three min_three max_four min_four   -- for this text's walks alone
set_option linter.unusedVariables false
set_option linter.unusedSimpArgs false

/-! ### A literal's place, and an append onto a full row: what it was stays as it was -/
section
variable {P : Program} {ops : Array Oper} {rest : List Oper} {o : Oper} {a : Act} {Q : Exit → Act → World → Prop} {α : Type}
theorem R_lit1 (d : Kd α) {w0 W : World} (base e : Nat) (hgd : o.guard = none) {N : Tmp} (_hd : o.dst = some N) {xs : List α} {inner : List Value} {ok okp : Nat → Prop}
    (hrun : (execOp a.eval o).run P W = .ok (.value (.slice (some ⟨W.heap.size, 0, none⟩) xs.length xs.length)) (W.alloc (.cells inner.toArray e)))
    (hrep : Reps (d.M W base okp) d.sz xs inner) (hok : ∀ k, okp k → ok k) (hfresh : ok W.heap.size) (HB : Below base w0 W) (hbase : base ≤ W.heap.size) (hm : xs.length ≤ 9223372036854775807)
    (h : ∀ g w1, d.R e w1 base ok (.slice (some ⟨g, 0, none⟩) xs.length xs.length) xs → Below base w0 w1 → wpList P ops Q rest (a.put o.dst (.slice (some ⟨g, 0, none⟩) xs.length xs.length)) w1) : wpList P ops Q (o :: rest) a W := by
  refine Kd.event_run hgd hrun (h _ _ ⟨fun k hk => ?_, inner, ?_, ?_⟩ (HB.alloc hbase _))
  · have : W.heap.size = k := by simpa [Value.ownBlock] using hk
    subst this
    exact hfresh
  · have h2 := World.ownsRow_lit (base := base) (e := e) (size := d.sz) W inner.toArray xs.length hbase (by simpa [maxLen] using hm) (by simpa using hrep.1)
    simpa using h2
  · refine hrep.imp_ (fun p c hp => d.M_mono (fun k hk => ⟨hok k hk.1, fun he => ?_⟩) (Kd.M_below (d.M_bound hp) (below_alloc (Below.refl _ _) _)))
    have h3 : k = W.heap.size := by simpa [Value.ownBlock] using he
    have := hk.2.2.1
    omega
theorem R_append_full (d : Kd α) {w0 W : World} (base : Nat) (hgd : o.guard = none) (s x : Operand) (t e : TypeId) (z : Value) (bytes : Nat)
    (ho : o.op = .call { callee := .builtin .append, args := #[s, x], argTypes := #[t, t] })
    (ht : P.underlying t = some (.slice e)) (hinfo : (P.info? e).map (fun i => (i.zero, i.size, i.bytes)) = some (some z, d.sz, bytes)) (hz : z.cells.size = d.sz) (hs0 : 0 < d.sz) (hb0 : 0 < bytes)
    (g : Nat) (xs : List α) (p : α) (cs : List Value) (ok okp : Nat → Prop) (hs : a.eval s = .slice (some ⟨g, 0, none⟩) xs.length xs.length) (hx : a.eval x = .slice (some ⟨W.heap.size, 0, none⟩) 1 1) (hp : d.M W base okp p cs) (hokp : ∀ k, okp k → ok k ∧ some k ≠ (Value.slice (some ⟨g, 0, none⟩) xs.length xs.length).ownBlock) (hfresh : ∀ k, W.heap.size ≤ k → ok k)
    (HO : d.R e W base ok (.slice (some ⟨g, 0, none⟩) xs.length xs.length) xs) (HB : Below base w0 W) (hbase : base ≤ W.heap.size) (hl : (xs.length + 1) * bytes ≤ 140737488355328)
    (h : ∀ v1 w1, d.R e w1 base ok v1 (xs ++ [p]) → Below base w0 w1 → W.grownBy w1 none → wpList P ops Q rest (a.put o.dst v1) w1) :
    wpList P ops Q (o :: rest) a (W.alloc (.cells cs.toArray e)) := by
  obtain ⟨h0, inner, hown, hr⟩ := HO
  obtain ⟨i0, hi, hzz⟩ := Option.map_eq_some_iff.1 hinfo
  simp only [Prod.mk.injEq] at hzz
  obtain ⟨hz0, hz1, hz2⟩ := hzz
  have hlen : xs.length + 1 ≤ 140737488355328 := Nat.le_trans (Nat.le_mul_of_pos_right _ hb0) hl
  have hown2 := hown.alloc (.cells cs.toArray e)
  refine wpList_append_grows (W.alloc (.cells cs.toArray e)) hgd s x t ho e i0 z d.sz bytes ht hi hz0 hz1 hz2 hz hs0 (some ⟨g, 0, none⟩) xs.length xs.length inner hs (fun h => by cases h) hown.1
    (fun b hb j u hj => by injection hb with hb; subst hb; exact hown2.cells (g := g) rfl j u hj) ⟨W.heap.size, 0, none⟩ 1 1 cs hx (by rw [d.K_len (d.K_of_M hp)]; simp)
    (by simpa using World.news_of_block (cs := cs.toArray) (t := e) (fr := (0, 0)) (heap_alloc_new W (.cells cs.toArray e))) (d.K_one (d.K_of_M hp)) (by omega) (by simp only [maxLen]; omega) hl ?_
  intro v1 w1 hown1 hg
  have hg2 : W.grownBy w1 none := World.grownBy.trans (World.grownBy_alloc W _ _) hg
  have hg3 : W.grownBy w1 (Value.slice (some ⟨g, 0, none⟩) xs.length xs.length).ownBlock := { hg2 with block := fun k hk _ => hg2.block k hk (by simp) }
  have hat : ∃ b, v1.ownBlock = some b ∧ W.heap.size ≤ b := by
    obtain ⟨g', cap, rfl, _, _⟩ := hown1.form (by omega)
    have := own_base hown1 g' (by simp [Value.ownBlock])
    exact ⟨g', by simp [Value.ownBlock], by simp at this; omega⟩
  refine h v1 w1 (Kd.R_appended h0 hr hp hokp hfresh (own_weaken hown1 (by simp; omega)) hg3 (.inr hat)) ((HB.alloc hbase _).grown hg (by simp; omega) (fun k hk => by cases hk)) hg2
end

/-! ### prebendlaw17_awake: function 31 -/
def prebendlaw17_awake.f (k : Nat)  : Option (Bool) := (some (([(⟨5, 3⟩ : S38)] : List (S38)) : List (S38))).bind fun y540 => ((some (([(⟨2, 9⟩ : S52), (⟨1, 5⟩ : S52), (⟨1, 9⟩ : S52)] : List (S52)) : List (S52))).bind fun y543 => ((easy_Next.f k 0 4 y540 y543 ([] : List Bool)).bind fun bt546 => (if y540.length < 8796093022208 then ((easy_Next.f k 0 4 (y540 ++ [(⟨5, 1⟩ : S38)]) y543 (([false, true] : List Bool))).bind fun bt554 => ((easy_Shadow.f k 0 4 y540 2).bind fun bt556 => (if bt546.1 = 1 then (if bt546.2 = true then (if bt554.2 = true then (some false) else (if bt556.1 = 5 then (if bt556.2.1 = 2 then (some bt556.2.2) else (some false)) else (some false))) else (some false)) else (some false)))) else (none))))
theorem prebendlaw17_awake.mono : ∀ k, LeO (prebendlaw17_awake.f k ) (prebendlaw17_awake.f (k + 1) ) := by
 intro  k
 unfold prebendlaw17_awake.f
 repeat' first
   | (with_reducible exact easy_Next.mono _ _ _ _ _ _)
   | (with_reducible exact easy_Shadow.mono _ _ _ _ _)
   | (with_reducible exact LeO.refl _)
   | (with_reducible exact LeO.none _)
   | (with_reducible refine LeO.ite ?_ ?_)
   | (with_reducible refine LeO.bind ?_ (fun _ => ?_))
   | exact easy_Next.mono _ _ _ _ _ _
   | exact easy_Shadow.mono _ _ _ _ _
   | exact LeO.none _
   | refine LeO.ite ?_ ?_
   | refine LeO.bind ?_ (fun _ => ?_)
set_option maxHeartbeats 8000000 in
set_option maxRecDepth 100000 in
theorem prebendlaw17_awake.calls (k : Nat)  (r : Bool) (w : World) (h : prebendlaw17_awake.f k  = some r) :
  Calls Try.prog 31 #[] w fun e w' => e = .returned (.bool r) ∧ Below w.heap.size w w' := by
 have hu38 := Try.underlying38
 have hu52 := Try.underlying52
 have HB := Aside0.mk (Below.refl w.heap.size w)
 have H : ((some (([(⟨5, 3⟩ : S38)] : List (S38)) : List (S38))).bind fun y540 => ((some (([(⟨2, 9⟩ : S52), (⟨1, 5⟩ : S52), (⟨1, 9⟩ : S52)] : List (S52)) : List (S52))).bind fun y543 => ((easy_Next.f k 0 4 y540 y543 ([] : List Bool)).bind fun bt546 => (if y540.length < 8796093022208 then ((easy_Next.f k 0 4 (y540 ++ [(⟨5, 1⟩ : S38)]) y543 (([false, true] : List Bool))).bind fun bt554 => ((easy_Shadow.f k 0 4 y540 2).bind fun bt556 => (if bt546.1 = 1 then (if bt546.2 = true then (if bt554.2 = true then (some false) else (if bt556.1 = 5 then (if bt556.2.1 = 2 then (some bt556.2.2) else (some false)) else (some false))) else (some false)) else (some false)))) else (none))))) = some r := h
 clear h
 obtain ⟨y540, hy540⟩ : ∃ y_ : List (S38), y_ = (([(⟨5, 3⟩ : S38)] : List (S38))) := ⟨_, rfl⟩
 replace H : ((some (([(⟨2, 9⟩ : S52), (⟨1, 5⟩ : S52), (⟨1, 9⟩ : S52)] : List (S52)) : List (S52))).bind fun y543 => ((easy_Next.f k 0 4 y540 y543 ([] : List Bool)).bind fun bt546 => (if y540.length < 8796093022208 then ((easy_Next.f k 0 4 (y540 ++ [(⟨5, 1⟩ : S38)]) y543 (([false, true] : List Bool))).bind fun bt554 => ((easy_Shadow.f k 0 4 y540 2).bind fun bt556 => (if bt546.1 = 1 then (if bt546.2 = true then (if bt554.2 = true then (some false) else (if bt556.1 = 5 then (if bt556.2.1 = 2 then (some bt556.2.2) else (some false)) else (some false))) else (some false)) else (some false)))) else (none)))) = some r := mH hy540 H
 have Ny540 := Aside0.mk hy540
 clear hy540
 obtain ⟨y543, hy543⟩ : ∃ y_ : List (S52), y_ = (([(⟨2, 9⟩ : S52), (⟨1, 5⟩ : S52), (⟨1, 9⟩ : S52)] : List (S52))) := ⟨_, rfl⟩
 replace H : ((easy_Next.f k 0 4 y540 y543 ([] : List Bool)).bind fun bt546 => (if y540.length < 8796093022208 then ((easy_Next.f k 0 4 (y540 ++ [(⟨5, 1⟩ : S38)]) y543 (([false, true] : List Bool))).bind fun bt554 => ((easy_Shadow.f k 0 4 y540 2).bind fun bt556 => (if bt546.1 = 1 then (if bt546.2 = true then (if bt554.2 = true then (some false) else (if bt556.1 = 5 then (if bt556.2.1 = 2 then (some bt556.2.2) else (some false)) else (some false))) else (some false)) else (some false)))) else (none))) = some r := mH hy543 H
 have Ny543 := Aside0.mk hy543
 clear hy543
 replace H := Option.bind_eq_some_iff.mp H
 obtain ⟨⟨t546, t547⟩, A10, H⟩ := H
 replace H : (if y540.length < 8796093022208 then ((easy_Next.f k 0 4 (y540 ++ [(⟨5, 1⟩ : S38)]) y543 (([false, true] : List Bool))).bind fun bt554 => ((easy_Shadow.f k 0 4 y540 2).bind fun bt556 => (if t546 = 1 then (if t547 = true then (if bt554.2 = true then (some false) else (if bt556.1 = 5 then (if bt556.2.1 = 2 then (some bt556.2.2) else (some false)) else (some false))) else (some false)) else (some false)))) else (none)) = some r := H
 have A1 := Aside0.mk A10
 clear A10
 by_cases c2 : y540.length < 8796093022208
 ·rw [if_pos c2] at H
  have LMc2 := Aside0.mk c2
  clear c2
  obtain ⟨y548, hy548⟩ : ∃ y_ : List (S38), y_ = (y540 ++ [(⟨5, 1⟩ : S38)]) := ⟨_, rfl⟩
  replace H : ((easy_Next.f k 0 4 y548 y543 (([false, true] : List Bool))).bind fun bt554 => ((easy_Shadow.f k 0 4 y540 2).bind fun bt556 => (if t546 = 1 then (if t547 = true then (if bt554.2 = true then (some false) else (if bt556.1 = 5 then (if bt556.2.1 = 2 then (some bt556.2.2) else (some false)) else (some false))) else (some false)) else (some false)))) = some r := mH hy548 H
  have Ny548 := Aside0.mk hy548
  clear hy548
  obtain ⟨y551, hy551⟩ : ∃ y_ : List Bool, y_ = (([false, true] : List Bool)) := ⟨_, rfl⟩
  replace H : ((easy_Next.f k 0 4 y548 y543 y551).bind fun bt554 => ((easy_Shadow.f k 0 4 y540 2).bind fun bt556 => (if t546 = 1 then (if t547 = true then (if bt554.2 = true then (some false) else (if bt556.1 = 5 then (if bt556.2.1 = 2 then (some bt556.2.2) else (some false)) else (some false))) else (some false)) else (some false)))) = some r := mH hy551 H
  have Ny551 := Aside0.mk hy551
  clear hy551
  replace H := Option.bind_eq_some_iff.mp H
  obtain ⟨⟨t554, t555⟩, A30, H⟩ := H
  replace H : ((easy_Shadow.f k 0 4 y540 2).bind fun bt556 => (if t546 = 1 then (if t547 = true then (if t555 = true then (some false) else (if bt556.1 = 5 then (if bt556.2.1 = 2 then (some bt556.2.2) else (some false)) else (some false))) else (some false)) else (some false))) = some r := H
  have A3 := Aside0.mk A30
  clear A30
  replace H := Option.bind_eq_some_iff.mp H
  obtain ⟨⟨t556, t557, t558⟩, A40, H⟩ := H
  replace H : (if t546 = 1 then (if t547 = true then (if t555 = true then (some false) else (if t556 = 5 then (if t557 = 2 then (some t558) else (some false)) else (some false))) else (some false)) else (some false)) = some r := H
  have A4 := Aside0.mk A40
  clear A40
  by_cases c5 : t546 = 1
  ·rw [if_pos c5] at H
   have c5b0 : (t546 == 1) = true := beq_iff_eq.mpr c5
   have c5b1 : (t546 != 1) = false := bne_eq_false_iff_eq.mpr c5
   clear c5
   by_cases c6 : t547 = true
   ·subst c6
    have H1 : (if t555 = true then (some false) else (if t556 = 5 then (if t557 = 2 then (some t558) else (some false)) else (some false))) = some r := by rw [if_pos rfl] at H; exact H
    clear H
    have H := H1
    clear H1
    by_cases c7 : t555 = true
    ·subst c7
     have H1 : (some false) = some r := by rw [if_pos rfl] at H; exact H
     clear H
     have H := H1
     clear H1
     obtain rfl := Option.some.inj H
     go_enter Try.func31, Try.ntmps31
     go_wp2_with (first | ((with_reducible refine gate_dst (N := 11) rfl ?_); refine R_lit1 k38 _ 38 ?hg (N := 11) ?hd (xs := y540) (inner := [.int .i64 5, .int .i64 3]) (ok := fun _ => True) (okp := fun _ => True) ?hr ?hp (fun _ hk => hk) trivial (Below.refl _ _) (Nat.le_refl _) (by rw [Ny540.out]; simp) ?_; (case hd => rfl); (case hg => rfl); (case hr => rw [Ny540.out]; first | (go_simp; done) | (go_simp; rfl)); (case hp => rw [Ny540.out]; exact (Reps.c2 (show Kd.M k38 _ _ _ (⟨5, 3⟩ : S38) [.int .i64 5, .int .i64 3] from (k38_mkM _ _ _ (⟨5, 3⟩ : S38) )) (Reps.none _ _))); intro g541 w8 ho9 hb; have n0_ := Aside0.mk (Kd.R_lower ho9 (below_size (mB HB.out))); have n1_ := Aside0.mk (below_step (mB HB.out) hb); clear HB; have HO542 := n0_; have HB := n1_; clear n0_ n1_; clear hb ho9) | ((with_reducible refine gate_dst (N := 15) rfl ?_); refine Kd.R_lit k52 _ 52 ?hg (N := 15) ?hd (xs := ([(⟨2, 9⟩ : S52), (⟨1, 5⟩ : S52), (⟨1, 9⟩ : S52)] : List (S52))) (inner := [.int .i64 2, .int .i64 9, .int .i64 1, .int .i64 5, .int .i64 1, .int .i64 9]) (ok := fun _ => True) (okp := fun _ => True) ?hr ?hp (fun _ hk => hk) trivial (Below.refl _ _) (Nat.le_refl _) (by simp) ?_; (case hd => rfl); (case hg => rfl); (case hr => first | (go_simp; done) | (go_simp; rfl)); (case hp => exact (Reps.c2 (show Kd.M k52 _ _ _ (⟨2, 9⟩ : S52) [.int .i64 2, .int .i64 9] from (k52_mkM _ _ _ (⟨2, 9⟩ : S52) )) (Reps.c2 (show Kd.M k52 _ _ _ (⟨1, 5⟩ : S52) [.int .i64 1, .int .i64 5] from (k52_mkM _ _ _ (⟨1, 5⟩ : S52) )) (Reps.c2 (show Kd.M k52 _ _ _ (⟨1, 9⟩ : S52) [.int .i64 1, .int .i64 9] from (k52_mkM _ _ _ (⟨1, 9⟩ : S52) )) (Reps.none _ _))))); intro v544 w10 ho11 hb hg_ hnew_; clear hg_ hnew_; (first | rw [← Ny543.out] at ho11 | (simp only [Int.reduceToNat] at ho11; rw [← Ny543.out] at ho11)); have n0_ := Aside0.mk (Kd.R_below (mR HO542.out) hb); have n1_ := Aside0.mk (Kd.R_lower ho11 (below_size (mB HB.out))); have n2_ := Aside0.mk (below_step (mB HB.out) hb); clear HO542; clear HB; have HO542 := n0_; have HO545 := n1_; have HB := n2_; clear n0_ n1_ n2_; clear hb ho11; obtain ⟨Ao13, co13, eo13⟩ := Kd.R_slice HO545.out; subst eo13) | ((with_reducible refine gate_callee (f := 27) rfl ?_); refine goesL_ (some 19) rfl rfl Try.func27 (by kernel_rfl) rfl #[.int .i64 0, .int .i64 4, .slice (some ⟨g541, 0, none⟩) y540.length y540.length, .slice Ao13 y543.length co13, .slice none 0 0] rfl mt ?_; (refine (easy_Next.calls k 0 4 _ _ y540 _ _ y543 _ _ ([] : List Bool) t546 true _ ?side1 ?side2 ?side3 ?side4 ?side5 ?side6 A1.out).mono ?_); (case side1 => exact mC (Kd.R_reads' HO542.out).2.2); (case side2 => exact (Kd.R_reads' HO542.out).2.1); (case side3 => exact mC (Kd.R_reads' HO545.out).2.2); (case side4 => exact (Kd.R_reads' HO545.out).2.1); (case side5 => exact Kd.C_nil _ _); (case side6 => exact Nat.le_refl _); rintro e w14 ⟨rfl, hb⟩; refine ⟨_, rfl, ?_⟩; have n0_ := Aside0.mk (Kd.R_below (mR HO542.out) hb); have n1_ := Aside0.mk (Kd.R_below (mR HO545.out) hb); have n2_ := Aside0.mk (below_step (mB HB.out) hb); clear HO542; clear HO545; clear HB; have HO542 := n0_; have HO545 := n1_; have HB := n2_; clear n0_ n1_ n2_; (try clear hb); (try clear hb2); (try clear hk); (try clear hi)) | ((with_reducible refine gate_builtin (b := .append) (xs := #[.tmp 23, .tmp 25]) rfl ?_); at_builtin; refine R_append_full k38 (w0 := w) w.heap.size rfl (.tmp 23) (.tmp 25) 22 38 (.agg #[(.int .i64 0), (.int .i64 0)]) 16 rfl Try.underlying22 info38 rfl (by decide) (by omega) g541 y540 (⟨5, 1⟩ : S38) [.int .i64 5, .int .i64 1] (fun _ => True) (fun _ => False) rfl rfl ?aP (fun _ hk => hk.elim) ?aF ?aO ?aB ?aS ?aL ?_; (case aP => exact k38_mkM _ _ _ (⟨5, 1⟩ : S38)); (case aB => exact (mB HB.out)); (case aF => exact (fun _ _ => trivial)); (case aO => exact (mR HO542.out)); (case aS => exact (below_size (mB HB.out))); (case aL => have := LMc2.out; omega); intro v549 w15 ho hb hg; rw [← Ny548.out] at ho; have n0_ := Aside0.mk (Kd.R_grown (mR HO545.out) hg (fun _ _ => by simp)); have n1_ := Aside0.mk (hb); have n2_ := Aside0.mk (ho); have n3_ := Aside0.mk (Kd.R_grown (mR HO542.out) hg (fun _ _ => by simp)); clear HO545; clear HB; clear HO542; have HO545 := n0_; have HB := n1_; have HO550 := n2_; have HO542 := n3_; clear n0_ n1_ n2_ n3_; clear ho hb hg) | ((with_reducible refine gate_dst (N := 28) rfl ?_); refine Kd.R_lit Kd.bool _ 4 ?hg (N := 28) ?hd (xs := ([false, true] : List Bool)) (inner := [.bool false, .bool true]) (ok := fun _ => True) (okp := fun _ => True) ?hr ?hp (fun _ hk => hk) trivial (Below.refl _ _) (Nat.le_refl _) (by simp) ?_; (case hd => rfl); (case hg => rfl); (case hr => first | (go_simp; done) | (go_simp; rfl)); (case hp => exact (Reps.one (show Kd.M Kd.bool _ _ _ false [.bool false] from rfl) (Reps.one (show Kd.M Kd.bool _ _ _ true [.bool true] from rfl) (Reps.none _ _)))); intro v552 w16 ho17 hb hg_ hnew_; clear hg_ hnew_; (first | rw [← Ny551.out] at ho17 | (simp only [Int.reduceToNat] at ho17; rw [← Ny551.out] at ho17)); have n9_ := Aside0.mk (Kd.R_below (mR HO542.out) hb); have n0_ := Aside0.mk (Kd.R_below (mR HO545.out) hb); have n1_ := Aside0.mk (Kd.R_below (mR HO550.out) hb); have n2_ := Aside0.mk (Kd.R_lower ho17 (below_size (mB HB.out))); have n3_ := Aside0.mk (below_step (mB HB.out) hb); clear HO542; clear HO545; clear HO550; clear HB; have HO542 := n9_; have HO545 := n0_; have HO550 := n1_; have HO553 := n2_; have HB := n3_; clear n9_ n0_ n1_ n2_ n3_; clear hb ho17; obtain ⟨Ao18, co18, eo18⟩ := Kd.R_slice HO550.out; subst eo18; obtain ⟨Ao19, co19, eo19⟩ := Kd.R_slice HO553.out; subst eo19) | ((with_reducible refine gate_callee (f := 27) rfl ?_); refine goesL_ (some 29) rfl rfl Try.func27 (by kernel_rfl) rfl #[.int .i64 0, .int .i64 4, .slice Ao18 y548.length co18, .slice Ao13 y543.length co13, .slice Ao19 y551.length co19] rfl mt ?_; (with_reducible refine (easy_Next.calls k 0 4 _ _ y548 _ _ y543 _ _ y551 t554 true _ ?side1 ?side2 ?side3 ?side4 ?side5 ?side6 A3.out).mono ?_); (case side1 => exact mC (Kd.R_reads' HO550.out).2.2); (case side2 => exact (Kd.R_reads' HO550.out).2.1); (case side3 => exact mC (Kd.R_reads' HO545.out).2.2); (case side4 => exact (Kd.R_reads' HO545.out).2.1); (case side5 => exact mC (Kd.R_reads' HO553.out).2.2); (case side6 => exact (Kd.R_reads' HO553.out).2.1); rintro e w20 ⟨rfl, hb⟩; refine ⟨_, rfl, ?_⟩; have n9_ := Aside0.mk (Kd.R_below (mR HO542.out) hb); have n0_ := Aside0.mk (Kd.R_below (mR HO545.out) hb); have n1_ := Aside0.mk (Kd.R_below (mR HO550.out) hb); have n2_ := Aside0.mk (Kd.R_below (mR HO553.out) hb); have n3_ := Aside0.mk (below_step (mB HB.out) hb); clear HO542; clear HO545; clear HO550; clear HO553; clear HB; have HO542 := n9_; have HO545 := n0_; have HO550 := n1_; have HO553 := n2_; have HB := n3_; clear n9_ n0_ n1_ n2_ n3_; (try clear hb); (try clear hb2); (try clear hk); (try clear hi)) | ((with_reducible refine gate_callee (f := 29) rfl ?_); refine goesL_ (some 34) rfl rfl Try.func29 (by kernel_rfl) rfl #[.int .i64 0, .int .i64 4, .slice (some ⟨g541, 0, none⟩) y540.length y540.length, .int .i64 2] rfl mt ?_; (with_reducible refine (easy_Shadow.calls k 0 4 _ _ y540 2 t556 t557 t558 _ ?side1 ?side2 A4.out).mono ?_); (case side1 => exact mC (Kd.R_reads' HO542.out).2.2); (case side2 => exact (Kd.R_reads' HO542.out).2.1); rintro e w21 ⟨rfl, hb⟩; refine ⟨_, rfl, ?_⟩; have n9_ := Aside0.mk (Kd.R_below (mR HO542.out) hb); have n0_ := Aside0.mk (Kd.R_below (mR HO545.out) hb); have n1_ := Aside0.mk (Kd.R_below (mR HO550.out) hb); have n2_ := Aside0.mk (Kd.R_below (mR HO553.out) hb); have n3_ := Aside0.mk (below_step (mB HB.out) hb); clear HO542; clear HO545; clear HO550; clear HO553; clear HB; have HO542 := n9_; have HO545 := n0_; have HO550 := n1_; have HO553 := n2_; have HB := n3_; clear n9_ n0_ n1_ n2_ n3_; (try clear hb); (try clear hb2); (try clear hk); (try clear hi)))
     go_ret
     exact ⟨by first | rfl | (simp [errW_none, errW_some] <;> rfl) | (simp [*, errW_none, errW_some] <;> rfl), by repeat (first | (with_reducible first | exact HB.out | apply below_alloc | apply pw_below_drewN | apply below_drew1) | exact HB.out)⟩
    ·replace c7 := Bool.eq_false_iff.mpr c7
     subst c7
     have H1 : (if t556 = 5 then (if t557 = 2 then (some t558) else (some false)) else (some false)) = some r := by rw [if_neg (show ¬ (false = true) by decide)] at H; exact H
     clear H
     have H := H1
     clear H1
     by_cases c22 : t556 = 5
     ·rw [if_pos c22] at H
      have c22b0 : (t556 == 5) = true := beq_iff_eq.mpr c22
      have c22b1 : (t556 != 5) = false := bne_eq_false_iff_eq.mpr c22
      clear c22
      by_cases c23 : t557 = 2
      ·rw [if_pos c23] at H
       have c23b0 : (t557 == 2) = true := beq_iff_eq.mpr c23
       have c23b1 : (t557 != 2) = false := bne_eq_false_iff_eq.mpr c23
       clear c23
       obtain rfl := Option.some.inj H
       go_enter Try.func31, Try.ntmps31
       go_wp2_with (first | ((with_reducible refine gate_dst (N := 11) rfl ?_); refine R_lit1 k38 _ 38 ?hg (N := 11) ?hd (xs := y540) (inner := [.int .i64 5, .int .i64 3]) (ok := fun _ => True) (okp := fun _ => True) ?hr ?hp (fun _ hk => hk) trivial (Below.refl _ _) (Nat.le_refl _) (by rw [Ny540.out]; simp) ?_; (case hd => rfl); (case hg => rfl); (case hr => rw [Ny540.out]; first | (go_simp; done) | (go_simp; rfl)); (case hp => rw [Ny540.out]; exact (Reps.c2 (show Kd.M k38 _ _ _ (⟨5, 3⟩ : S38) [.int .i64 5, .int .i64 3] from (k38_mkM _ _ _ (⟨5, 3⟩ : S38) )) (Reps.none _ _))); intro g541 w24 ho25 hb; have n0_ := Aside0.mk (Kd.R_lower ho25 (below_size (mB HB.out))); have n1_ := Aside0.mk (below_step (mB HB.out) hb); clear HB; have HO542 := n0_; have HB := n1_; clear n0_ n1_; clear hb ho25) | ((with_reducible refine gate_dst (N := 15) rfl ?_); refine Kd.R_lit k52 _ 52 ?hg (N := 15) ?hd (xs := ([(⟨2, 9⟩ : S52), (⟨1, 5⟩ : S52), (⟨1, 9⟩ : S52)] : List (S52))) (inner := [.int .i64 2, .int .i64 9, .int .i64 1, .int .i64 5, .int .i64 1, .int .i64 9]) (ok := fun _ => True) (okp := fun _ => True) ?hr ?hp (fun _ hk => hk) trivial (Below.refl _ _) (Nat.le_refl _) (by simp) ?_; (case hd => rfl); (case hg => rfl); (case hr => first | (go_simp; done) | (go_simp; rfl)); (case hp => exact (Reps.c2 (show Kd.M k52 _ _ _ (⟨2, 9⟩ : S52) [.int .i64 2, .int .i64 9] from (k52_mkM _ _ _ (⟨2, 9⟩ : S52) )) (Reps.c2 (show Kd.M k52 _ _ _ (⟨1, 5⟩ : S52) [.int .i64 1, .int .i64 5] from (k52_mkM _ _ _ (⟨1, 5⟩ : S52) )) (Reps.c2 (show Kd.M k52 _ _ _ (⟨1, 9⟩ : S52) [.int .i64 1, .int .i64 9] from (k52_mkM _ _ _ (⟨1, 9⟩ : S52) )) (Reps.none _ _))))); intro v544 w26 ho27 hb hg_ hnew_; clear hg_ hnew_; (first | rw [← Ny543.out] at ho27 | (simp only [Int.reduceToNat] at ho27; rw [← Ny543.out] at ho27)); have n0_ := Aside0.mk (Kd.R_below (mR HO542.out) hb); have n1_ := Aside0.mk (Kd.R_lower ho27 (below_size (mB HB.out))); have n2_ := Aside0.mk (below_step (mB HB.out) hb); clear HO542; clear HB; have HO542 := n0_; have HO545 := n1_; have HB := n2_; clear n0_ n1_ n2_; clear hb ho27; obtain ⟨Ao29, co29, eo29⟩ := Kd.R_slice HO545.out; subst eo29) | ((with_reducible refine gate_callee (f := 27) rfl ?_); refine goesL_ (some 19) rfl rfl Try.func27 (by kernel_rfl) rfl #[.int .i64 0, .int .i64 4, .slice (some ⟨g541, 0, none⟩) y540.length y540.length, .slice Ao29 y543.length co29, .slice none 0 0] rfl mt ?_; (refine (easy_Next.calls k 0 4 _ _ y540 _ _ y543 _ _ ([] : List Bool) t546 true _ ?side1 ?side2 ?side3 ?side4 ?side5 ?side6 A1.out).mono ?_); (case side1 => exact mC (Kd.R_reads' HO542.out).2.2); (case side2 => exact (Kd.R_reads' HO542.out).2.1); (case side3 => exact mC (Kd.R_reads' HO545.out).2.2); (case side4 => exact (Kd.R_reads' HO545.out).2.1); (case side5 => exact Kd.C_nil _ _); (case side6 => exact Nat.le_refl _); rintro e w30 ⟨rfl, hb⟩; refine ⟨_, rfl, ?_⟩; have n0_ := Aside0.mk (Kd.R_below (mR HO542.out) hb); have n1_ := Aside0.mk (Kd.R_below (mR HO545.out) hb); have n2_ := Aside0.mk (below_step (mB HB.out) hb); clear HO542; clear HO545; clear HB; have HO542 := n0_; have HO545 := n1_; have HB := n2_; clear n0_ n1_ n2_; (try clear hb); (try clear hb2); (try clear hk); (try clear hi)) | ((with_reducible refine gate_builtin (b := .append) (xs := #[.tmp 23, .tmp 25]) rfl ?_); at_builtin; refine R_append_full k38 (w0 := w) w.heap.size rfl (.tmp 23) (.tmp 25) 22 38 (.agg #[(.int .i64 0), (.int .i64 0)]) 16 rfl Try.underlying22 info38 rfl (by decide) (by omega) g541 y540 (⟨5, 1⟩ : S38) [.int .i64 5, .int .i64 1] (fun _ => True) (fun _ => False) rfl rfl ?aP (fun _ hk => hk.elim) ?aF ?aO ?aB ?aS ?aL ?_; (case aP => exact k38_mkM _ _ _ (⟨5, 1⟩ : S38)); (case aB => exact (mB HB.out)); (case aF => exact (fun _ _ => trivial)); (case aO => exact (mR HO542.out)); (case aS => exact (below_size (mB HB.out))); (case aL => have := LMc2.out; omega); intro v549 w31 ho hb hg; rw [← Ny548.out] at ho; have n0_ := Aside0.mk (Kd.R_grown (mR HO545.out) hg (fun _ _ => by simp)); have n1_ := Aside0.mk (hb); have n2_ := Aside0.mk (ho); have n3_ := Aside0.mk (Kd.R_grown (mR HO542.out) hg (fun _ _ => by simp)); clear HO545; clear HB; clear HO542; have HO545 := n0_; have HB := n1_; have HO550 := n2_; have HO542 := n3_; clear n0_ n1_ n2_ n3_; clear ho hb hg) | ((with_reducible refine gate_dst (N := 28) rfl ?_); refine Kd.R_lit Kd.bool _ 4 ?hg (N := 28) ?hd (xs := ([false, true] : List Bool)) (inner := [.bool false, .bool true]) (ok := fun _ => True) (okp := fun _ => True) ?hr ?hp (fun _ hk => hk) trivial (Below.refl _ _) (Nat.le_refl _) (by simp) ?_; (case hd => rfl); (case hg => rfl); (case hr => first | (go_simp; done) | (go_simp; rfl)); (case hp => exact (Reps.one (show Kd.M Kd.bool _ _ _ false [.bool false] from rfl) (Reps.one (show Kd.M Kd.bool _ _ _ true [.bool true] from rfl) (Reps.none _ _)))); intro v552 w32 ho33 hb hg_ hnew_; clear hg_ hnew_; (first | rw [← Ny551.out] at ho33 | (simp only [Int.reduceToNat] at ho33; rw [← Ny551.out] at ho33)); have n9_ := Aside0.mk (Kd.R_below (mR HO542.out) hb); have n0_ := Aside0.mk (Kd.R_below (mR HO545.out) hb); have n1_ := Aside0.mk (Kd.R_below (mR HO550.out) hb); have n2_ := Aside0.mk (Kd.R_lower ho33 (below_size (mB HB.out))); have n3_ := Aside0.mk (below_step (mB HB.out) hb); clear HO542; clear HO545; clear HO550; clear HB; have HO542 := n9_; have HO545 := n0_; have HO550 := n1_; have HO553 := n2_; have HB := n3_; clear n9_ n0_ n1_ n2_ n3_; clear hb ho33; obtain ⟨Ao34, co34, eo34⟩ := Kd.R_slice HO550.out; subst eo34; obtain ⟨Ao35, co35, eo35⟩ := Kd.R_slice HO553.out; subst eo35) | ((with_reducible refine gate_callee (f := 27) rfl ?_); refine goesL_ (some 29) rfl rfl Try.func27 (by kernel_rfl) rfl #[.int .i64 0, .int .i64 4, .slice Ao34 y548.length co34, .slice Ao29 y543.length co29, .slice Ao35 y551.length co35] rfl mt ?_; (with_reducible refine (easy_Next.calls k 0 4 _ _ y548 _ _ y543 _ _ y551 t554 false _ ?side1 ?side2 ?side3 ?side4 ?side5 ?side6 A3.out).mono ?_); (case side1 => exact mC (Kd.R_reads' HO550.out).2.2); (case side2 => exact (Kd.R_reads' HO550.out).2.1); (case side3 => exact mC (Kd.R_reads' HO545.out).2.2); (case side4 => exact (Kd.R_reads' HO545.out).2.1); (case side5 => exact mC (Kd.R_reads' HO553.out).2.2); (case side6 => exact (Kd.R_reads' HO553.out).2.1); rintro e w36 ⟨rfl, hb⟩; refine ⟨_, rfl, ?_⟩; have n9_ := Aside0.mk (Kd.R_below (mR HO542.out) hb); have n0_ := Aside0.mk (Kd.R_below (mR HO545.out) hb); have n1_ := Aside0.mk (Kd.R_below (mR HO550.out) hb); have n2_ := Aside0.mk (Kd.R_below (mR HO553.out) hb); have n3_ := Aside0.mk (below_step (mB HB.out) hb); clear HO542; clear HO545; clear HO550; clear HO553; clear HB; have HO542 := n9_; have HO545 := n0_; have HO550 := n1_; have HO553 := n2_; have HB := n3_; clear n9_ n0_ n1_ n2_ n3_; (try clear hb); (try clear hb2); (try clear hk); (try clear hi)) | ((with_reducible refine gate_callee (f := 29) rfl ?_); refine goesL_ (some 34) rfl rfl Try.func29 (by kernel_rfl) rfl #[.int .i64 0, .int .i64 4, .slice (some ⟨g541, 0, none⟩) y540.length y540.length, .int .i64 2] rfl mt ?_; (with_reducible refine (easy_Shadow.calls k 0 4 _ _ y540 2 t556 t557 t558 _ ?side1 ?side2 A4.out).mono ?_); (case side1 => exact mC (Kd.R_reads' HO542.out).2.2); (case side2 => exact (Kd.R_reads' HO542.out).2.1); rintro e w37 ⟨rfl, hb⟩; refine ⟨_, rfl, ?_⟩; have n9_ := Aside0.mk (Kd.R_below (mR HO542.out) hb); have n0_ := Aside0.mk (Kd.R_below (mR HO545.out) hb); have n1_ := Aside0.mk (Kd.R_below (mR HO550.out) hb); have n2_ := Aside0.mk (Kd.R_below (mR HO553.out) hb); have n3_ := Aside0.mk (below_step (mB HB.out) hb); clear HO542; clear HO545; clear HO550; clear HO553; clear HB; have HO542 := n9_; have HO545 := n0_; have HO550 := n1_; have HO553 := n2_; have HB := n3_; clear n9_ n0_ n1_ n2_ n3_; (try clear hb); (try clear hb2); (try clear hk); (try clear hi)))
       go_ret
       exact ⟨by first | rfl | (simp [errW_none, errW_some] <;> rfl) | (simp [*, errW_none, errW_some] <;> rfl), by repeat (first | (with_reducible first | exact HB.out | apply below_alloc | apply pw_below_drewN | apply below_drew1) | exact HB.out)⟩
      ·rw [if_neg c23] at H
       have c23b0 : (t557 == 2) = false := beq_eq_false_iff_ne.mpr c23
       have c23b1 : (t557 != 2) = true := bne_iff_ne.mpr c23
       obtain rfl := Option.some.inj H
       go_enter Try.func31, Try.ntmps31
       go_wp2_with (first | ((with_reducible refine gate_dst (N := 11) rfl ?_); refine R_lit1 k38 _ 38 ?hg (N := 11) ?hd (xs := y540) (inner := [.int .i64 5, .int .i64 3]) (ok := fun _ => True) (okp := fun _ => True) ?hr ?hp (fun _ hk => hk) trivial (Below.refl _ _) (Nat.le_refl _) (by rw [Ny540.out]; simp) ?_; (case hd => rfl); (case hg => rfl); (case hr => rw [Ny540.out]; first | (go_simp; done) | (go_simp; rfl)); (case hp => rw [Ny540.out]; exact (Reps.c2 (show Kd.M k38 _ _ _ (⟨5, 3⟩ : S38) [.int .i64 5, .int .i64 3] from (k38_mkM _ _ _ (⟨5, 3⟩ : S38) )) (Reps.none _ _))); intro g541 w38 ho39 hb; have n0_ := Aside0.mk (Kd.R_lower ho39 (below_size (mB HB.out))); have n1_ := Aside0.mk (below_step (mB HB.out) hb); clear HB; have HO542 := n0_; have HB := n1_; clear n0_ n1_; clear hb ho39) | ((with_reducible refine gate_dst (N := 15) rfl ?_); refine Kd.R_lit k52 _ 52 ?hg (N := 15) ?hd (xs := ([(⟨2, 9⟩ : S52), (⟨1, 5⟩ : S52), (⟨1, 9⟩ : S52)] : List (S52))) (inner := [.int .i64 2, .int .i64 9, .int .i64 1, .int .i64 5, .int .i64 1, .int .i64 9]) (ok := fun _ => True) (okp := fun _ => True) ?hr ?hp (fun _ hk => hk) trivial (Below.refl _ _) (Nat.le_refl _) (by simp) ?_; (case hd => rfl); (case hg => rfl); (case hr => first | (go_simp; done) | (go_simp; rfl)); (case hp => exact (Reps.c2 (show Kd.M k52 _ _ _ (⟨2, 9⟩ : S52) [.int .i64 2, .int .i64 9] from (k52_mkM _ _ _ (⟨2, 9⟩ : S52) )) (Reps.c2 (show Kd.M k52 _ _ _ (⟨1, 5⟩ : S52) [.int .i64 1, .int .i64 5] from (k52_mkM _ _ _ (⟨1, 5⟩ : S52) )) (Reps.c2 (show Kd.M k52 _ _ _ (⟨1, 9⟩ : S52) [.int .i64 1, .int .i64 9] from (k52_mkM _ _ _ (⟨1, 9⟩ : S52) )) (Reps.none _ _))))); intro v544 w40 ho41 hb hg_ hnew_; clear hg_ hnew_; (first | rw [← Ny543.out] at ho41 | (simp only [Int.reduceToNat] at ho41; rw [← Ny543.out] at ho41)); have n0_ := Aside0.mk (Kd.R_below (mR HO542.out) hb); have n1_ := Aside0.mk (Kd.R_lower ho41 (below_size (mB HB.out))); have n2_ := Aside0.mk (below_step (mB HB.out) hb); clear HO542; clear HB; have HO542 := n0_; have HO545 := n1_; have HB := n2_; clear n0_ n1_ n2_; clear hb ho41; obtain ⟨Ao43, co43, eo43⟩ := Kd.R_slice HO545.out; subst eo43) | ((with_reducible refine gate_callee (f := 27) rfl ?_); refine goesL_ (some 19) rfl rfl Try.func27 (by kernel_rfl) rfl #[.int .i64 0, .int .i64 4, .slice (some ⟨g541, 0, none⟩) y540.length y540.length, .slice Ao43 y543.length co43, .slice none 0 0] rfl mt ?_; (refine (easy_Next.calls k 0 4 _ _ y540 _ _ y543 _ _ ([] : List Bool) t546 true _ ?side1 ?side2 ?side3 ?side4 ?side5 ?side6 A1.out).mono ?_); (case side1 => exact mC (Kd.R_reads' HO542.out).2.2); (case side2 => exact (Kd.R_reads' HO542.out).2.1); (case side3 => exact mC (Kd.R_reads' HO545.out).2.2); (case side4 => exact (Kd.R_reads' HO545.out).2.1); (case side5 => exact Kd.C_nil _ _); (case side6 => exact Nat.le_refl _); rintro e w44 ⟨rfl, hb⟩; refine ⟨_, rfl, ?_⟩; have n0_ := Aside0.mk (Kd.R_below (mR HO542.out) hb); have n1_ := Aside0.mk (Kd.R_below (mR HO545.out) hb); have n2_ := Aside0.mk (below_step (mB HB.out) hb); clear HO542; clear HO545; clear HB; have HO542 := n0_; have HO545 := n1_; have HB := n2_; clear n0_ n1_ n2_; (try clear hb); (try clear hb2); (try clear hk); (try clear hi)) | ((with_reducible refine gate_builtin (b := .append) (xs := #[.tmp 23, .tmp 25]) rfl ?_); at_builtin; refine R_append_full k38 (w0 := w) w.heap.size rfl (.tmp 23) (.tmp 25) 22 38 (.agg #[(.int .i64 0), (.int .i64 0)]) 16 rfl Try.underlying22 info38 rfl (by decide) (by omega) g541 y540 (⟨5, 1⟩ : S38) [.int .i64 5, .int .i64 1] (fun _ => True) (fun _ => False) rfl rfl ?aP (fun _ hk => hk.elim) ?aF ?aO ?aB ?aS ?aL ?_; (case aP => exact k38_mkM _ _ _ (⟨5, 1⟩ : S38)); (case aB => exact (mB HB.out)); (case aF => exact (fun _ _ => trivial)); (case aO => exact (mR HO542.out)); (case aS => exact (below_size (mB HB.out))); (case aL => have := LMc2.out; omega); intro v549 w45 ho hb hg; rw [← Ny548.out] at ho; have n0_ := Aside0.mk (Kd.R_grown (mR HO545.out) hg (fun _ _ => by simp)); have n1_ := Aside0.mk (hb); have n2_ := Aside0.mk (ho); have n3_ := Aside0.mk (Kd.R_grown (mR HO542.out) hg (fun _ _ => by simp)); clear HO545; clear HB; clear HO542; have HO545 := n0_; have HB := n1_; have HO550 := n2_; have HO542 := n3_; clear n0_ n1_ n2_ n3_; clear ho hb hg) | ((with_reducible refine gate_dst (N := 28) rfl ?_); refine Kd.R_lit Kd.bool _ 4 ?hg (N := 28) ?hd (xs := ([false, true] : List Bool)) (inner := [.bool false, .bool true]) (ok := fun _ => True) (okp := fun _ => True) ?hr ?hp (fun _ hk => hk) trivial (Below.refl _ _) (Nat.le_refl _) (by simp) ?_; (case hd => rfl); (case hg => rfl); (case hr => first | (go_simp; done) | (go_simp; rfl)); (case hp => exact (Reps.one (show Kd.M Kd.bool _ _ _ false [.bool false] from rfl) (Reps.one (show Kd.M Kd.bool _ _ _ true [.bool true] from rfl) (Reps.none _ _)))); intro v552 w46 ho47 hb hg_ hnew_; clear hg_ hnew_; (first | rw [← Ny551.out] at ho47 | (simp only [Int.reduceToNat] at ho47; rw [← Ny551.out] at ho47)); have n9_ := Aside0.mk (Kd.R_below (mR HO542.out) hb); have n0_ := Aside0.mk (Kd.R_below (mR HO545.out) hb); have n1_ := Aside0.mk (Kd.R_below (mR HO550.out) hb); have n2_ := Aside0.mk (Kd.R_lower ho47 (below_size (mB HB.out))); have n3_ := Aside0.mk (below_step (mB HB.out) hb); clear HO542; clear HO545; clear HO550; clear HB; have HO542 := n9_; have HO545 := n0_; have HO550 := n1_; have HO553 := n2_; have HB := n3_; clear n9_ n0_ n1_ n2_ n3_; clear hb ho47; obtain ⟨Ao48, co48, eo48⟩ := Kd.R_slice HO550.out; subst eo48; obtain ⟨Ao49, co49, eo49⟩ := Kd.R_slice HO553.out; subst eo49) | ((with_reducible refine gate_callee (f := 27) rfl ?_); refine goesL_ (some 29) rfl rfl Try.func27 (by kernel_rfl) rfl #[.int .i64 0, .int .i64 4, .slice Ao48 y548.length co48, .slice Ao43 y543.length co43, .slice Ao49 y551.length co49] rfl mt ?_; (with_reducible refine (easy_Next.calls k 0 4 _ _ y548 _ _ y543 _ _ y551 t554 false _ ?side1 ?side2 ?side3 ?side4 ?side5 ?side6 A3.out).mono ?_); (case side1 => exact mC (Kd.R_reads' HO550.out).2.2); (case side2 => exact (Kd.R_reads' HO550.out).2.1); (case side3 => exact mC (Kd.R_reads' HO545.out).2.2); (case side4 => exact (Kd.R_reads' HO545.out).2.1); (case side5 => exact mC (Kd.R_reads' HO553.out).2.2); (case side6 => exact (Kd.R_reads' HO553.out).2.1); rintro e w50 ⟨rfl, hb⟩; refine ⟨_, rfl, ?_⟩; have n9_ := Aside0.mk (Kd.R_below (mR HO542.out) hb); have n0_ := Aside0.mk (Kd.R_below (mR HO545.out) hb); have n1_ := Aside0.mk (Kd.R_below (mR HO550.out) hb); have n2_ := Aside0.mk (Kd.R_below (mR HO553.out) hb); have n3_ := Aside0.mk (below_step (mB HB.out) hb); clear HO542; clear HO545; clear HO550; clear HO553; clear HB; have HO542 := n9_; have HO545 := n0_; have HO550 := n1_; have HO553 := n2_; have HB := n3_; clear n9_ n0_ n1_ n2_ n3_; (try clear hb); (try clear hb2); (try clear hk); (try clear hi)) | ((with_reducible refine gate_callee (f := 29) rfl ?_); refine goesL_ (some 34) rfl rfl Try.func29 (by kernel_rfl) rfl #[.int .i64 0, .int .i64 4, .slice (some ⟨g541, 0, none⟩) y540.length y540.length, .int .i64 2] rfl mt ?_; (with_reducible refine (easy_Shadow.calls k 0 4 _ _ y540 2 t556 t557 t558 _ ?side1 ?side2 A4.out).mono ?_); (case side1 => exact mC (Kd.R_reads' HO542.out).2.2); (case side2 => exact (Kd.R_reads' HO542.out).2.1); rintro e w51 ⟨rfl, hb⟩; refine ⟨_, rfl, ?_⟩; have n9_ := Aside0.mk (Kd.R_below (mR HO542.out) hb); have n0_ := Aside0.mk (Kd.R_below (mR HO545.out) hb); have n1_ := Aside0.mk (Kd.R_below (mR HO550.out) hb); have n2_ := Aside0.mk (Kd.R_below (mR HO553.out) hb); have n3_ := Aside0.mk (below_step (mB HB.out) hb); clear HO542; clear HO545; clear HO550; clear HO553; clear HB; have HO542 := n9_; have HO545 := n0_; have HO550 := n1_; have HO553 := n2_; have HB := n3_; clear n9_ n0_ n1_ n2_ n3_; (try clear hb); (try clear hb2); (try clear hk); (try clear hi)))
       go_ret
       exact ⟨by first | rfl | (simp [errW_none, errW_some] <;> rfl) | (simp [*, errW_none, errW_some] <;> rfl), by repeat (first | (with_reducible first | exact HB.out | apply below_alloc | apply pw_below_drewN | apply below_drew1) | exact HB.out)⟩
     ·rw [if_neg c22] at H
      have c22b0 : (t556 == 5) = false := beq_eq_false_iff_ne.mpr c22
      have c22b1 : (t556 != 5) = true := bne_iff_ne.mpr c22
      obtain rfl := Option.some.inj H
      go_enter Try.func31, Try.ntmps31
      go_wp2_with (first | ((with_reducible refine gate_dst (N := 11) rfl ?_); refine R_lit1 k38 _ 38 ?hg (N := 11) ?hd (xs := y540) (inner := [.int .i64 5, .int .i64 3]) (ok := fun _ => True) (okp := fun _ => True) ?hr ?hp (fun _ hk => hk) trivial (Below.refl _ _) (Nat.le_refl _) (by rw [Ny540.out]; simp) ?_; (case hd => rfl); (case hg => rfl); (case hr => rw [Ny540.out]; first | (go_simp; done) | (go_simp; rfl)); (case hp => rw [Ny540.out]; exact (Reps.c2 (show Kd.M k38 _ _ _ (⟨5, 3⟩ : S38) [.int .i64 5, .int .i64 3] from (k38_mkM _ _ _ (⟨5, 3⟩ : S38) )) (Reps.none _ _))); intro g541 w52 ho53 hb; have n0_ := Aside0.mk (Kd.R_lower ho53 (below_size (mB HB.out))); have n1_ := Aside0.mk (below_step (mB HB.out) hb); clear HB; have HO542 := n0_; have HB := n1_; clear n0_ n1_; clear hb ho53) | ((with_reducible refine gate_dst (N := 15) rfl ?_); refine Kd.R_lit k52 _ 52 ?hg (N := 15) ?hd (xs := ([(⟨2, 9⟩ : S52), (⟨1, 5⟩ : S52), (⟨1, 9⟩ : S52)] : List (S52))) (inner := [.int .i64 2, .int .i64 9, .int .i64 1, .int .i64 5, .int .i64 1, .int .i64 9]) (ok := fun _ => True) (okp := fun _ => True) ?hr ?hp (fun _ hk => hk) trivial (Below.refl _ _) (Nat.le_refl _) (by simp) ?_; (case hd => rfl); (case hg => rfl); (case hr => first | (go_simp; done) | (go_simp; rfl)); (case hp => exact (Reps.c2 (show Kd.M k52 _ _ _ (⟨2, 9⟩ : S52) [.int .i64 2, .int .i64 9] from (k52_mkM _ _ _ (⟨2, 9⟩ : S52) )) (Reps.c2 (show Kd.M k52 _ _ _ (⟨1, 5⟩ : S52) [.int .i64 1, .int .i64 5] from (k52_mkM _ _ _ (⟨1, 5⟩ : S52) )) (Reps.c2 (show Kd.M k52 _ _ _ (⟨1, 9⟩ : S52) [.int .i64 1, .int .i64 9] from (k52_mkM _ _ _ (⟨1, 9⟩ : S52) )) (Reps.none _ _))))); intro v544 w54 ho55 hb hg_ hnew_; clear hg_ hnew_; (first | rw [← Ny543.out] at ho55 | (simp only [Int.reduceToNat] at ho55; rw [← Ny543.out] at ho55)); have n0_ := Aside0.mk (Kd.R_below (mR HO542.out) hb); have n1_ := Aside0.mk (Kd.R_lower ho55 (below_size (mB HB.out))); have n2_ := Aside0.mk (below_step (mB HB.out) hb); clear HO542; clear HB; have HO542 := n0_; have HO545 := n1_; have HB := n2_; clear n0_ n1_ n2_; clear hb ho55; obtain ⟨Ao57, co57, eo57⟩ := Kd.R_slice HO545.out; subst eo57) | ((with_reducible refine gate_callee (f := 27) rfl ?_); refine goesL_ (some 19) rfl rfl Try.func27 (by kernel_rfl) rfl #[.int .i64 0, .int .i64 4, .slice (some ⟨g541, 0, none⟩) y540.length y540.length, .slice Ao57 y543.length co57, .slice none 0 0] rfl mt ?_; (refine (easy_Next.calls k 0 4 _ _ y540 _ _ y543 _ _ ([] : List Bool) t546 true _ ?side1 ?side2 ?side3 ?side4 ?side5 ?side6 A1.out).mono ?_); (case side1 => exact mC (Kd.R_reads' HO542.out).2.2); (case side2 => exact (Kd.R_reads' HO542.out).2.1); (case side3 => exact mC (Kd.R_reads' HO545.out).2.2); (case side4 => exact (Kd.R_reads' HO545.out).2.1); (case side5 => exact Kd.C_nil _ _); (case side6 => exact Nat.le_refl _); rintro e w58 ⟨rfl, hb⟩; refine ⟨_, rfl, ?_⟩; have n0_ := Aside0.mk (Kd.R_below (mR HO542.out) hb); have n1_ := Aside0.mk (Kd.R_below (mR HO545.out) hb); have n2_ := Aside0.mk (below_step (mB HB.out) hb); clear HO542; clear HO545; clear HB; have HO542 := n0_; have HO545 := n1_; have HB := n2_; clear n0_ n1_ n2_; (try clear hb); (try clear hb2); (try clear hk); (try clear hi)) | ((with_reducible refine gate_builtin (b := .append) (xs := #[.tmp 23, .tmp 25]) rfl ?_); at_builtin; refine R_append_full k38 (w0 := w) w.heap.size rfl (.tmp 23) (.tmp 25) 22 38 (.agg #[(.int .i64 0), (.int .i64 0)]) 16 rfl Try.underlying22 info38 rfl (by decide) (by omega) g541 y540 (⟨5, 1⟩ : S38) [.int .i64 5, .int .i64 1] (fun _ => True) (fun _ => False) rfl rfl ?aP (fun _ hk => hk.elim) ?aF ?aO ?aB ?aS ?aL ?_; (case aP => exact k38_mkM _ _ _ (⟨5, 1⟩ : S38)); (case aB => exact (mB HB.out)); (case aF => exact (fun _ _ => trivial)); (case aO => exact (mR HO542.out)); (case aS => exact (below_size (mB HB.out))); (case aL => have := LMc2.out; omega); intro v549 w59 ho hb hg; rw [← Ny548.out] at ho; have n0_ := Aside0.mk (Kd.R_grown (mR HO545.out) hg (fun _ _ => by simp)); have n1_ := Aside0.mk (hb); have n2_ := Aside0.mk (ho); have n3_ := Aside0.mk (Kd.R_grown (mR HO542.out) hg (fun _ _ => by simp)); clear HO545; clear HB; clear HO542; have HO545 := n0_; have HB := n1_; have HO550 := n2_; have HO542 := n3_; clear n0_ n1_ n2_ n3_; clear ho hb hg) | ((with_reducible refine gate_dst (N := 28) rfl ?_); refine Kd.R_lit Kd.bool _ 4 ?hg (N := 28) ?hd (xs := ([false, true] : List Bool)) (inner := [.bool false, .bool true]) (ok := fun _ => True) (okp := fun _ => True) ?hr ?hp (fun _ hk => hk) trivial (Below.refl _ _) (Nat.le_refl _) (by simp) ?_; (case hd => rfl); (case hg => rfl); (case hr => first | (go_simp; done) | (go_simp; rfl)); (case hp => exact (Reps.one (show Kd.M Kd.bool _ _ _ false [.bool false] from rfl) (Reps.one (show Kd.M Kd.bool _ _ _ true [.bool true] from rfl) (Reps.none _ _)))); intro v552 w60 ho61 hb hg_ hnew_; clear hg_ hnew_; (first | rw [← Ny551.out] at ho61 | (simp only [Int.reduceToNat] at ho61; rw [← Ny551.out] at ho61)); have n9_ := Aside0.mk (Kd.R_below (mR HO542.out) hb); have n0_ := Aside0.mk (Kd.R_below (mR HO545.out) hb); have n1_ := Aside0.mk (Kd.R_below (mR HO550.out) hb); have n2_ := Aside0.mk (Kd.R_lower ho61 (below_size (mB HB.out))); have n3_ := Aside0.mk (below_step (mB HB.out) hb); clear HO542; clear HO545; clear HO550; clear HB; have HO542 := n9_; have HO545 := n0_; have HO550 := n1_; have HO553 := n2_; have HB := n3_; clear n9_ n0_ n1_ n2_ n3_; clear hb ho61; obtain ⟨Ao62, co62, eo62⟩ := Kd.R_slice HO550.out; subst eo62; obtain ⟨Ao63, co63, eo63⟩ := Kd.R_slice HO553.out; subst eo63) | ((with_reducible refine gate_callee (f := 27) rfl ?_); refine goesL_ (some 29) rfl rfl Try.func27 (by kernel_rfl) rfl #[.int .i64 0, .int .i64 4, .slice Ao62 y548.length co62, .slice Ao57 y543.length co57, .slice Ao63 y551.length co63] rfl mt ?_; (with_reducible refine (easy_Next.calls k 0 4 _ _ y548 _ _ y543 _ _ y551 t554 false _ ?side1 ?side2 ?side3 ?side4 ?side5 ?side6 A3.out).mono ?_); (case side1 => exact mC (Kd.R_reads' HO550.out).2.2); (case side2 => exact (Kd.R_reads' HO550.out).2.1); (case side3 => exact mC (Kd.R_reads' HO545.out).2.2); (case side4 => exact (Kd.R_reads' HO545.out).2.1); (case side5 => exact mC (Kd.R_reads' HO553.out).2.2); (case side6 => exact (Kd.R_reads' HO553.out).2.1); rintro e w64 ⟨rfl, hb⟩; refine ⟨_, rfl, ?_⟩; have n9_ := Aside0.mk (Kd.R_below (mR HO542.out) hb); have n0_ := Aside0.mk (Kd.R_below (mR HO545.out) hb); have n1_ := Aside0.mk (Kd.R_below (mR HO550.out) hb); have n2_ := Aside0.mk (Kd.R_below (mR HO553.out) hb); have n3_ := Aside0.mk (below_step (mB HB.out) hb); clear HO542; clear HO545; clear HO550; clear HO553; clear HB; have HO542 := n9_; have HO545 := n0_; have HO550 := n1_; have HO553 := n2_; have HB := n3_; clear n9_ n0_ n1_ n2_ n3_; (try clear hb); (try clear hb2); (try clear hk); (try clear hi)) | ((with_reducible refine gate_callee (f := 29) rfl ?_); refine goesL_ (some 34) rfl rfl Try.func29 (by kernel_rfl) rfl #[.int .i64 0, .int .i64 4, .slice (some ⟨g541, 0, none⟩) y540.length y540.length, .int .i64 2] rfl mt ?_; (with_reducible refine (easy_Shadow.calls k 0 4 _ _ y540 2 t556 t557 t558 _ ?side1 ?side2 A4.out).mono ?_); (case side1 => exact mC (Kd.R_reads' HO542.out).2.2); (case side2 => exact (Kd.R_reads' HO542.out).2.1); rintro e w65 ⟨rfl, hb⟩; refine ⟨_, rfl, ?_⟩; have n9_ := Aside0.mk (Kd.R_below (mR HO542.out) hb); have n0_ := Aside0.mk (Kd.R_below (mR HO545.out) hb); have n1_ := Aside0.mk (Kd.R_below (mR HO550.out) hb); have n2_ := Aside0.mk (Kd.R_below (mR HO553.out) hb); have n3_ := Aside0.mk (below_step (mB HB.out) hb); clear HO542; clear HO545; clear HO550; clear HO553; clear HB; have HO542 := n9_; have HO545 := n0_; have HO550 := n1_; have HO553 := n2_; have HB := n3_; clear n9_ n0_ n1_ n2_ n3_; (try clear hb); (try clear hb2); (try clear hk); (try clear hi)))
      go_ret
      exact ⟨by first | rfl | (simp [errW_none, errW_some] <;> rfl) | (simp [*, errW_none, errW_some] <;> rfl), by repeat (first | (with_reducible first | exact HB.out | apply below_alloc | apply pw_below_drewN | apply below_drew1) | exact HB.out)⟩
   ·replace c6 := Bool.eq_false_iff.mpr c6
    subst c6
    have H1 : (some false) = some r := by rw [if_neg (show ¬ (false = true) by decide)] at H; exact H
    clear H
    have H := H1
    clear H1
    obtain rfl := Option.some.inj H
    go_enter Try.func31, Try.ntmps31
    go_wp2_with (first | ((with_reducible refine gate_dst (N := 11) rfl ?_); refine R_lit1 k38 _ 38 ?hg (N := 11) ?hd (xs := y540) (inner := [.int .i64 5, .int .i64 3]) (ok := fun _ => True) (okp := fun _ => True) ?hr ?hp (fun _ hk => hk) trivial (Below.refl _ _) (Nat.le_refl _) (by rw [Ny540.out]; simp) ?_; (case hd => rfl); (case hg => rfl); (case hr => rw [Ny540.out]; first | (go_simp; done) | (go_simp; rfl)); (case hp => rw [Ny540.out]; exact (Reps.c2 (show Kd.M k38 _ _ _ (⟨5, 3⟩ : S38) [.int .i64 5, .int .i64 3] from (k38_mkM _ _ _ (⟨5, 3⟩ : S38) )) (Reps.none _ _))); intro g541 w66 ho67 hb; have n0_ := Aside0.mk (Kd.R_lower ho67 (below_size (mB HB.out))); have n1_ := Aside0.mk (below_step (mB HB.out) hb); clear HB; have HO542 := n0_; have HB := n1_; clear n0_ n1_; clear hb ho67) | ((with_reducible refine gate_dst (N := 15) rfl ?_); refine Kd.R_lit k52 _ 52 ?hg (N := 15) ?hd (xs := ([(⟨2, 9⟩ : S52), (⟨1, 5⟩ : S52), (⟨1, 9⟩ : S52)] : List (S52))) (inner := [.int .i64 2, .int .i64 9, .int .i64 1, .int .i64 5, .int .i64 1, .int .i64 9]) (ok := fun _ => True) (okp := fun _ => True) ?hr ?hp (fun _ hk => hk) trivial (Below.refl _ _) (Nat.le_refl _) (by simp) ?_; (case hd => rfl); (case hg => rfl); (case hr => first | (go_simp; done) | (go_simp; rfl)); (case hp => exact (Reps.c2 (show Kd.M k52 _ _ _ (⟨2, 9⟩ : S52) [.int .i64 2, .int .i64 9] from (k52_mkM _ _ _ (⟨2, 9⟩ : S52) )) (Reps.c2 (show Kd.M k52 _ _ _ (⟨1, 5⟩ : S52) [.int .i64 1, .int .i64 5] from (k52_mkM _ _ _ (⟨1, 5⟩ : S52) )) (Reps.c2 (show Kd.M k52 _ _ _ (⟨1, 9⟩ : S52) [.int .i64 1, .int .i64 9] from (k52_mkM _ _ _ (⟨1, 9⟩ : S52) )) (Reps.none _ _))))); intro v544 w68 ho69 hb hg_ hnew_; clear hg_ hnew_; (first | rw [← Ny543.out] at ho69 | (simp only [Int.reduceToNat] at ho69; rw [← Ny543.out] at ho69)); have n0_ := Aside0.mk (Kd.R_below (mR HO542.out) hb); have n1_ := Aside0.mk (Kd.R_lower ho69 (below_size (mB HB.out))); have n2_ := Aside0.mk (below_step (mB HB.out) hb); clear HO542; clear HB; have HO542 := n0_; have HO545 := n1_; have HB := n2_; clear n0_ n1_ n2_; clear hb ho69; obtain ⟨Ao71, co71, eo71⟩ := Kd.R_slice HO545.out; subst eo71) | ((with_reducible refine gate_callee (f := 27) rfl ?_); refine goesL_ (some 19) rfl rfl Try.func27 (by kernel_rfl) rfl #[.int .i64 0, .int .i64 4, .slice (some ⟨g541, 0, none⟩) y540.length y540.length, .slice Ao71 y543.length co71, .slice none 0 0] rfl mt ?_; (refine (easy_Next.calls k 0 4 _ _ y540 _ _ y543 _ _ ([] : List Bool) t546 false _ ?side1 ?side2 ?side3 ?side4 ?side5 ?side6 A1.out).mono ?_); (case side1 => exact mC (Kd.R_reads' HO542.out).2.2); (case side2 => exact (Kd.R_reads' HO542.out).2.1); (case side3 => exact mC (Kd.R_reads' HO545.out).2.2); (case side4 => exact (Kd.R_reads' HO545.out).2.1); (case side5 => exact Kd.C_nil _ _); (case side6 => exact Nat.le_refl _); rintro e w72 ⟨rfl, hb⟩; refine ⟨_, rfl, ?_⟩; have n0_ := Aside0.mk (Kd.R_below (mR HO542.out) hb); have n1_ := Aside0.mk (Kd.R_below (mR HO545.out) hb); have n2_ := Aside0.mk (below_step (mB HB.out) hb); clear HO542; clear HO545; clear HB; have HO542 := n0_; have HO545 := n1_; have HB := n2_; clear n0_ n1_ n2_; (try clear hb); (try clear hb2); (try clear hk); (try clear hi)) | ((with_reducible refine gate_builtin (b := .append) (xs := #[.tmp 23, .tmp 25]) rfl ?_); at_builtin; refine R_append_full k38 (w0 := w) w.heap.size rfl (.tmp 23) (.tmp 25) 22 38 (.agg #[(.int .i64 0), (.int .i64 0)]) 16 rfl Try.underlying22 info38 rfl (by decide) (by omega) g541 y540 (⟨5, 1⟩ : S38) [.int .i64 5, .int .i64 1] (fun _ => True) (fun _ => False) rfl rfl ?aP (fun _ hk => hk.elim) ?aF ?aO ?aB ?aS ?aL ?_; (case aP => exact k38_mkM _ _ _ (⟨5, 1⟩ : S38)); (case aB => exact (mB HB.out)); (case aF => exact (fun _ _ => trivial)); (case aO => exact (mR HO542.out)); (case aS => exact (below_size (mB HB.out))); (case aL => have := LMc2.out; omega); intro v549 w73 ho hb hg; rw [← Ny548.out] at ho; have n0_ := Aside0.mk (Kd.R_grown (mR HO545.out) hg (fun _ _ => by simp)); have n1_ := Aside0.mk (hb); have n2_ := Aside0.mk (ho); have n3_ := Aside0.mk (Kd.R_grown (mR HO542.out) hg (fun _ _ => by simp)); clear HO545; clear HB; clear HO542; have HO545 := n0_; have HB := n1_; have HO550 := n2_; have HO542 := n3_; clear n0_ n1_ n2_ n3_; clear ho hb hg) | ((with_reducible refine gate_dst (N := 28) rfl ?_); refine Kd.R_lit Kd.bool _ 4 ?hg (N := 28) ?hd (xs := ([false, true] : List Bool)) (inner := [.bool false, .bool true]) (ok := fun _ => True) (okp := fun _ => True) ?hr ?hp (fun _ hk => hk) trivial (Below.refl _ _) (Nat.le_refl _) (by simp) ?_; (case hd => rfl); (case hg => rfl); (case hr => first | (go_simp; done) | (go_simp; rfl)); (case hp => exact (Reps.one (show Kd.M Kd.bool _ _ _ false [.bool false] from rfl) (Reps.one (show Kd.M Kd.bool _ _ _ true [.bool true] from rfl) (Reps.none _ _)))); intro v552 w74 ho75 hb hg_ hnew_; clear hg_ hnew_; (first | rw [← Ny551.out] at ho75 | (simp only [Int.reduceToNat] at ho75; rw [← Ny551.out] at ho75)); have n9_ := Aside0.mk (Kd.R_below (mR HO542.out) hb); have n0_ := Aside0.mk (Kd.R_below (mR HO545.out) hb); have n1_ := Aside0.mk (Kd.R_below (mR HO550.out) hb); have n2_ := Aside0.mk (Kd.R_lower ho75 (below_size (mB HB.out))); have n3_ := Aside0.mk (below_step (mB HB.out) hb); clear HO542; clear HO545; clear HO550; clear HB; have HO542 := n9_; have HO545 := n0_; have HO550 := n1_; have HO553 := n2_; have HB := n3_; clear n9_ n0_ n1_ n2_ n3_; clear hb ho75; obtain ⟨Ao76, co76, eo76⟩ := Kd.R_slice HO550.out; subst eo76; obtain ⟨Ao77, co77, eo77⟩ := Kd.R_slice HO553.out; subst eo77) | ((with_reducible refine gate_callee (f := 27) rfl ?_); refine goesL_ (some 29) rfl rfl Try.func27 (by kernel_rfl) rfl #[.int .i64 0, .int .i64 4, .slice Ao76 y548.length co76, .slice Ao71 y543.length co71, .slice Ao77 y551.length co77] rfl mt ?_; (with_reducible refine (easy_Next.calls k 0 4 _ _ y548 _ _ y543 _ _ y551 t554 t555 _ ?side1 ?side2 ?side3 ?side4 ?side5 ?side6 A3.out).mono ?_); (case side1 => exact mC (Kd.R_reads' HO550.out).2.2); (case side2 => exact (Kd.R_reads' HO550.out).2.1); (case side3 => exact mC (Kd.R_reads' HO545.out).2.2); (case side4 => exact (Kd.R_reads' HO545.out).2.1); (case side5 => exact mC (Kd.R_reads' HO553.out).2.2); (case side6 => exact (Kd.R_reads' HO553.out).2.1); rintro e w78 ⟨rfl, hb⟩; refine ⟨_, rfl, ?_⟩; have n9_ := Aside0.mk (Kd.R_below (mR HO542.out) hb); have n0_ := Aside0.mk (Kd.R_below (mR HO545.out) hb); have n1_ := Aside0.mk (Kd.R_below (mR HO550.out) hb); have n2_ := Aside0.mk (Kd.R_below (mR HO553.out) hb); have n3_ := Aside0.mk (below_step (mB HB.out) hb); clear HO542; clear HO545; clear HO550; clear HO553; clear HB; have HO542 := n9_; have HO545 := n0_; have HO550 := n1_; have HO553 := n2_; have HB := n3_; clear n9_ n0_ n1_ n2_ n3_; (try clear hb); (try clear hb2); (try clear hk); (try clear hi)) | ((with_reducible refine gate_callee (f := 29) rfl ?_); refine goesL_ (some 34) rfl rfl Try.func29 (by kernel_rfl) rfl #[.int .i64 0, .int .i64 4, .slice (some ⟨g541, 0, none⟩) y540.length y540.length, .int .i64 2] rfl mt ?_; (with_reducible refine (easy_Shadow.calls k 0 4 _ _ y540 2 t556 t557 t558 _ ?side1 ?side2 A4.out).mono ?_); (case side1 => exact mC (Kd.R_reads' HO542.out).2.2); (case side2 => exact (Kd.R_reads' HO542.out).2.1); rintro e w79 ⟨rfl, hb⟩; refine ⟨_, rfl, ?_⟩; have n9_ := Aside0.mk (Kd.R_below (mR HO542.out) hb); have n0_ := Aside0.mk (Kd.R_below (mR HO545.out) hb); have n1_ := Aside0.mk (Kd.R_below (mR HO550.out) hb); have n2_ := Aside0.mk (Kd.R_below (mR HO553.out) hb); have n3_ := Aside0.mk (below_step (mB HB.out) hb); clear HO542; clear HO545; clear HO550; clear HO553; clear HB; have HO542 := n9_; have HO545 := n0_; have HO550 := n1_; have HO553 := n2_; have HB := n3_; clear n9_ n0_ n1_ n2_ n3_; (try clear hb); (try clear hb2); (try clear hk); (try clear hi)))
    go_ret
    exact ⟨by first | rfl | (simp [errW_none, errW_some] <;> rfl) | (simp [*, errW_none, errW_some] <;> rfl), by repeat (first | (with_reducible first | exact HB.out | apply below_alloc | apply pw_below_drewN | apply below_drew1) | exact HB.out)⟩
  ·rw [if_neg c5] at H
   have c5b0 : (t546 == 1) = false := beq_eq_false_iff_ne.mpr c5
   have c5b1 : (t546 != 1) = true := bne_iff_ne.mpr c5
   obtain rfl := Option.some.inj H
   go_enter Try.func31, Try.ntmps31
   go_wp2_with (first | ((with_reducible refine gate_dst (N := 11) rfl ?_); refine R_lit1 k38 _ 38 ?hg (N := 11) ?hd (xs := y540) (inner := [.int .i64 5, .int .i64 3]) (ok := fun _ => True) (okp := fun _ => True) ?hr ?hp (fun _ hk => hk) trivial (Below.refl _ _) (Nat.le_refl _) (by rw [Ny540.out]; simp) ?_; (case hd => rfl); (case hg => rfl); (case hr => rw [Ny540.out]; first | (go_simp; done) | (go_simp; rfl)); (case hp => rw [Ny540.out]; exact (Reps.c2 (show Kd.M k38 _ _ _ (⟨5, 3⟩ : S38) [.int .i64 5, .int .i64 3] from (k38_mkM _ _ _ (⟨5, 3⟩ : S38) )) (Reps.none _ _))); intro g541 w80 ho81 hb; have n0_ := Aside0.mk (Kd.R_lower ho81 (below_size (mB HB.out))); have n1_ := Aside0.mk (below_step (mB HB.out) hb); clear HB; have HO542 := n0_; have HB := n1_; clear n0_ n1_; clear hb ho81) | ((with_reducible refine gate_dst (N := 15) rfl ?_); refine Kd.R_lit k52 _ 52 ?hg (N := 15) ?hd (xs := ([(⟨2, 9⟩ : S52), (⟨1, 5⟩ : S52), (⟨1, 9⟩ : S52)] : List (S52))) (inner := [.int .i64 2, .int .i64 9, .int .i64 1, .int .i64 5, .int .i64 1, .int .i64 9]) (ok := fun _ => True) (okp := fun _ => True) ?hr ?hp (fun _ hk => hk) trivial (Below.refl _ _) (Nat.le_refl _) (by simp) ?_; (case hd => rfl); (case hg => rfl); (case hr => first | (go_simp; done) | (go_simp; rfl)); (case hp => exact (Reps.c2 (show Kd.M k52 _ _ _ (⟨2, 9⟩ : S52) [.int .i64 2, .int .i64 9] from (k52_mkM _ _ _ (⟨2, 9⟩ : S52) )) (Reps.c2 (show Kd.M k52 _ _ _ (⟨1, 5⟩ : S52) [.int .i64 1, .int .i64 5] from (k52_mkM _ _ _ (⟨1, 5⟩ : S52) )) (Reps.c2 (show Kd.M k52 _ _ _ (⟨1, 9⟩ : S52) [.int .i64 1, .int .i64 9] from (k52_mkM _ _ _ (⟨1, 9⟩ : S52) )) (Reps.none _ _))))); intro v544 w82 ho83 hb hg_ hnew_; clear hg_ hnew_; (first | rw [← Ny543.out] at ho83 | (simp only [Int.reduceToNat] at ho83; rw [← Ny543.out] at ho83)); have n0_ := Aside0.mk (Kd.R_below (mR HO542.out) hb); have n1_ := Aside0.mk (Kd.R_lower ho83 (below_size (mB HB.out))); have n2_ := Aside0.mk (below_step (mB HB.out) hb); clear HO542; clear HB; have HO542 := n0_; have HO545 := n1_; have HB := n2_; clear n0_ n1_ n2_; clear hb ho83; obtain ⟨Ao85, co85, eo85⟩ := Kd.R_slice HO545.out; subst eo85) | ((with_reducible refine gate_callee (f := 27) rfl ?_); refine goesL_ (some 19) rfl rfl Try.func27 (by kernel_rfl) rfl #[.int .i64 0, .int .i64 4, .slice (some ⟨g541, 0, none⟩) y540.length y540.length, .slice Ao85 y543.length co85, .slice none 0 0] rfl mt ?_; (refine (easy_Next.calls k 0 4 _ _ y540 _ _ y543 _ _ ([] : List Bool) t546 t547 _ ?side1 ?side2 ?side3 ?side4 ?side5 ?side6 A1.out).mono ?_); (case side1 => exact mC (Kd.R_reads' HO542.out).2.2); (case side2 => exact (Kd.R_reads' HO542.out).2.1); (case side3 => exact mC (Kd.R_reads' HO545.out).2.2); (case side4 => exact (Kd.R_reads' HO545.out).2.1); (case side5 => exact Kd.C_nil _ _); (case side6 => exact Nat.le_refl _); rintro e w86 ⟨rfl, hb⟩; refine ⟨_, rfl, ?_⟩; have n0_ := Aside0.mk (Kd.R_below (mR HO542.out) hb); have n1_ := Aside0.mk (Kd.R_below (mR HO545.out) hb); have n2_ := Aside0.mk (below_step (mB HB.out) hb); clear HO542; clear HO545; clear HB; have HO542 := n0_; have HO545 := n1_; have HB := n2_; clear n0_ n1_ n2_; (try clear hb); (try clear hb2); (try clear hk); (try clear hi)) | ((with_reducible refine gate_builtin (b := .append) (xs := #[.tmp 23, .tmp 25]) rfl ?_); at_builtin; refine R_append_full k38 (w0 := w) w.heap.size rfl (.tmp 23) (.tmp 25) 22 38 (.agg #[(.int .i64 0), (.int .i64 0)]) 16 rfl Try.underlying22 info38 rfl (by decide) (by omega) g541 y540 (⟨5, 1⟩ : S38) [.int .i64 5, .int .i64 1] (fun _ => True) (fun _ => False) rfl rfl ?aP (fun _ hk => hk.elim) ?aF ?aO ?aB ?aS ?aL ?_; (case aP => exact k38_mkM _ _ _ (⟨5, 1⟩ : S38)); (case aB => exact (mB HB.out)); (case aF => exact (fun _ _ => trivial)); (case aO => exact (mR HO542.out)); (case aS => exact (below_size (mB HB.out))); (case aL => have := LMc2.out; omega); intro v549 w87 ho hb hg; rw [← Ny548.out] at ho; have n0_ := Aside0.mk (Kd.R_grown (mR HO545.out) hg (fun _ _ => by simp)); have n1_ := Aside0.mk (hb); have n2_ := Aside0.mk (ho); have n3_ := Aside0.mk (Kd.R_grown (mR HO542.out) hg (fun _ _ => by simp)); clear HO545; clear HB; clear HO542; have HO545 := n0_; have HB := n1_; have HO550 := n2_; have HO542 := n3_; clear n0_ n1_ n2_ n3_; clear ho hb hg) | ((with_reducible refine gate_dst (N := 28) rfl ?_); refine Kd.R_lit Kd.bool _ 4 ?hg (N := 28) ?hd (xs := ([false, true] : List Bool)) (inner := [.bool false, .bool true]) (ok := fun _ => True) (okp := fun _ => True) ?hr ?hp (fun _ hk => hk) trivial (Below.refl _ _) (Nat.le_refl _) (by simp) ?_; (case hd => rfl); (case hg => rfl); (case hr => first | (go_simp; done) | (go_simp; rfl)); (case hp => exact (Reps.one (show Kd.M Kd.bool _ _ _ false [.bool false] from rfl) (Reps.one (show Kd.M Kd.bool _ _ _ true [.bool true] from rfl) (Reps.none _ _)))); intro v552 w88 ho89 hb hg_ hnew_; clear hg_ hnew_; (first | rw [← Ny551.out] at ho89 | (simp only [Int.reduceToNat] at ho89; rw [← Ny551.out] at ho89)); have n9_ := Aside0.mk (Kd.R_below (mR HO542.out) hb); have n0_ := Aside0.mk (Kd.R_below (mR HO545.out) hb); have n1_ := Aside0.mk (Kd.R_below (mR HO550.out) hb); have n2_ := Aside0.mk (Kd.R_lower ho89 (below_size (mB HB.out))); have n3_ := Aside0.mk (below_step (mB HB.out) hb); clear HO542; clear HO545; clear HO550; clear HB; have HO542 := n9_; have HO545 := n0_; have HO550 := n1_; have HO553 := n2_; have HB := n3_; clear n9_ n0_ n1_ n2_ n3_; clear hb ho89; obtain ⟨Ao90, co90, eo90⟩ := Kd.R_slice HO550.out; subst eo90; obtain ⟨Ao91, co91, eo91⟩ := Kd.R_slice HO553.out; subst eo91) | ((with_reducible refine gate_callee (f := 27) rfl ?_); refine goesL_ (some 29) rfl rfl Try.func27 (by kernel_rfl) rfl #[.int .i64 0, .int .i64 4, .slice Ao90 y548.length co90, .slice Ao85 y543.length co85, .slice Ao91 y551.length co91] rfl mt ?_; (with_reducible refine (easy_Next.calls k 0 4 _ _ y548 _ _ y543 _ _ y551 t554 t555 _ ?side1 ?side2 ?side3 ?side4 ?side5 ?side6 A3.out).mono ?_); (case side1 => exact mC (Kd.R_reads' HO550.out).2.2); (case side2 => exact (Kd.R_reads' HO550.out).2.1); (case side3 => exact mC (Kd.R_reads' HO545.out).2.2); (case side4 => exact (Kd.R_reads' HO545.out).2.1); (case side5 => exact mC (Kd.R_reads' HO553.out).2.2); (case side6 => exact (Kd.R_reads' HO553.out).2.1); rintro e w92 ⟨rfl, hb⟩; refine ⟨_, rfl, ?_⟩; have n9_ := Aside0.mk (Kd.R_below (mR HO542.out) hb); have n0_ := Aside0.mk (Kd.R_below (mR HO545.out) hb); have n1_ := Aside0.mk (Kd.R_below (mR HO550.out) hb); have n2_ := Aside0.mk (Kd.R_below (mR HO553.out) hb); have n3_ := Aside0.mk (below_step (mB HB.out) hb); clear HO542; clear HO545; clear HO550; clear HO553; clear HB; have HO542 := n9_; have HO545 := n0_; have HO550 := n1_; have HO553 := n2_; have HB := n3_; clear n9_ n0_ n1_ n2_ n3_; (try clear hb); (try clear hb2); (try clear hk); (try clear hi)) | ((with_reducible refine gate_callee (f := 29) rfl ?_); refine goesL_ (some 34) rfl rfl Try.func29 (by kernel_rfl) rfl #[.int .i64 0, .int .i64 4, .slice (some ⟨g541, 0, none⟩) y540.length y540.length, .int .i64 2] rfl mt ?_; (with_reducible refine (easy_Shadow.calls k 0 4 _ _ y540 2 t556 t557 t558 _ ?side1 ?side2 A4.out).mono ?_); (case side1 => exact mC (Kd.R_reads' HO542.out).2.2); (case side2 => exact (Kd.R_reads' HO542.out).2.1); rintro e w93 ⟨rfl, hb⟩; refine ⟨_, rfl, ?_⟩; have n9_ := Aside0.mk (Kd.R_below (mR HO542.out) hb); have n0_ := Aside0.mk (Kd.R_below (mR HO545.out) hb); have n1_ := Aside0.mk (Kd.R_below (mR HO550.out) hb); have n2_ := Aside0.mk (Kd.R_below (mR HO553.out) hb); have n3_ := Aside0.mk (below_step (mB HB.out) hb); clear HO542; clear HO545; clear HO550; clear HO553; clear HB; have HO542 := n9_; have HO545 := n0_; have HO550 := n1_; have HO553 := n2_; have HB := n3_; clear n9_ n0_ n1_ n2_ n3_; (try clear hb); (try clear hb2); (try clear hk); (try clear hi)))
   go_ret
   exact ⟨by first | rfl | (simp [errW_none, errW_some] <;> rfl) | (simp [*, errW_none, errW_some] <;> rfl), by repeat (first | (with_reducible first | exact HB.out | apply below_alloc | apply pw_below_drewN | apply below_drew1) | exact HB.out)⟩
 ·rw [if_neg c2] at H
  exact absurd H (by simp)

end Go.Proofs.Ytedpoahndddgfaa.PAll
end
