/- Words, plain functions and contracts of the functions that the law of this claim reaches; no conditions. -/
import Derived.Test.YtkhfgflcanmefaaBOrderLess3
section
namespace Go.Proofs.Ytkhfgflcanmefaa.PAll
open Go.RowKit Go.Proofs.YtkhfgflcanmefaaW.PrintWords Go.Proofs.YtkhfgflcanmefaaW.PrintLast Go.Proofs.YtkhfgflcanmefaaW.PrintMore
attribute [local go_sem] max2_int min2_int max_two min_two max_three min_three max_four min_four   -- for this text's walks alone
set_option linter.unusedVariables false
set_option linter.unusedSimpArgs false

abbrev order_Order.sort (al : List S32) (k : Nat) (l : List Int) : Option (List Int) := @slices_SortStableFunc_int__order_Order_1.f ⟨al, fun _ _ => none⟩ k l
theorem order_Order.sortmono (al : List S32) (l : List Int) (k : Nat) : LeO (order_Order.sort al k l) (order_Order.sort al (k + 1) l) := @slices_SortStableFunc_int__order_Order_1.mono ⟨al, fun _ _ => none⟩ l k
def order_Order.l0 : Nat → List Int → List (S32) → Int → Int → Option (List Int)
  | 0, _, _, _, _ => none
  | k + 1, x3, x6, x7, x8 => if x8 < x7 then (if 0 ≤ x8 then (if x8 < (x6.length : Int) then (if ((rd_T32 x6 x8).f7) = 1 then (if x3.length < 17592186044416 then (order_Order.l0 k (x3 ++ [x8]) x6 x7 (wrap64 (x8 + 1))) else (none)) else (order_Order.l0 k x3 x6 x7 (wrap64 (x8 + 1)))) else (none)) else (none)) else ((order_Order.sort x6 k x3).bind fun t210 => ((slices_Clip_int.f t210).bind fun t211 => (some t211)))
def order_Order.f (k : Nat) (l0 : List (S32)) : Option (List Int) := order_Order.l0 k ([] : List Int) l0 (l0.length : Int) 0
theorem order_Order.mono_l : ∀ k, (∀ y0 y1 y2 y3, LeO (order_Order.l0 k y0 y1 y2 y3) (order_Order.l0 (k + 1) y0 y1 y2 y3))
  | 0 => fun _ _ _ _ r h => by simp [order_Order.l0] at h
  | k + 1 => by
    have ih0 := order_Order.mono_l k
    · intro y0 y1 y2 y3
      unfold order_Order.l0
      repeat' first
      | (with_reducible exact ih0 _ _ _ _)
      | (with_reducible exact order_Order.sortmono _ _ _)
      | (with_reducible exact LeO.refl _)
      | (with_reducible exact LeO.none _)
      | (with_reducible refine LeO.ite ?_ ?_)
      | (with_reducible refine LeO.bind ?_ (fun _ => ?_))
      | exact ih0 _ _ _ _
      | exact order_Order.sortmono _ _ _
      | exact LeO.none _
      | refine LeO.ite ?_ ?_
      | refine LeO.bind ?_ (fun _ => ?_)
theorem order_Order.mono : ∀ a0 k, LeO (order_Order.f k a0) (order_Order.f (k + 1) a0) := by
  intro a0 k
  have ih0 := order_Order.mono_l k
  unfold order_Order.f
  repeat' first
      | (with_reducible exact ih0 _ _ _ _)
      | (with_reducible exact order_Order.sortmono _ _ _)
      | (with_reducible exact LeO.refl _)
      | (with_reducible exact LeO.none _)
      | (with_reducible refine LeO.ite ?_ ?_)
      | (with_reducible refine LeO.bind ?_ (fun _ => ?_))
      | exact ih0 _ _ _ _
      | exact order_Order.sortmono _ _ _
      | exact LeO.none _
      | refine LeO.ite ?_ ?_
      | refine LeO.bind ?_ (fun _ => ?_)
set_option maxHeartbeats 8000000 in
set_option maxRecDepth 100000 in
theorem order_Order.calls (k : Nat) (A0 : Option Addr) (c0 : Nat) (l0 : List (S32)) (r : List Int) (w : World) (hr0 : Kd.C k32 w A0 l0.length l0) (hc0 : l0.length ≤ c0) (h : order_Order.f k l0 = some r) :
    Calls Try.prog 14 #[.slice A0 l0.length c0] w fun e w' => ∃ v0_ : Value, e = .returned (v0_) ∧ Kd.V (Kd.int .i64) 3 w' w.heap.size (fun k_ => (w.heap.size ≤ k_)) v0_ r ∧ Below w.heap.size w w' := by
  have hu32 := Try.underlying32
  have HR0 := Aside0.mk hr0
  have HC0 := Aside0.mk hc0
  clear hr0 hc0
  have HB := Aside0.mk (Below.refl w.heap.size w)
  have H : (order_Order.l0 k ([] : List Int) l0 (l0.length : Int) 0) = some r := h
  clear h
  have H' := Aside0.mk H
  clear H
  go_enter Try.func14, Try.ntmps14
  go_wp2
  obtain ⟨W1, hW1⟩ : ∃ W1, W1 = w.alloc (.cells #[.slice A0 l0.length c0] 22 (0, 0)) := ⟨_, rfl⟩
  rw [← hW1]
  have HS1 : Aside0 (w.heap.size ≤ W1.heap.size ∧ Below w.heap.size w W1) := ⟨by rw [hW1]; exact ⟨by simp, below_alloc (Below.refl _ _) _⟩⟩
  letI : Cap := ⟨l0, fun _ _ => none⟩
  have HCAP : Aside0 (CapAt w.heap.size A0 c0 W1) := ⟨⟨by rw [hW1]; exact (blk_cell (heap_alloc_new w _) 0).trans rfl, Kd.C_below HR0.out HS1.out.2, fun _ _ => rfl⟩⟩
  have HR1 := Aside0.mk (Kd.C_below HR0.out HS1.out.2)
  have HBX : Aside0 (W1.cell? ⟨w.heap.size, 0, none⟩ = some (.slice A0 l0.length c0)) := ⟨HCAP.out.hg⟩
  clear HR0 HB hW1
  have HR0 := HR1
  clear HR1
  have HB := Aside0.mk (Below.refl W1.heap.size W1)
  go_loopg [3, 8] k (fun kq v3 v8 w' => ∃ (x3_1 : List Int) (x8_1 : Int), v8 = .int .i64 x8_1 ∧ Aside0 (order_Order.l0 kq x3_1 l0 (l0.length : Int) x8_1 = some r) ∧ Aside0 (kq ≤ k) ∧ Aside0 (Kd.R (Kd.int .i64) 3 w' W1.heap.size (fun k_ => (W1.heap.size ≤ k_)) v3 x3_1) ∧ Aside0 (Below W1.heap.size W1 w'))
  case atStart => exact ⟨(([] : List Int)), (0), (by first | rfl | (simp; done) | (simp [*]; done)), H', ⟨Nat.le_refl _⟩, ⟨by first | exact Kd.R_nil _ _ _ _ _ | exact Kd.N_nil _ _ _ _ _ | exact Kd.V_nil _ _ _ _ _ | exact Kd.Q_nil _ _ _ _ _ | exact Kd.S_nil _ _ _ _ _⟩, ⟨by repeat (first | (with_reducible first | exact HB.out | apply below_alloc | apply pw_below_drewN | apply below_drew1) | exact HB.out)⟩⟩
  case round =>
    clear H'
    try clear c1
    obtain ⟨x3_1, x8_1, rfl, HA, HK1, HO_3, HB⟩ := hrel
    cases gk with
    | zero => exact absurd HA.out (by simp [order_Order.l0])
    | succ k1 =>
      have H := HA.out
      clear HA
      simp only [order_Order.l0] at H
      by_cases c2 : x8_1 < (l0.length : Int)
      · rw [if_pos c2] at H
        have c2b0 : decide (x8_1 < (l0.length : Int)) = true := decide_eq_true c2
        clear c2
        by_cases c3 : 0 ≤ x8_1
        · rw [if_pos c3] at H
          have c3b0 : decide (0 ≤ x8_1) = true := decide_eq_true c3
          clear c3
          by_cases c4 : x8_1 < (l0.length : Int)
          · rw [if_pos c4] at H
            have c4b0 : decide (x8_1 < (l0.length : Int)) = true := decide_eq_true c4
            clear c4
            by_cases c5 : ((rd_T32 l0 x8_1).f7) = 1
            · rw [if_pos c5] at H
              have c5b0 : (((rd_T32 l0 x8_1).f7) == 1) = true := beq_iff_eq.mpr c5
              have c5b1 : (((rd_T32 l0 x8_1).f7) != 1) = false := bne_eq_false_iff_eq.mpr c5
              clear c5
              by_cases c6 : x3_1.length < 17592186044416
              · rw [if_pos c6] at H
                have LMc6 := Aside0.mk c6
                clear c6
                obtain ⟨y207, hy207⟩ : ∃ y_ : List Int, y_ = (x3_1 ++ [x8_1]) := ⟨_, rfl⟩
                replace H : (order_Order.l0 k1 y207 l0 (l0.length : Int) (wrap64 (x8_1 + 1))) = some r := by first | (rw [hy207]; with_reducible exact H) | (have H2_ := (Option.bind_some _ _).symm.trans H; rw [hy207]; with_reducible exact H2_) | (have H2_ := (Option.bind_some _ _).symm.trans H; with_reducible exact H2_) | with_reducible exact H | (rw [hy207]; exact H) | exact H
                have Ny207 := Aside0.mk hy207
                clear hy207
                have H' := Aside0.mk H
                clear H
                have p205 : 0 ≤ (x8_1 : Int) := of_decide_eq_true (by first | (with_reducible assumption) | assumption)
                have q205 : x8_1 < (l0.length : Int) := of_decide_eq_true (by first | (with_reducible assumption) | assumption)
                obtain ⟨ad205, A205_11, c205_11, e205, hx205_0, hx205_1, hx205_2, hx205_3, hx205_4, hx205_5, hx205_6, hx205_7, hx205_8, hx205_9, hx205_10, hx205_11, hl205_11, hi205_11⟩ := at_T32 HR0.out x8_1 p205 q205
                cases e205
                replace hx205_0 := (HB.out.cell (World.block_lt_of_cell? W1 _ hx205_0)).trans hx205_0
                replace hx205_1 := (HB.out.cell (World.block_lt_of_cell? W1 _ hx205_1)).trans hx205_1
                replace hx205_2 := (HB.out.cell (World.block_lt_of_cell? W1 _ hx205_2)).trans hx205_2
                replace hx205_3 := (HB.out.cell (World.block_lt_of_cell? W1 _ hx205_3)).trans hx205_3
                replace hx205_4 := (HB.out.cell (World.block_lt_of_cell? W1 _ hx205_4)).trans hx205_4
                replace hx205_5 := (HB.out.cell (World.block_lt_of_cell? W1 _ hx205_5)).trans hx205_5
                replace hx205_6 := (HB.out.cell (World.block_lt_of_cell? W1 _ hx205_6)).trans hx205_6
                replace hx205_7 := (HB.out.cell (World.block_lt_of_cell? W1 _ hx205_7)).trans hx205_7
                replace hx205_8 := (HB.out.cell (World.block_lt_of_cell? W1 _ hx205_8)).trans hx205_8
                replace hx205_9 := (HB.out.cell (World.block_lt_of_cell? W1 _ hx205_9)).trans hx205_9
                replace hx205_10 := (HB.out.cell (World.block_lt_of_cell? W1 _ hx205_10)).trans hx205_10
                replace hx205_11 := (HB.out.cell (World.block_lt_of_cell? W1 _ hx205_11)).trans hx205_11
                have HR205_11 := Aside0.mk hi205_11
                have HC205_11 := Aside0.mk hl205_11
                clear hi205_11 hl205_11
                replace p205 := eq_true p205
                replace q205 := eq_true q205
                go_wp2_with (first | ((with_reducible refine gate_dst (N := 5) rfl ?_); refine box_event ?hg (N := 5) ?hd (cs := #[.int .i64 0, .int .i64 0, .int .i64 0, .int .i64 0, .int .i64 0, .int .i64 0, .int .i64 0, .int .i64 0, .int .i64 0, .int .i64 0, .int .i64 0, .slice none 0 0]) (t := 32) ?hr ?_; (case hd => rfl); (case hg => rfl); (case hr => first | (go_simp; done) | (go_simp; rfl)); intro gb206 hg w7 hbox hb; have n0_ := Aside0.mk (Kd.R_below (by (with_reducible repeat (first | apply Kd.R_alloc | apply Kd.R_drewN | apply Kd.R_drew)); exact HO_3.out) hb); have n1_ := Aside0.mk (below_step (by repeat (first | (with_reducible first | exact HB.out | apply below_alloc | apply pw_below_drewN | apply below_drew1) | exact HB.out)) hb); have n2_ := Aside0.mk (hbox); have n3_ := Aside0.mk ((by rw [hg]; exact (below_size (by repeat (first | (with_reducible first | exact HB.out | apply below_alloc | apply pw_below_drewN | apply below_drew1) | exact HB.out))) : W1.heap.size ≤ gb206)); have n4_ := Aside0.mk ((by rw [hg]; exact (below_size (by repeat (first | (with_reducible first | exact HB.out | apply below_alloc | apply pw_below_drewN | apply below_drew1) | exact HB.out))) : W1.heap.size ≤ gb206)); clear HO_3; clear HB; have HO_3 := n0_; have HB := n1_; have BK206 := n2_; have GW206 := n3_; have GE206 := n4_; clear n0_ n1_ n2_ n3_ n4_; clear hb hbox hg; have hcz8_0 : w7.cell? ⟨gb206, 0, none⟩ = some (.int .i64 0) := (blk_cell BK206.out 0).trans rfl; have hcz8_1 : w7.cell? ⟨gb206, 1, none⟩ = some (.int .i64 0) := (blk_cell BK206.out 1).trans rfl; have hcz8_2 : w7.cell? ⟨gb206, 2, none⟩ = some (.int .i64 0) := (blk_cell BK206.out 2).trans rfl; have hcz8_3 : w7.cell? ⟨gb206, 3, none⟩ = some (.int .i64 0) := (blk_cell BK206.out 3).trans rfl; have hcz8_4 : w7.cell? ⟨gb206, 4, none⟩ = some (.int .i64 0) := (blk_cell BK206.out 4).trans rfl; have hcz8_5 : w7.cell? ⟨gb206, 5, none⟩ = some (.int .i64 0) := (blk_cell BK206.out 5).trans rfl; have hcz8_6 : w7.cell? ⟨gb206, 6, none⟩ = some (.int .i64 0) := (blk_cell BK206.out 6).trans rfl; have hcz8_7 : w7.cell? ⟨gb206, 7, none⟩ = some (.int .i64 0) := (blk_cell BK206.out 7).trans rfl; have hcz8_8 : w7.cell? ⟨gb206, 8, none⟩ = some (.int .i64 0) := (blk_cell BK206.out 8).trans rfl; have hcz8_9 : w7.cell? ⟨gb206, 9, none⟩ = some (.int .i64 0) := (blk_cell BK206.out 9).trans rfl; have hcz8_10 : w7.cell? ⟨gb206, 10, none⟩ = some (.int .i64 0) := (blk_cell BK206.out 10).trans rfl; have hcz8_11 : w7.cell? ⟨gb206, 11, none⟩ = some (.slice none 0 0) := (blk_cell BK206.out 11).trans rfl; have hfz8_0 := blk_frozen BK206.out 0; have hfz8_1 := blk_frozen BK206.out 1; have hfz8_2 := blk_frozen BK206.out 2; have hfz8_3 := blk_frozen BK206.out 3; have hfz8_4 := blk_frozen BK206.out 4; have hfz8_5 := blk_frozen BK206.out 5; have hfz8_6 := blk_frozen BK206.out 6; have hfz8_7 := blk_frozen BK206.out 7; have hfz8_8 := blk_frozen BK206.out 8; have hfz8_9 := blk_frozen BK206.out 9; have hfz8_10 := blk_frozen BK206.out 10; have hfz8_11 := blk_frozen BK206.out 11) | ((with_reducible refine gate_builtin (b := .append) (xs := #[.tmp 16, .tmp 18]) rfl ?_); at_builtin; refine Kd.R_append (Kd.int .i64) (w0 := W1) W1.heap.size rfl (.tmp 16) (.tmp 18) 24 3 (.int .i64 0) 8 rfl Try.underlying24 info3 rfl (by decide) (by omega) u3 x3_1 x8_1 [.int .i64 x8_1] (fun k_ => (W1.heap.size ≤ k_)) (fun _ => False) rfl (by first | (go_simp; done) | (go_simp; rfl)) ?aP (fun _ hk => hk.elim) ?aF ?aO ?aB ?aS ?aL ?_; (case aP => exact rfl); (case aB => exact (by repeat (first | (with_reducible first | exact HB.out | apply below_alloc | apply pw_below_drewN | apply below_drew1 | refine below_set ?_ GE206.out) | exact HB.out))); (case aF => exact (fun k_ hk => (Nat.le_trans (below_size (by repeat (first | (with_reducible first | exact HB.out | apply below_alloc | apply pw_below_drewN | apply below_drew1 | refine below_set ?_ GE206.out) | exact HB.out))) hk))); (case aO => exact (by (with_reducible repeat (first | apply Kd.R_alloc | apply Kd.R_drewN | apply Kd.R_drew)); exact Kd.R_mono (Kd.R_fa gb206 11 (Kd.R_fa gb206 10 (Kd.R_fa gb206 9 (Kd.R_fa gb206 8 (Kd.R_fa gb206 7 (Kd.R_fa gb206 6 (Kd.R_fa gb206 5 (Kd.R_fa gb206 4 (Kd.R_fa gb206 3 (Kd.R_fa gb206 2 (Kd.R_fa gb206 1 (Kd.R_fa gb206 0 (Kd.R_types HO_3.out BK206.out (by decide)) (.int .i64 ((rd_T32 l0 x8_1).f0))) (.int .i64 ((rd_T32 l0 x8_1).f1))) (.int .i64 ((rd_T32 l0 x8_1).f2))) (.int .i64 ((rd_T32 l0 x8_1).f3))) (.int .i64 ((rd_T32 l0 x8_1).f4))) (.int .i64 ((rd_T32 l0 x8_1).f5))) (.int .i64 ((rd_T32 l0 x8_1).f6))) (.int .i64 ((rd_T32 l0 x8_1).f7))) (.int .i64 ((rd_T32 l0 x8_1).f8))) (.int .i64 ((rd_T32 l0 x8_1).f9))) (.int .i64 ((rd_T32 l0 x8_1).f10))) (.slice A205_11 ((rd_T32 l0 x8_1).f11).length c205_11)) (fun _ hk => hk.1))); (case aS => exact (below_size (by repeat (first | (with_reducible first | exact HB.out | apply below_alloc | apply pw_below_drewN | apply below_drew1 | refine below_set ?_ GE206.out) | exact HB.out)))); (case aL => have := LMc6.out; omega); intro v208 w9 ho hb hg hat; rw [← Ny207.out] at ho; have n0_ := Aside0.mk (blk_grown (g := gb206) (o := .cells #[.int .i64 ((rd_T32 l0 x8_1).f0), .int .i64 ((rd_T32 l0 x8_1).f1), .int .i64 ((rd_T32 l0 x8_1).f2), .int .i64 ((rd_T32 l0 x8_1).f3), .int .i64 ((rd_T32 l0 x8_1).f4), .int .i64 ((rd_T32 l0 x8_1).f5), .int .i64 ((rd_T32 l0 x8_1).f6), .int .i64 ((rd_T32 l0 x8_1).f7), .int .i64 ((rd_T32 l0 x8_1).f8), .int .i64 ((rd_T32 l0 x8_1).f9), .int .i64 ((rd_T32 l0 x8_1).f10), .slice A205_11 ((rd_T32 l0 x8_1).f11).length c205_11] 32 (0, 0)) (by (with_reducible repeat first | apply blk_drewN | apply blk_drew | apply blk_alloc); refine blk_put (cs := #[.int .i64 ((rd_T32 l0 x8_1).f0), .int .i64 ((rd_T32 l0 x8_1).f1), .int .i64 ((rd_T32 l0 x8_1).f2), .int .i64 ((rd_T32 l0 x8_1).f3), .int .i64 ((rd_T32 l0 x8_1).f4), .int .i64 ((rd_T32 l0 x8_1).f5), .int .i64 ((rd_T32 l0 x8_1).f6), .int .i64 ((rd_T32 l0 x8_1).f7), .int .i64 ((rd_T32 l0 x8_1).f8), .int .i64 ((rd_T32 l0 x8_1).f9), .int .i64 ((rd_T32 l0 x8_1).f10), .slice none 0 0]) ?_ 11 _ rfl; (with_reducible repeat first | apply blk_drewN | apply blk_drew | apply blk_alloc); refine blk_put (cs := #[.int .i64 ((rd_T32 l0 x8_1).f0), .int .i64 ((rd_T32 l0 x8_1).f1), .int .i64 ((rd_T32 l0 x8_1).f2), .int .i64 ((rd_T32 l0 x8_1).f3), .int .i64 ((rd_T32 l0 x8_1).f4), .int .i64 ((rd_T32 l0 x8_1).f5), .int .i64 ((rd_T32 l0 x8_1).f6), .int .i64 ((rd_T32 l0 x8_1).f7), .int .i64 ((rd_T32 l0 x8_1).f8), .int .i64 ((rd_T32 l0 x8_1).f9), .int .i64 0, .slice none 0 0]) ?_ 10 _ rfl; (with_reducible repeat first | apply blk_drewN | apply blk_drew | apply blk_alloc); refine blk_put (cs := #[.int .i64 ((rd_T32 l0 x8_1).f0), .int .i64 ((rd_T32 l0 x8_1).f1), .int .i64 ((rd_T32 l0 x8_1).f2), .int .i64 ((rd_T32 l0 x8_1).f3), .int .i64 ((rd_T32 l0 x8_1).f4), .int .i64 ((rd_T32 l0 x8_1).f5), .int .i64 ((rd_T32 l0 x8_1).f6), .int .i64 ((rd_T32 l0 x8_1).f7), .int .i64 ((rd_T32 l0 x8_1).f8), .int .i64 0, .int .i64 0, .slice none 0 0]) ?_ 9 _ rfl; (with_reducible repeat first | apply blk_drewN | apply blk_drew | apply blk_alloc); refine blk_put (cs := #[.int .i64 ((rd_T32 l0 x8_1).f0), .int .i64 ((rd_T32 l0 x8_1).f1), .int .i64 ((rd_T32 l0 x8_1).f2), .int .i64 ((rd_T32 l0 x8_1).f3), .int .i64 ((rd_T32 l0 x8_1).f4), .int .i64 ((rd_T32 l0 x8_1).f5), .int .i64 ((rd_T32 l0 x8_1).f6), .int .i64 ((rd_T32 l0 x8_1).f7), .int .i64 0, .int .i64 0, .int .i64 0, .slice none 0 0]) ?_ 8 _ rfl; (with_reducible repeat first | apply blk_drewN | apply blk_drew | apply blk_alloc); refine blk_put (cs := #[.int .i64 ((rd_T32 l0 x8_1).f0), .int .i64 ((rd_T32 l0 x8_1).f1), .int .i64 ((rd_T32 l0 x8_1).f2), .int .i64 ((rd_T32 l0 x8_1).f3), .int .i64 ((rd_T32 l0 x8_1).f4), .int .i64 ((rd_T32 l0 x8_1).f5), .int .i64 ((rd_T32 l0 x8_1).f6), .int .i64 0, .int .i64 0, .int .i64 0, .int .i64 0, .slice none 0 0]) ?_ 7 _ rfl; (with_reducible repeat first | apply blk_drewN | apply blk_drew | apply blk_alloc); refine blk_put (cs := #[.int .i64 ((rd_T32 l0 x8_1).f0), .int .i64 ((rd_T32 l0 x8_1).f1), .int .i64 ((rd_T32 l0 x8_1).f2), .int .i64 ((rd_T32 l0 x8_1).f3), .int .i64 ((rd_T32 l0 x8_1).f4), .int .i64 ((rd_T32 l0 x8_1).f5), .int .i64 0, .int .i64 0, .int .i64 0, .int .i64 0, .int .i64 0, .slice none 0 0]) ?_ 6 _ rfl; (with_reducible repeat first | apply blk_drewN | apply blk_drew | apply blk_alloc); refine blk_put (cs := #[.int .i64 ((rd_T32 l0 x8_1).f0), .int .i64 ((rd_T32 l0 x8_1).f1), .int .i64 ((rd_T32 l0 x8_1).f2), .int .i64 ((rd_T32 l0 x8_1).f3), .int .i64 ((rd_T32 l0 x8_1).f4), .int .i64 0, .int .i64 0, .int .i64 0, .int .i64 0, .int .i64 0, .int .i64 0, .slice none 0 0]) ?_ 5 _ rfl; (with_reducible repeat first | apply blk_drewN | apply blk_drew | apply blk_alloc); refine blk_put (cs := #[.int .i64 ((rd_T32 l0 x8_1).f0), .int .i64 ((rd_T32 l0 x8_1).f1), .int .i64 ((rd_T32 l0 x8_1).f2), .int .i64 ((rd_T32 l0 x8_1).f3), .int .i64 0, .int .i64 0, .int .i64 0, .int .i64 0, .int .i64 0, .int .i64 0, .int .i64 0, .slice none 0 0]) ?_ 4 _ rfl; (with_reducible repeat first | apply blk_drewN | apply blk_drew | apply blk_alloc); refine blk_put (cs := #[.int .i64 ((rd_T32 l0 x8_1).f0), .int .i64 ((rd_T32 l0 x8_1).f1), .int .i64 ((rd_T32 l0 x8_1).f2), .int .i64 0, .int .i64 0, .int .i64 0, .int .i64 0, .int .i64 0, .int .i64 0, .int .i64 0, .int .i64 0, .slice none 0 0]) ?_ 3 _ rfl; (with_reducible repeat first | apply blk_drewN | apply blk_drew | apply blk_alloc); refine blk_put (cs := #[.int .i64 ((rd_T32 l0 x8_1).f0), .int .i64 ((rd_T32 l0 x8_1).f1), .int .i64 0, .int .i64 0, .int .i64 0, .int .i64 0, .int .i64 0, .int .i64 0, .int .i64 0, .int .i64 0, .int .i64 0, .slice none 0 0]) ?_ 2 _ rfl; (with_reducible repeat first | apply blk_drewN | apply blk_drew | apply blk_alloc); refine blk_put (cs := #[.int .i64 ((rd_T32 l0 x8_1).f0), .int .i64 0, .int .i64 0, .int .i64 0, .int .i64 0, .int .i64 0, .int .i64 0, .int .i64 0, .int .i64 0, .int .i64 0, .int .i64 0, .slice none 0 0]) ?_ 1 _ rfl; (with_reducible repeat first | apply blk_drewN | apply blk_drew | apply blk_alloc); refine blk_put (cs := #[.int .i64 0, .int .i64 0, .int .i64 0, .int .i64 0, .int .i64 0, .int .i64 0, .int .i64 0, .int .i64 0, .int .i64 0, .int .i64 0, .int .i64 0, .slice none 0 0]) ?_ 0 _ rfl; (with_reducible repeat first | apply blk_drewN | apply blk_drew | apply blk_alloc); exact BK206.out) hg (Kd.R_ne HO_3.out BK206.out (by decide))); have n1_ := Aside0.mk (hb); have n2_ := Aside0.mk (ho); clear BK206; clear HB; clear HO_3; have BK206 := n0_; have HB := n1_; have HO209 := n2_; clear n0_ n1_ n2_; clear ho hb hg hat))
                go_roundg k1
                case measure => have := HK1.out; omega
                case rel => exact ⟨(y207), (wrap64 (x8_1 + 1)), (by first | rfl | (simp; done) | (simp [*]; done)), H', ⟨by have := HK1.out; omega⟩, ⟨by (with_reducible repeat (first | apply Kd.R_alloc | apply Kd.R_drewN | apply Kd.R_drew)); exact HO209.out⟩, ⟨by repeat (first | (with_reducible first | exact HB.out | apply below_alloc | apply pw_below_drewN | apply below_drew1 | refine below_set ?_ GE206.out) | exact HB.out)⟩⟩
              · rw [if_neg c6] at H
                exact absurd H (by simp)
            · rw [if_neg c5] at H
              have c5b0 : (((rd_T32 l0 x8_1).f7) == 1) = false := beq_eq_false_iff_ne.mpr c5
              have c5b1 : (((rd_T32 l0 x8_1).f7) != 1) = true := bne_iff_ne.mpr c5
              have H' := Aside0.mk H
              clear H
              have p205 : 0 ≤ (x8_1 : Int) := of_decide_eq_true (by first | (with_reducible assumption) | assumption)
              have q205 : x8_1 < (l0.length : Int) := of_decide_eq_true (by first | (with_reducible assumption) | assumption)
              obtain ⟨ad205, A205_11, c205_11, e205, hx205_0, hx205_1, hx205_2, hx205_3, hx205_4, hx205_5, hx205_6, hx205_7, hx205_8, hx205_9, hx205_10, hx205_11, hl205_11, hi205_11⟩ := at_T32 HR0.out x8_1 p205 q205
              cases e205
              replace hx205_0 := (HB.out.cell (World.block_lt_of_cell? W1 _ hx205_0)).trans hx205_0
              replace hx205_1 := (HB.out.cell (World.block_lt_of_cell? W1 _ hx205_1)).trans hx205_1
              replace hx205_2 := (HB.out.cell (World.block_lt_of_cell? W1 _ hx205_2)).trans hx205_2
              replace hx205_3 := (HB.out.cell (World.block_lt_of_cell? W1 _ hx205_3)).trans hx205_3
              replace hx205_4 := (HB.out.cell (World.block_lt_of_cell? W1 _ hx205_4)).trans hx205_4
              replace hx205_5 := (HB.out.cell (World.block_lt_of_cell? W1 _ hx205_5)).trans hx205_5
              replace hx205_6 := (HB.out.cell (World.block_lt_of_cell? W1 _ hx205_6)).trans hx205_6
              replace hx205_7 := (HB.out.cell (World.block_lt_of_cell? W1 _ hx205_7)).trans hx205_7
              replace hx205_8 := (HB.out.cell (World.block_lt_of_cell? W1 _ hx205_8)).trans hx205_8
              replace hx205_9 := (HB.out.cell (World.block_lt_of_cell? W1 _ hx205_9)).trans hx205_9
              replace hx205_10 := (HB.out.cell (World.block_lt_of_cell? W1 _ hx205_10)).trans hx205_10
              replace hx205_11 := (HB.out.cell (World.block_lt_of_cell? W1 _ hx205_11)).trans hx205_11
              have HR205_11 := Aside0.mk hi205_11
              have HC205_11 := Aside0.mk hl205_11
              clear hi205_11 hl205_11
              replace p205 := eq_true p205
              replace q205 := eq_true q205
              go_wp2_with (first | ((with_reducible refine gate_dst (N := 5) rfl ?_); refine box_event ?hg (N := 5) ?hd (cs := #[.int .i64 0, .int .i64 0, .int .i64 0, .int .i64 0, .int .i64 0, .int .i64 0, .int .i64 0, .int .i64 0, .int .i64 0, .int .i64 0, .int .i64 0, .slice none 0 0]) (t := 32) ?hr ?_; (case hd => rfl); (case hg => rfl); (case hr => first | (go_simp; done) | (go_simp; rfl)); intro gb206 hg w10 hbox hb; have n0_ := Aside0.mk (Kd.R_below (by (with_reducible repeat (first | apply Kd.R_alloc | apply Kd.R_drewN | apply Kd.R_drew)); exact HO_3.out) hb); have n1_ := Aside0.mk (below_step (by repeat (first | (with_reducible first | exact HB.out | apply below_alloc | apply pw_below_drewN | apply below_drew1) | exact HB.out)) hb); have n2_ := Aside0.mk (hbox); have n3_ := Aside0.mk ((by rw [hg]; exact (below_size (by repeat (first | (with_reducible first | exact HB.out | apply below_alloc | apply pw_below_drewN | apply below_drew1) | exact HB.out))) : W1.heap.size ≤ gb206)); have n4_ := Aside0.mk ((by rw [hg]; exact (below_size (by repeat (first | (with_reducible first | exact HB.out | apply below_alloc | apply pw_below_drewN | apply below_drew1) | exact HB.out))) : W1.heap.size ≤ gb206)); clear HO_3; clear HB; have HO_3 := n0_; have HB := n1_; have BK206 := n2_; have GW206 := n3_; have GE206 := n4_; clear n0_ n1_ n2_ n3_ n4_; clear hb hbox hg; have hcz11_0 : w10.cell? ⟨gb206, 0, none⟩ = some (.int .i64 0) := (blk_cell BK206.out 0).trans rfl; have hcz11_1 : w10.cell? ⟨gb206, 1, none⟩ = some (.int .i64 0) := (blk_cell BK206.out 1).trans rfl; have hcz11_2 : w10.cell? ⟨gb206, 2, none⟩ = some (.int .i64 0) := (blk_cell BK206.out 2).trans rfl; have hcz11_3 : w10.cell? ⟨gb206, 3, none⟩ = some (.int .i64 0) := (blk_cell BK206.out 3).trans rfl; have hcz11_4 : w10.cell? ⟨gb206, 4, none⟩ = some (.int .i64 0) := (blk_cell BK206.out 4).trans rfl; have hcz11_5 : w10.cell? ⟨gb206, 5, none⟩ = some (.int .i64 0) := (blk_cell BK206.out 5).trans rfl; have hcz11_6 : w10.cell? ⟨gb206, 6, none⟩ = some (.int .i64 0) := (blk_cell BK206.out 6).trans rfl; have hcz11_7 : w10.cell? ⟨gb206, 7, none⟩ = some (.int .i64 0) := (blk_cell BK206.out 7).trans rfl; have hcz11_8 : w10.cell? ⟨gb206, 8, none⟩ = some (.int .i64 0) := (blk_cell BK206.out 8).trans rfl; have hcz11_9 : w10.cell? ⟨gb206, 9, none⟩ = some (.int .i64 0) := (blk_cell BK206.out 9).trans rfl; have hcz11_10 : w10.cell? ⟨gb206, 10, none⟩ = some (.int .i64 0) := (blk_cell BK206.out 10).trans rfl; have hcz11_11 : w10.cell? ⟨gb206, 11, none⟩ = some (.slice none 0 0) := (blk_cell BK206.out 11).trans rfl; have hfz11_0 := blk_frozen BK206.out 0; have hfz11_1 := blk_frozen BK206.out 1; have hfz11_2 := blk_frozen BK206.out 2; have hfz11_3 := blk_frozen BK206.out 3; have hfz11_4 := blk_frozen BK206.out 4; have hfz11_5 := blk_frozen BK206.out 5; have hfz11_6 := blk_frozen BK206.out 6; have hfz11_7 := blk_frozen BK206.out 7; have hfz11_8 := blk_frozen BK206.out 8; have hfz11_9 := blk_frozen BK206.out 9; have hfz11_10 := blk_frozen BK206.out 10; have hfz11_11 := blk_frozen BK206.out 11))
              go_roundg k1
              case measure => have := HK1.out; omega
              case rel => exact ⟨(x3_1), (wrap64 (x8_1 + 1)), (by first | rfl | (simp; done) | (simp [*]; done)), H', ⟨by have := HK1.out; omega⟩, ⟨by (with_reducible repeat (first | apply Kd.R_alloc | apply Kd.R_drewN | apply Kd.R_drew)); exact Kd.R_mono (Kd.R_fa gb206 11 (Kd.R_fa gb206 10 (Kd.R_fa gb206 9 (Kd.R_fa gb206 8 (Kd.R_fa gb206 7 (Kd.R_fa gb206 6 (Kd.R_fa gb206 5 (Kd.R_fa gb206 4 (Kd.R_fa gb206 3 (Kd.R_fa gb206 2 (Kd.R_fa gb206 1 (Kd.R_fa gb206 0 (Kd.R_types HO_3.out BK206.out (by decide)) (.int .i64 ((rd_T32 l0 x8_1).f0))) (.int .i64 ((rd_T32 l0 x8_1).f1))) (.int .i64 ((rd_T32 l0 x8_1).f2))) (.int .i64 ((rd_T32 l0 x8_1).f3))) (.int .i64 ((rd_T32 l0 x8_1).f4))) (.int .i64 ((rd_T32 l0 x8_1).f5))) (.int .i64 ((rd_T32 l0 x8_1).f6))) (.int .i64 ((rd_T32 l0 x8_1).f7))) (.int .i64 ((rd_T32 l0 x8_1).f8))) (.int .i64 ((rd_T32 l0 x8_1).f9))) (.int .i64 ((rd_T32 l0 x8_1).f10))) (.slice A205_11 ((rd_T32 l0 x8_1).f11).length c205_11)) (fun _ hk => hk.1)⟩, ⟨by repeat (first | (with_reducible first | exact HB.out | apply below_alloc | apply pw_below_drewN | apply below_drew1 | refine below_set ?_ GE206.out) | exact HB.out)⟩⟩
          · rw [if_neg c4] at H
            exact absurd H (by simp)
        · rw [if_neg c3] at H
          exact absurd H (by simp)
      · rw [if_neg c2] at H
        have c2b0 : decide (x8_1 < (l0.length : Int)) = false := decide_eq_false c2
        clear c2
        replace H := Option.bind_eq_some_iff.mp H
        obtain ⟨t210, A120, H⟩ := H
        replace H : ((slices_Clip_int.f t210).bind fun t211 => (some t211)) = some r := H
        have A12 := Aside0.mk A120
        clear A120
        replace H := Option.bind_eq_some_iff.mp H
        obtain ⟨t211, A130, H⟩ := H
        replace H : (some t211) = some r := H
        have A13 := Aside0.mk A130
        clear A130
        obtain rfl := Option.some.inj H
        obtain ⟨Ao14, co14, eo14⟩ := Kd.R_slice HO_3.out
        subst eo14
        go_wp2_with (first | ((with_reducible refine gate_callee (f := 33) rfl ?_); refine goesL_ (some 23) rfl rfl Try.func33 (by kernel_rfl) rfl #[.slice Ao14 x3_1.length co14, .func (.func 34) #[] #[.pointer (some ⟨w.heap.size, 0, none⟩)]] rfl (by (try simp only [List.map_toArray, List.map_cons, List.map_nil]); first | done | rfl | (simp only [List.length_drop, List.length_take]; rfl)) ?_; (with_reducible refine (slices_SortStableFunc_int__order_Order_1.calls k1 (fun k_ => some k_ = (.slice Ao14 x3_1.length co14 : Value).ownBlock) (.slice Ao14 x3_1.length co14) x3_1  t210 W1 _ HCAP.out ?side1 ?side2 A12.out).mono ?_); (case side1 => repeat (first | (with_reducible first | exact HB.out | apply below_alloc | apply pw_below_drewN | apply below_drew1) | exact HB.out)); (case side2 => exact Kd.R_tight rfl HO_3.out); rintro e w15 ⟨rfl, hy0, hb, hkp⟩; refine ⟨_, rfl, ?_⟩; have n0_ := Aside0.mk (Kd.R_reok rfl hy0 (fun k_ e_ => HO_3.out.1 k_ e_)); have n1_ := Aside0.mk (hb); clear HO_3; clear HB; have HO_3 := n0_; have HB := n1_; clear n0_ n1_; (try clear hb); (try clear hkp); (try clear hy0)) | ((with_reducible refine gate_callee (f := 37) rfl ?_); refine goesL_ (some 25) rfl rfl Try.func37 (by kernel_rfl) rfl #[.slice Ao14 t210.length co14] rfl (by (try simp only [List.map_toArray, List.map_cons, List.map_nil]); first | done | (rw [show t210.length = x3_1.length from (Kd.R_reads' HO_3.out).1.symm] <;> rfl) | rfl | (simp only [List.length_drop, List.length_take]; rfl)) ?_; (with_reducible refine (slices_Clip_int.calls (fun k_ => some k_ = (.slice Ao14 x3_1.length co14 : Value).ownBlock) _ _ t210 t211 _ ?side1 A13.out).mono ?_); (case side1 => rw [show t210.length = x3_1.length from (Kd.R_reads' HO_3.out).1.symm]; exact Kd.R_V (Kd.R_tight rfl (HO_3.out))); rintro e w16 ⟨v212, rfl, ho0, hb⟩; refine ⟨_, rfl, ?_⟩; have n0_ := Aside0.mk (Kd.R_below (by (with_reducible repeat (first | apply Kd.R_alloc | apply Kd.R_drewN | apply Kd.R_drew)); exact HO_3.out) hb); have n1_ := Aside0.mk (Kd.V_lower (Kd.V_mono (ok' := fun k_ => (W1.heap.size ≤ k_)) ho0 (fun k_ hk_ => Or.elim hk_ (fun hs_ => ((HO_3.out).1 k_ hs_.symm)) (fun hn_ => (Nat.le_trans (below_size (by repeat (first | (with_reducible first | exact HB.out | apply below_alloc | apply pw_below_drewN | apply below_drew1) | exact HB.out))) hn_)))) (below_size (by repeat (first | (with_reducible first | exact HB.out | apply below_alloc | apply pw_below_drewN | apply below_drew1) | exact HB.out)))); have n2_ := Aside0.mk (below_step (by repeat (first | (with_reducible first | exact HB.out | apply below_alloc | apply pw_below_drewN | apply below_drew1) | exact HB.out)) hb); clear HO_3; clear HB; have HO_3 := n0_; have HO213 := n1_; have HB := n2_; clear n0_ n1_ n2_; (try clear hb); (try clear hb2); (try clear hk); (try clear hi); (try clear ho0)))
        go_ret
        exact ⟨_, by first | rfl | (simp [errW_none, errW_some] <;> rfl) | (simp [*, errW_none, errW_some] <;> rfl), Kd.V_mono (Kd.V_lower HO213.out HS1.out.1) (fun k_ hk => Nat.le_trans HS1.out.1 hk), HS1.out.2.trans (HB.out.mono HS1.out.1)⟩
end Go.Proofs.Ytkhfgflcanmefaa.PAll
end
section
namespace Go.Proofs.Ytkhfgflcanmefaa.PAll
open Go.RowKit Go.Proofs.YtkhfgflcanmefaaW.PrintWords Go.Proofs.YtkhfgflcanmefaaW.PrintLast Go.Proofs.YtkhfgflcanmefaaW.PrintMore
attribute [local go_sem] max2_int min2_int max_two min_two max_three min_three max_four min_four   -- for this text's walks alone
set_option linter.unusedVariables false
set_option linter.unusedSimpArgs false

def prebendref01_Ints.l0 : Nat → List Int → List Int → Int → Option (Bool)
  | 0, _, _, _ => none
  | k + 1, x0, x1, x5 => if x5 < (x0.length : Int) then (if 0 ≤ x5 then (if x5 < (x1.length : Int) then (if (rd x0 x5) = (rd x1 x5) then (prebendref01_Ints.l0 k x0 x1 (wrap64 (x5 + 1))) else (some false)) else (none)) else (none)) else (some true)
def prebendref01_Ints.f (k : Nat) (l0 : List Int) (l1 : List Int) : Option (Bool) := if (l0.length : Int) = (l1.length : Int) then (prebendref01_Ints.l0 k l0 l1 0) else (some false)
theorem prebendref01_Ints.mono_l : ∀ k, (∀ y0 y1 y2, LeO (prebendref01_Ints.l0 k y0 y1 y2) (prebendref01_Ints.l0 (k + 1) y0 y1 y2))
  | 0 => fun _ _ _ r h => by simp [prebendref01_Ints.l0] at h
  | k + 1 => by
    have ih0 := prebendref01_Ints.mono_l k
    · intro y0 y1 y2
      unfold prebendref01_Ints.l0
      repeat' first
      | (with_reducible exact ih0 _ _ _)
      | (with_reducible exact LeO.refl _)
      | (with_reducible exact LeO.none _)
      | (with_reducible refine LeO.ite ?_ ?_)
      | (with_reducible refine LeO.bind ?_ (fun _ => ?_))
      | exact ih0 _ _ _
      | exact LeO.none _
      | refine LeO.ite ?_ ?_
      | refine LeO.bind ?_ (fun _ => ?_)
theorem prebendref01_Ints.mono : ∀ a0 a1 k, LeO (prebendref01_Ints.f k a0 a1) (prebendref01_Ints.f (k + 1) a0 a1) := by
  intro a0 a1 k
  have ih0 := prebendref01_Ints.mono_l k
  unfold prebendref01_Ints.f
  repeat' first
      | (with_reducible exact ih0 _ _ _)
      | (with_reducible exact LeO.refl _)
      | (with_reducible exact LeO.none _)
      | (with_reducible refine LeO.ite ?_ ?_)
      | (with_reducible refine LeO.bind ?_ (fun _ => ?_))
      | exact ih0 _ _ _
      | exact LeO.none _
      | refine LeO.ite ?_ ?_
      | refine LeO.bind ?_ (fun _ => ?_)
set_option maxHeartbeats 8000000 in
set_option maxRecDepth 100000 in
theorem prebendref01_Ints.calls (k : Nat) (A0 : Option Addr) (c0 : Nat) (l0 : List Int) (A1 : Option Addr) (c1 : Nat) (l1 : List Int) (r : Bool) (w : World) (hr0 : Kd.C (Kd.int .i64) w A0 l0.length l0) (hc0 : l0.length ≤ c0) (hr1 : Kd.C (Kd.int .i64) w A1 l1.length l1) (hc1 : l1.length ≤ c1) (h : prebendref01_Ints.f k l0 l1 = some r) :
    Calls Try.prog 13 #[.slice A0 l0.length c0, .slice A1 l1.length c1] w fun e w' => e = .returned (.bool r) ∧ Drawn0 w w' := by
  have HR0 := Aside0.mk hr0
  have HC0 := Aside0.mk hc0
  clear hr0 hc0
  have HR1 := Aside0.mk hr1
  have HC1 := Aside0.mk hc1
  clear hr1 hc1
  have H : (if (l0.length : Int) = (l1.length : Int) then (prebendref01_Ints.l0 k l0 l1 0) else (some false)) = some r := h
  clear h
  by_cases c3 : (l0.length : Int) = (l1.length : Int)
  · rw [if_pos c3] at H
    have c3b0 : ((l0.length : Int) == (l1.length : Int)) = true := beq_iff_eq.mpr c3
    have c3b1 : ((l0.length : Int) != (l1.length : Int)) = false := bne_eq_false_iff_eq.mpr c3
    have c3b2 : (l0.length == l1.length) = true := by first | simpa using c3 | (simp at c3 ⊢; omega)
    clear c3
    have H' := Aside0.mk H
    clear H
    go_enter Try.func13, Try.ntmps13
    go_wp2
    repeat (go_quiet (fail); try go_wp2)
    go_loopg [5] k (fun kq v5 w' => ∃ (x5_1 : Int), v5 = .int .i64 x5_1 ∧ Aside0 (prebendref01_Ints.l0 kq l0 l1 x5_1 = some r) ∧ Aside0 (kq ≤ k) ∧ Drawn0 w w')
    case atStart => exact ⟨(0), (by first | rfl | (simp; done) | (simp [*]; done)), H', ⟨Nat.le_refl _⟩, by repeat (first | exact Drawn0.refl _ | apply Drawn0.step)⟩
    case round =>
      clear H'
      try clear c1
      try clear p2
      try clear c3
      try clear c3b0
      try clear c3b1
      try clear c3b2
      obtain ⟨x5_1, rfl, HA, HK1, ⟨m1, rfl⟩⟩ := hrel
      cases gk with
      | zero => exact absurd HA.out (by simp [prebendref01_Ints.l0])
      | succ k1 =>
        have H := HA.out
        clear HA
        simp only [prebendref01_Ints.l0] at H
        by_cases c4 : x5_1 < (l0.length : Int)
        · rw [if_pos c4] at H
          have c4b0 : decide (x5_1 < (l0.length : Int)) = true := decide_eq_true c4
          clear c4
          by_cases c5 : 0 ≤ x5_1
          · rw [if_pos c5] at H
            have c5b0 : decide (0 ≤ x5_1) = true := decide_eq_true c5
            clear c5
            by_cases c6 : x5_1 < (l1.length : Int)
            · rw [if_pos c6] at H
              have c6b0 : decide (x5_1 < (l1.length : Int)) = true := decide_eq_true c6
              clear c6
              by_cases c7 : (rd l0 x5_1) = (rd l1 x5_1)
              · rw [if_pos c7] at H
                have c7b0 : ((rd l0 x5_1) == (rd l1 x5_1)) = true := beq_iff_eq.mpr c7
                have c7b1 : ((rd l0 x5_1) != (rd l1 x5_1)) = false := bne_eq_false_iff_eq.mpr c7
                clear c7
                have H' := Aside0.mk H
                clear H
                have p226 : 0 ≤ (x5_1 : Int) := of_decide_eq_true (by first | (with_reducible assumption) | assumption)
                have q226 : x5_1 < (l0.length : Int) := of_decide_eq_true (by first | (with_reducible assumption) | assumption)
                obtain ⟨ad226, e226, hx226_0⟩ := Kd.at_int HR0.out x5_1 p226 q226
                cases e226
                replace p226 := eq_true p226
                replace q226 := eq_true q226
                have p227 : 0 ≤ (x5_1 : Int) := of_decide_eq_true (by first | (with_reducible assumption) | assumption)
                have q227 : x5_1 < (l1.length : Int) := of_decide_eq_true (by first | (with_reducible assumption) | assumption)
                obtain ⟨ad227, e227, hx227_0⟩ := Kd.at_int HR1.out x5_1 p227 q227
                cases e227
                replace p227 := eq_true p227
                replace q227 := eq_true q227
                go_wp2
                repeat (go_quiet (fail); try go_wp2)
                go_roundg k1
                case measure => have := HK1.out; omega
                case rel => exact ⟨(wrap64 (x5_1 + 1)), (by first | rfl | (simp; done) | (simp [*]; done)), H', ⟨by have := HK1.out; omega⟩, by repeat (first | exact Drawn0.refl _ | apply Drawn0.step)⟩
              · rw [if_neg c7] at H
                have c7b0 : ((rd l0 x5_1) == (rd l1 x5_1)) = false := beq_eq_false_iff_ne.mpr c7
                have c7b1 : ((rd l0 x5_1) != (rd l1 x5_1)) = true := bne_iff_ne.mpr c7
                obtain rfl := Option.some.inj H
                have p226 : 0 ≤ (x5_1 : Int) := of_decide_eq_true (by first | (with_reducible assumption) | assumption)
                have q226 : x5_1 < (l0.length : Int) := of_decide_eq_true (by first | (with_reducible assumption) | assumption)
                obtain ⟨ad226, e226, hx226_0⟩ := Kd.at_int HR0.out x5_1 p226 q226
                cases e226
                replace p226 := eq_true p226
                replace q226 := eq_true q226
                have p227 : 0 ≤ (x5_1 : Int) := of_decide_eq_true (by first | (with_reducible assumption) | assumption)
                have q227 : x5_1 < (l1.length : Int) := of_decide_eq_true (by first | (with_reducible assumption) | assumption)
                obtain ⟨ad227, e227, hx227_0⟩ := Kd.at_int HR1.out x5_1 p227 q227
                cases e227
                replace p227 := eq_true p227
                replace q227 := eq_true q227
                go_wp2
                repeat (go_quiet (fail); try go_wp2)
                go_ret
                exact ⟨by first | rfl | (simp; done) | (simp [*]; done), by repeat (first | exact Drawn0.refl _ | apply Drawn0.step)⟩
            · rw [if_neg c6] at H
              exact absurd H (by simp)
          · rw [if_neg c5] at H
            exact absurd H (by simp)
        · rw [if_neg c4] at H
          have c4b0 : decide (x5_1 < (l0.length : Int)) = false := decide_eq_false c4
          clear c4
          obtain rfl := Option.some.inj H
          go_wp2
          repeat (go_quiet (fail); try go_wp2)
          go_ret
          exact ⟨by first | rfl | (simp; done) | (simp [*]; done), by repeat (first | exact Drawn0.refl _ | apply Drawn0.step)⟩
  · rw [if_neg c3] at H
    have c3b0 : ((l0.length : Int) == (l1.length : Int)) = false := beq_eq_false_iff_ne.mpr c3
    have c3b1 : ((l0.length : Int) != (l1.length : Int)) = true := bne_iff_ne.mpr c3
    have c3b2 : (l0.length == l1.length) = false := by first | simpa using c3 | (simp at c3 ⊢; omega)
    obtain rfl := Option.some.inj H
    go_enter Try.func13, Try.ntmps13
    go_wp2
    repeat (go_quiet (fail); try go_wp2)
    go_ret
    exact ⟨by first | rfl | (simp; done) | (simp [*]; done), by repeat (first | exact Drawn0.refl _ | apply Drawn0.step)⟩

end Go.Proofs.Ytkhfgflcanmefaa.PAll
end
section
namespace Go.Proofs.Ytkhfgflcanmefaa.PAll
open Go.RowKit Go.Proofs.YtkhfgflcanmefaaW.PrintWords Go.Proofs.YtkhfgflcanmefaaW.PrintLast Go.Proofs.YtkhfgflcanmefaaW.PrintMore
attribute [local go_sem] max2_int min2_int max_two min_two max_three min_three max_four min_four   -- for this text's walks alone
set_option linter.unusedVariables false
set_option linter.unusedSimpArgs false

theorem eqA29 (d : Nat) (w : World) (x0 y0 : Int) (x1 y1 : Int) :
    (Op.equalIn (d + 2) 29 (.agg #[.int .i64 x0, .int .i64 x1]) (.agg #[.int .i64 y0, .int .i64 y1])).run Try.prog w = .ok (x0 == y0 && (x1 == y1)) w := by
  refine eqA_of Try.underlying29 (by kernel_rfl) ?_
  refine eqf_cons (by rfl) (by go_simp; rfl) (by go_simp; rfl) (by go_simp) ?_
  exact eqf_last (by rfl) (by go_simp; rfl) (by go_simp; rfl) (by go_simp)
end Go.Proofs.Ytkhfgflcanmefaa.PAll
end
section
namespace Go.Proofs.Ytkhfgflcanmefaa.PAll
open Go.RowKit Go.Proofs.YtkhfgflcanmefaaW.PrintWords Go.Proofs.YtkhfgflcanmefaaW.PrintLast Go.Proofs.YtkhfgflcanmefaaW.PrintMore
attribute [local go_sem] max2_int min2_int max_two min_two max_three min_three max_four min_four   -- for this text's walks alone
set_option linter.unusedVariables false
set_option linter.unusedSimpArgs false

def slices_Clip_Ask.f (l0 : List (S29)) : Option (List (S29)) := some l0
theorem slices_Clip_Ask.cut (A : Option Addr) (n c : Nat) (hm : n ≤ c) : ∀ W : World, (Instr.slice 26 (.slice A n c) none (some (.int .i64 (n : Int))) (some (.int .i64 (n : Int)))).run Try.prog W = .ok (.slice A n n) W := by
  intro W
  obtain ⟨i0, hi, _, hsz, _⟩ := info_parts info29
  have ha : (A.map fun x => x.add 0) = A := by cases A <;> simp [Addr.add]
  have hn : (n : Int) ≤ (c : Int) := by omega
  simp [Instr.slice, run_underlying Try.underlying26, Instr.sliceBounds, run_sliceBound, sizeOf, typeInfo, hi, Result.andThen, ha, hn]
set_option maxHeartbeats 8000000 in
set_option maxRecDepth 100000 in
theorem slices_Clip_Ask.calls (P0_ : Nat → Prop) (A0 : Option Addr) (c0 : Nat) (l0 : List (S29)) (r : List (S29)) (w : World) (hs0 : Kd.V k29 29 w w.heap.size (fun k_ => P0_ k_) (.slice A0 l0.length c0) l0) (h : slices_Clip_Ask.f l0 = some r) :
    Calls Try.prog 32 #[.slice A0 l0.length c0] w fun e w' => ∃ v0_ : Value, e = .returned (v0_) ∧ Kd.V k29 29 w' w.heap.size (fun k_ => (P0_ k_ ∨ w.heap.size ≤ k_)) v0_ r ∧ Below w.heap.size w w' := by
  obtain rfl := Option.some.inj h
  have HO0 := Aside0.mk (show Kd.V k29 29 w w.heap.size (fun k_ => (P0_ k_ ∨ w.heap.size ≤ k_)) (.slice A0 l0.length l0.length) l0 from Kd.V_mk (Nat.le_refl _) (Kd.F_mono (Kd.V_F hs0) (fun k_ hk => .inl hk)))
  have hc := (Kd.V_reads' hs0).2.1
  have hcut := slices_Clip_Ask.cut A0 l0.length c0 hc
  clear hs0 hc
  go_enter Try.func32, Try.ntmps32
  go_wp2
  go_ret
  exact ⟨_, rfl, HO0.out, Below.refl _ _⟩
end Go.Proofs.Ytkhfgflcanmefaa.PAll
end
section
namespace Go.Proofs.Ytkhfgflcanmefaa.PAll
open Go.RowKit Go.Proofs.YtkhfgflcanmefaaW.PrintWords Go.Proofs.YtkhfgflcanmefaaW.PrintLast Go.Proofs.YtkhfgflcanmefaaW.PrintMore
attribute [local go_sem] max2_int min2_int max_two min_two max_three min_three max_four min_four   -- for this text's walks alone
set_option linter.unusedVariables false
set_option linter.unusedSimpArgs false

def order_Asks.l0 : Nat → List (S32) → List (S29) → List Int → Int → Int → Option ((List (S29)))
  | 0, _, _, _, _, _ => none
  | k + 1, x0, x3, x7, x8, x9 => if x9 < x8 then (if 0 ≤ x9 then (if x9 < (x7.length : Int) then (if 0 ≤ (rd x7 x9) then (if (rd x7 x9) < (x0.length : Int) then (if x3.length < 8796093022208 then (order_Asks.l0 k x0 (x3 ++ [(⟨(rd_T32 x0 (rd x7 x9)).f2, (rd_T32 x0 (rd x7 x9)).f3⟩ : S29)]) x7 x8 (wrap64 (x9 + 1))) else (none)) else (none)) else (none)) else (none)) else (none)) else ((slices_Clip_Ask.f x3).bind fun t223 => (some t223))
def order_Asks.f (k : Nat) (l0 : List (S32)) : Option ((List (S29))) := (order_Order.f k l0).bind fun t214 => (order_Asks.l0 k l0 ([] : List (S29)) t214 (t214.length : Int) 0)
theorem order_Asks.mono_l : ∀ k, (∀ y0 y1 y2 y3 y4, LeO (order_Asks.l0 k y0 y1 y2 y3 y4) (order_Asks.l0 (k + 1) y0 y1 y2 y3 y4))
  | 0 => fun _ _ _ _ _ r h => by simp [order_Asks.l0] at h
  | k + 1 => by
    have ih0 := order_Asks.mono_l k
    · intro y0 y1 y2 y3 y4
      unfold order_Asks.l0
      repeat' first
      | (with_reducible exact ih0 _ _ _ _ _)
      | (with_reducible exact order_Order.mono _ _)
      | (with_reducible exact LeO.refl _)
      | (with_reducible exact LeO.none _)
      | (with_reducible refine LeO.ite ?_ ?_)
      | (with_reducible refine LeO.bind ?_ (fun _ => ?_))
      | exact ih0 _ _ _ _ _
      | exact order_Order.mono _ _
      | exact LeO.none _
      | refine LeO.ite ?_ ?_
      | refine LeO.bind ?_ (fun _ => ?_)
theorem order_Asks.mono : ∀ a0 k, LeO (order_Asks.f k a0) (order_Asks.f (k + 1) a0) := by
  intro a0 k
  have ih0 := order_Asks.mono_l k
  unfold order_Asks.f
  repeat' first
      | (with_reducible exact ih0 _ _ _ _ _)
      | (with_reducible exact order_Order.mono _ _)
      | (with_reducible exact LeO.refl _)
      | (with_reducible exact LeO.none _)
      | (with_reducible refine LeO.ite ?_ ?_)
      | (with_reducible refine LeO.bind ?_ (fun _ => ?_))
      | exact ih0 _ _ _ _ _
      | exact order_Order.mono _ _
      | exact LeO.none _
      | refine LeO.ite ?_ ?_
      | refine LeO.bind ?_ (fun _ => ?_)
def order_Asks.T5 : Bool × List (List Nat × List Nat) := (true, [([], []), ([], []), ([], []), ([1, 2], [1, 2]), ([3], [3]), ([4], [4]), ([], []), ([], []), ([6, 7], [6, 7]), ([8], [8]), ([9], [9]), ([5, 10], [5, 10]), ([11], [11]), ([0, 12], [0, 12]), ([13, 13, 0, 1, 2, 3, 4, 5, 6, 7, 8, 9, 10, 11, 12, 13], [0, 13])])
def order_Asks.B5 : List Nat := [0, 0, 0, 6, 14, 30, 0, 0, 192, 448, 960, 2046, 4094, 8191, 16383]
theorem order_Asks.tab5 : rtab .any (opsOf Try.f11 5) = order_Asks.T5 := by kernel_rfl
theorem order_Asks.bits5 : waitsOk order_Asks.T5.2 order_Asks.B5 = true := by kernel_rfl
set_option maxHeartbeats 8000000 in
set_option maxRecDepth 100000 in
theorem order_Asks.calls (k : Nat) (A0 : Option Addr) (c0 : Nat) (l0 : List (S32)) (r : List (S29)) (w : World) (hr0 : Kd.C k32 w A0 l0.length l0) (hc0 : l0.length ≤ c0) (h : order_Asks.f k l0 = some r) :
    Calls Try.prog 11 #[.slice A0 l0.length c0] w fun e w' => ∃ v0_ : Value, e = .returned (v0_) ∧ Kd.V k29 29 w' w.heap.size (fun k_ => (w.heap.size ≤ k_)) v0_ r ∧ Below w.heap.size w w' := by
  have hu29 := Try.underlying29
  have HR0 := Aside0.mk hr0
  have HC0 := Aside0.mk hc0
  clear hr0 hc0
  have HB := Aside0.mk (Below.refl w.heap.size w)
  have H : ((order_Order.f k l0).bind fun t214 => (order_Asks.l0 k l0 ([] : List (S29)) t214 (t214.length : Int) 0)) = some r := h
  clear h
  replace H := Option.bind_eq_some_iff.mp H
  obtain ⟨t214, A20, H⟩ := H
  replace H : (order_Asks.l0 k l0 ([] : List (S29)) t214 (t214.length : Int) 0) = some r := H
  have A2 := Aside0.mk A20
  clear A20
  have H' := Aside0.mk H
  clear H
  go_enter Try.func11, Try.ntmps11
  go_wp2_with (first | ((with_reducible refine gate_callee (f := 14) rfl ?_); refine goesL_ (some 7) rfl rfl Try.func14 (by kernel_rfl) rfl #[.slice A0 l0.length c0] rfl (by (try simp only [List.map_toArray, List.map_cons, List.map_nil]); first | done | rfl | (simp only [List.length_drop, List.length_take]; rfl)) ?_; (with_reducible refine (order_Order.calls k _ _ l0 t214 _ ?side1 ?side2 A2.out).mono ?_); (case side1 => repeat (first | exact HR0.out | (with_reducible refine Kd.C_alloc ?_ _) | (with_reducible refine Kd.C_drewN ?_ _) | (with_reducible refine Kd.C_drew ?_))); (case side2 => exact HC0.out); rintro e w3 ⟨v215, rfl, ho0, hb⟩; refine ⟨_, rfl, ?_⟩; have n0_ := Aside0.mk (Kd.V_lower (Kd.V_mono (ok' := fun k_ => (w.heap.size ≤ k_)) ho0 (fun k_ hk_ => (Nat.le_trans (below_size (by repeat (first | (with_reducible first | exact HB.out | apply below_alloc | apply pw_below_drewN | apply below_drew1) | exact HB.out))) hk_))) (below_size (by repeat (first | (with_reducible first | exact HB.out | apply below_alloc | apply pw_below_drewN | apply below_drew1) | exact HB.out)))); have n1_ := Aside0.mk (below_step (by repeat (first | (with_reducible first | exact HB.out | apply below_alloc | apply pw_below_drewN | apply below_drew1) | exact HB.out)) hb); clear HB; have HO216 := n0_; have HB := n1_; clear n0_ n1_; (try clear hb); (try clear hb2); (try clear hk); (try clear hi); (try clear ho0); obtain ⟨Ao4, co4, eo4⟩ := Kd.V_slice HO216.out; subst eo4))
  (try simp only [Act.put, List.setIfInBounds_toArray, List.set_cons_zero, List.set_cons_succ])
  go_loopg [3, 9] k (fun kq v3 v9 w' => ∃ (x3_1 : List (S29)) (x9_1 : Int), v9 = .int .i64 x9_1 ∧ Aside0 (order_Asks.l0 kq l0 x3_1 t214 (t214.length : Int) x9_1 = some r) ∧ Aside0 (kq ≤ k) ∧ Aside0 (Kd.R k29 29 w' w.heap.size (fun k_ => (w.heap.size ≤ k_)) v3 x3_1) ∧ Aside0 (Kd.V (Kd.int .i64) 3 w' w.heap.size (fun k_ => (w.heap.size ≤ k_) ∧ some k_ ≠ (v3 : Value).ownBlock) (.slice Ao4 t214.length co4) t214) ∧ Aside0 (Below w.heap.size w w'))
  case atStart => exact ⟨(([] : List (S29))), (0), (by first | rfl | (simp; done) | (simp [*]; done)), H', ⟨Nat.le_refl _⟩, ⟨by first | exact Kd.R_nil _ _ _ _ _ | exact Kd.N_nil _ _ _ _ _ | exact Kd.V_nil _ _ _ _ _ | exact Kd.Q_nil _ _ _ _ _ | exact Kd.S_nil _ _ _ _ _⟩, ⟨by (with_reducible repeat (first | apply Kd.V_alloc | apply Kd.V_drewN | apply Kd.V_drew)); exact Kd.V_mono HO216.out (fun _ hk => ⟨hk, (by simp [Value.ownBlock])⟩)⟩, ⟨by repeat (first | (with_reducible first | exact HB.out | apply below_alloc | apply pw_below_drewN | apply below_drew1) | exact HB.out)⟩⟩
  case round =>
    clear H'
    try clear c1
    try clear p2
    obtain ⟨x3_1, x9_1, rfl, HA, HK1, HO_3, HO_7, HB⟩ := hrel
    cases gk with
    | zero => exact absurd HA.out (by simp [order_Asks.l0])
    | succ k1 =>
      have H := HA.out
      clear HA
      simp only [order_Asks.l0] at H
      by_cases c5 : x9_1 < (t214.length : Int)
      · rw [if_pos c5] at H
        have c5b0 : decide (x9_1 < (t214.length : Int)) = true := decide_eq_true c5
        clear c5
        by_cases c6 : 0 ≤ x9_1
        · rw [if_pos c6] at H
          have c6b0 : decide (0 ≤ x9_1) = true := decide_eq_true c6
          clear c6
          by_cases c7 : x9_1 < (t214.length : Int)
          · rw [if_pos c7] at H
            have c7b0 : decide (x9_1 < (t214.length : Int)) = true := decide_eq_true c7
            clear c7
            by_cases c8 : 0 ≤ (rd t214 x9_1)
            · rw [if_pos c8] at H
              have c8b0 : decide (0 ≤ (rd t214 x9_1)) = true := decide_eq_true c8
              clear c8
              by_cases c9 : (rd t214 x9_1) < (l0.length : Int)
              · rw [if_pos c9] at H
                have c9b0 : decide ((rd t214 x9_1) < (l0.length : Int)) = true := decide_eq_true c9
                clear c9
                by_cases c10 : x3_1.length < 8796093022208
                · rw [if_pos c10] at H
                  have LMc10 := Aside0.mk c10
                  clear c10
                  obtain ⟨y220, hy220⟩ : ∃ y_ : List (S29), y_ = (x3_1 ++ [(⟨(rd_T32 l0 (rd t214 x9_1)).f2, (rd_T32 l0 (rd t214 x9_1)).f3⟩ : S29)]) := ⟨_, rfl⟩
                  replace H : (order_Asks.l0 k1 l0 y220 t214 (t214.length : Int) (wrap64 (x9_1 + 1))) = some r := by first | (rw [hy220]; with_reducible exact H) | (have H2_ := (Option.bind_some _ _).symm.trans H; rw [hy220]; with_reducible exact H2_) | (have H2_ := (Option.bind_some _ _).symm.trans H; with_reducible exact H2_) | with_reducible exact H | (rw [hy220]; exact H) | exact H
                  have Ny220 := Aside0.mk hy220
                  clear hy220
                  have H' := Aside0.mk H
                  clear H
                  have p217 : 0 ≤ (x9_1 : Int) := of_decide_eq_true (by first | (with_reducible assumption) | assumption)
                  have q217 : x9_1 < (t214.length : Int) := of_decide_eq_true (by first | (with_reducible assumption) | assumption)
                  obtain ⟨ad217, e217, hx217_0⟩ := Kd.at_int (Kd.V_reads' HO_7.out).2.2 x9_1 p217 q217
                  cases e217
                  replace p217 := eq_true p217
                  replace q217 := eq_true q217
                  try go_wp2
                  have n0_ := Aside0.mk (Kd.R_drew HO_3.out)
                  have n1_ := Aside0.mk (Kd.V_drew HO_7.out)
                  have n2_ := Aside0.mk (below_drew1 HB.out)
                  clear HO_3
                  clear HO_7
                  clear HB
                  have HO_3 := n0_
                  have HO_7 := n1_
                  have HB := n2_
                  clear n0_ n1_ n2_
                  have p218 : 0 ≤ ((rd t214 x9_1) : Int) := of_decide_eq_true (by first | (with_reducible assumption) | assumption)
                  have q218 : (rd t214 x9_1) < (l0.length : Int) := of_decide_eq_true (by first | (with_reducible assumption) | assumption)
                  obtain ⟨ad218, A218_11, c218_11, e218, hx218_0, hx218_1, hx218_2, hx218_3, hx218_4, hx218_5, hx218_6, hx218_7, hx218_8, hx218_9, hx218_10, hx218_11, hl218_11, hi218_11⟩ := at_T32 HR0.out (rd t214 x9_1) p218 q218
                  have hw218_11 := hx218_11
                  have hw218_10 := hx218_10
                  have hw218_9 := hx218_9
                  have hw218_8 := hx218_8
                  have hw218_7 := hx218_7
                  have hw218_6 := hx218_6
                  have hw218_5 := hx218_5
                  have hw218_4 := hx218_4
                  have hw218_3 := hx218_3
                  have hw218_2 := hx218_2
                  have hw218_1 := hx218_1
                  have hw218_0 := hx218_0
                  cases e218
                  replace hx218_0 := (HB.out.cell (World.block_lt_of_cell? w _ hx218_0)).trans hx218_0
                  replace hx218_1 := (HB.out.cell (World.block_lt_of_cell? w _ hx218_1)).trans hx218_1
                  replace hx218_2 := (HB.out.cell (World.block_lt_of_cell? w _ hx218_2)).trans hx218_2
                  replace hx218_3 := (HB.out.cell (World.block_lt_of_cell? w _ hx218_3)).trans hx218_3
                  replace hx218_4 := (HB.out.cell (World.block_lt_of_cell? w _ hx218_4)).trans hx218_4
                  replace hx218_5 := (HB.out.cell (World.block_lt_of_cell? w _ hx218_5)).trans hx218_5
                  replace hx218_6 := (HB.out.cell (World.block_lt_of_cell? w _ hx218_6)).trans hx218_6
                  replace hx218_7 := (HB.out.cell (World.block_lt_of_cell? w _ hx218_7)).trans hx218_7
                  replace hx218_8 := (HB.out.cell (World.block_lt_of_cell? w _ hx218_8)).trans hx218_8
                  replace hx218_9 := (HB.out.cell (World.block_lt_of_cell? w _ hx218_9)).trans hx218_9
                  replace hx218_10 := (HB.out.cell (World.block_lt_of_cell? w _ hx218_10)).trans hx218_10
                  replace hx218_11 := (HB.out.cell (World.block_lt_of_cell? w _ hx218_11)).trans hx218_11
                  have HR218_11 := Aside0.mk hi218_11
                  have HC218_11 := Aside0.mk hl218_11
                  clear hi218_11 hl218_11
                  replace p218 := eq_true p218
                  replace q218 := eq_true q218
                  have p219 : 0 ≤ ((rd t214 x9_1) : Int) := of_decide_eq_true (by first | (with_reducible assumption) | assumption)
                  have q219 : (rd t214 x9_1) < (l0.length : Int) := of_decide_eq_true (by first | (with_reducible assumption) | assumption)
                  obtain ⟨ad219, A219_11, c219_11, e219, hx219_0, hx219_1, hx219_2, hx219_3, hx219_4, hx219_5, hx219_6, hx219_7, hx219_8, hx219_9, hx219_10, hx219_11, hl219_11, hi219_11⟩ := at_T32 HR0.out (rd t214 x9_1) p219 q219
                  have hw219_11 := hx219_11
                  have hw219_10 := hx219_10
                  have hw219_9 := hx219_9
                  have hw219_8 := hx219_8
                  have hw219_7 := hx219_7
                  have hw219_6 := hx219_6
                  have hw219_5 := hx219_5
                  have hw219_4 := hx219_4
                  have hw219_3 := hx219_3
                  have hw219_2 := hx219_2
                  have hw219_1 := hx219_1
                  have hw219_0 := hx219_0
                  obtain rfl : ad218 = ad219 := (by injection e219)
                  replace hx219_0 := (HB.out.cell (World.block_lt_of_cell? w _ hx219_0)).trans hx219_0
                  replace hx219_1 := (HB.out.cell (World.block_lt_of_cell? w _ hx219_1)).trans hx219_1
                  replace hx219_2 := (HB.out.cell (World.block_lt_of_cell? w _ hx219_2)).trans hx219_2
                  replace hx219_3 := (HB.out.cell (World.block_lt_of_cell? w _ hx219_3)).trans hx219_3
                  replace hx219_4 := (HB.out.cell (World.block_lt_of_cell? w _ hx219_4)).trans hx219_4
                  replace hx219_5 := (HB.out.cell (World.block_lt_of_cell? w _ hx219_5)).trans hx219_5
                  replace hx219_6 := (HB.out.cell (World.block_lt_of_cell? w _ hx219_6)).trans hx219_6
                  replace hx219_7 := (HB.out.cell (World.block_lt_of_cell? w _ hx219_7)).trans hx219_7
                  replace hx219_8 := (HB.out.cell (World.block_lt_of_cell? w _ hx219_8)).trans hx219_8
                  replace hx219_9 := (HB.out.cell (World.block_lt_of_cell? w _ hx219_9)).trans hx219_9
                  replace hx219_10 := (HB.out.cell (World.block_lt_of_cell? w _ hx219_10)).trans hx219_10
                  replace hx219_11 := (HB.out.cell (World.block_lt_of_cell? w _ hx219_11)).trans hx219_11
                  have HR219_11 := Aside0.mk hi219_11
                  have HC219_11 := Aside0.mk hl219_11
                  clear hi219_11 hl219_11
                  replace p219 := eq_true p219
                  replace q219 := eq_true q219
                  have ea_ := Option.some.inj (hx218_11.symm.trans hx219_11)
                  injection ea_ with ea_ en_ ec_
                  subst ea_
                  subst ec_
                  clear en_
                  refine start_ (n := 15) (S := fun w' => w'.cell? (ad218.add (((rd t214 x9_1)).toNat * 12)) = some (.int .i64 ((rd_T32 l0 (rd t214 x9_1)).f0)) ∧ w'.cell? ⟨(ad218.add (((rd t214 x9_1)).toNat * 12)).block, (ad218.add (((rd t214 x9_1)).toNat * 12)).off + 1, none⟩ = some (.int .i64 ((rd_T32 l0 (rd t214 x9_1)).f1)) ∧ w'.cell? ⟨(ad218.add (((rd t214 x9_1)).toNat * 12)).block, (ad218.add (((rd t214 x9_1)).toNat * 12)).off + 2, none⟩ = some (.int .i64 ((rd_T32 l0 (rd t214 x9_1)).f2)) ∧ w'.cell? ⟨(ad218.add (((rd t214 x9_1)).toNat * 12)).block, (ad218.add (((rd t214 x9_1)).toNat * 12)).off + 3, none⟩ = some (.int .i64 ((rd_T32 l0 (rd t214 x9_1)).f3)) ∧ w'.cell? ⟨(ad218.add (((rd t214 x9_1)).toNat * 12)).block, (ad218.add (((rd t214 x9_1)).toNat * 12)).off + 4, none⟩ = some (.int .i64 ((rd_T32 l0 (rd t214 x9_1)).f4)) ∧ w'.cell? ⟨(ad218.add (((rd t214 x9_1)).toNat * 12)).block, (ad218.add (((rd t214 x9_1)).toNat * 12)).off + 5, none⟩ = some (.int .i64 ((rd_T32 l0 (rd t214 x9_1)).f5)) ∧ w'.cell? ⟨(ad218.add (((rd t214 x9_1)).toNat * 12)).block, (ad218.add (((rd t214 x9_1)).toNat * 12)).off + 6, none⟩ = some (.int .i64 ((rd_T32 l0 (rd t214 x9_1)).f6)) ∧ w'.cell? ⟨(ad218.add (((rd t214 x9_1)).toNat * 12)).block, (ad218.add (((rd t214 x9_1)).toNat * 12)).off + 7, none⟩ = some (.int .i64 ((rd_T32 l0 (rd t214 x9_1)).f7)) ∧ w'.cell? ⟨(ad218.add (((rd t214 x9_1)).toNat * 12)).block, (ad218.add (((rd t214 x9_1)).toNat * 12)).off + 8, none⟩ = some (.int .i64 ((rd_T32 l0 (rd t214 x9_1)).f8)) ∧ w'.cell? ⟨(ad218.add (((rd t214 x9_1)).toNat * 12)).block, (ad218.add (((rd t214 x9_1)).toNat * 12)).off + 9, none⟩ = some (.int .i64 ((rd_T32 l0 (rd t214 x9_1)).f9)) ∧ w'.cell? ⟨(ad218.add (((rd t214 x9_1)).toNat * 12)).block, (ad218.add (((rd t214 x9_1)).toNat * 12)).off + 10, none⟩ = some (.int .i64 ((rd_T32 l0 (rd t214 x9_1)).f10)) ∧ w'.cell? ⟨(ad218.add (((rd t214 x9_1)).toNat * 12)).block, (ad218.add (((rd t214 x9_1)).toNat * 12)).off + 11, none⟩ = some (.slice A218_11 ((rd_T32 l0 (rd t214 x9_1)).f11).length c218_11) ∧ w'.cell? (ad218.add (((rd t214 x9_1)).toNat * 12)) = some (.int .i64 ((rd_T32 l0 (rd t214 x9_1)).f0)) ∧ w'.cell? ⟨(ad218.add (((rd t214 x9_1)).toNat * 12)).block, (ad218.add (((rd t214 x9_1)).toNat * 12)).off + 1, none⟩ = some (.int .i64 ((rd_T32 l0 (rd t214 x9_1)).f1)) ∧ w'.cell? ⟨(ad218.add (((rd t214 x9_1)).toNat * 12)).block, (ad218.add (((rd t214 x9_1)).toNat * 12)).off + 2, none⟩ = some (.int .i64 ((rd_T32 l0 (rd t214 x9_1)).f2)) ∧ w'.cell? ⟨(ad218.add (((rd t214 x9_1)).toNat * 12)).block, (ad218.add (((rd t214 x9_1)).toNat * 12)).off + 3, none⟩ = some (.int .i64 ((rd_T32 l0 (rd t214 x9_1)).f3)) ∧ w'.cell? ⟨(ad218.add (((rd t214 x9_1)).toNat * 12)).block, (ad218.add (((rd t214 x9_1)).toNat * 12)).off + 4, none⟩ = some (.int .i64 ((rd_T32 l0 (rd t214 x9_1)).f4)) ∧ w'.cell? ⟨(ad218.add (((rd t214 x9_1)).toNat * 12)).block, (ad218.add (((rd t214 x9_1)).toNat * 12)).off + 5, none⟩ = some (.int .i64 ((rd_T32 l0 (rd t214 x9_1)).f5)) ∧ w'.cell? ⟨(ad218.add (((rd t214 x9_1)).toNat * 12)).block, (ad218.add (((rd t214 x9_1)).toNat * 12)).off + 6, none⟩ = some (.int .i64 ((rd_T32 l0 (rd t214 x9_1)).f6)) ∧ w'.cell? ⟨(ad218.add (((rd t214 x9_1)).toNat * 12)).block, (ad218.add (((rd t214 x9_1)).toNat * 12)).off + 7, none⟩ = some (.int .i64 ((rd_T32 l0 (rd t214 x9_1)).f7)) ∧ w'.cell? ⟨(ad218.add (((rd t214 x9_1)).toNat * 12)).block, (ad218.add (((rd t214 x9_1)).toNat * 12)).off + 8, none⟩ = some (.int .i64 ((rd_T32 l0 (rd t214 x9_1)).f8)) ∧ w'.cell? ⟨(ad218.add (((rd t214 x9_1)).toNat * 12)).block, (ad218.add (((rd t214 x9_1)).toNat * 12)).off + 9, none⟩ = some (.int .i64 ((rd_T32 l0 (rd t214 x9_1)).f9)) ∧ w'.cell? ⟨(ad218.add (((rd t214 x9_1)).toNat * 12)).block, (ad218.add (((rd t214 x9_1)).toNat * 12)).off + 10, none⟩ = some (.int .i64 ((rd_T32 l0 (rd t214 x9_1)).f10)) ∧ w'.cell? ⟨(ad218.add (((rd t214 x9_1)).toNat * 12)).block, (ad218.add (((rd t214 x9_1)).toNat * 12)).off + 11, none⟩ = some (.slice A218_11 ((rd_T32 l0 (rd t214 x9_1)).f11).length c218_11)) (ds := []) #[false, false, false, false, false, false, false, false, false, false, false, false, false, false, false] (by kernel_rfl) rfl rfl ⟨((HB.out.cell (World.block_lt_of_cell? w _ hw218_0)).trans hw218_0), ((HB.out.cell (World.block_lt_of_cell? w _ hw218_1)).trans hw218_1), ((HB.out.cell (World.block_lt_of_cell? w _ hw218_2)).trans hw218_2), ((HB.out.cell (World.block_lt_of_cell? w _ hw218_3)).trans hw218_3), ((HB.out.cell (World.block_lt_of_cell? w _ hw218_4)).trans hw218_4), ((HB.out.cell (World.block_lt_of_cell? w _ hw218_5)).trans hw218_5), ((HB.out.cell (World.block_lt_of_cell? w _ hw218_6)).trans hw218_6), ((HB.out.cell (World.block_lt_of_cell? w _ hw218_7)).trans hw218_7), ((HB.out.cell (World.block_lt_of_cell? w _ hw218_8)).trans hw218_8), ((HB.out.cell (World.block_lt_of_cell? w _ hw218_9)).trans hw218_9), ((HB.out.cell (World.block_lt_of_cell? w _ hw218_10)).trans hw218_10), ((HB.out.cell (World.block_lt_of_cell? w _ hw218_11)).trans hw218_11), ((HB.out.cell (World.block_lt_of_cell? w _ hw219_0)).trans hw219_0), ((HB.out.cell (World.block_lt_of_cell? w _ hw219_1)).trans hw219_1), ((HB.out.cell (World.block_lt_of_cell? w _ hw219_2)).trans hw219_2), ((HB.out.cell (World.block_lt_of_cell? w _ hw219_3)).trans hw219_3), ((HB.out.cell (World.block_lt_of_cell? w _ hw219_4)).trans hw219_4), ((HB.out.cell (World.block_lt_of_cell? w _ hw219_5)).trans hw219_5), ((HB.out.cell (World.block_lt_of_cell? w _ hw219_6)).trans hw219_6), ((HB.out.cell (World.block_lt_of_cell? w _ hw219_7)).trans hw219_7), ((HB.out.cell (World.block_lt_of_cell? w _ hw219_8)).trans hw219_8), ((HB.out.cell (World.block_lt_of_cell? w _ hw219_9)).trans hw219_9), ((HB.out.cell (World.block_lt_of_cell? w _ hw219_10)).trans hw219_10), ((HB.out.cell (World.block_lt_of_cell? w _ hw219_11)).trans hw219_11)⟩ (fun hHeld => ?_); refine with_tabW order_Asks.tab5 order_Asks.bits5 (fun HT_ HW_ => ?_)
                  generalize wr.drew = w11 at HO_3 HO_7 HB HR218_11 HR219_11 hx218_0 hx218_1 hx218_10 hx218_11 hx218_2 hx218_3 hx218_4 hx218_5 hx218_6 hx218_7 hx218_8 hx218_9 hx219_0 hx219_1 hx219_10 hx219_11 hx219_2 hx219_3 hx219_4 hx219_5 hx219_6 hx219_7 hx219_8 hx219_9 hHeld ⊢
                  refine pure_ (i := 0) (N := some 13) (v := ?_) (a' := ?_) #[true, false, false, false, false, false, false, false, false, false, false, false, false, false, false] rfl rfl (any_of HT_.out (by kernel_rfl)) (fun _ _ _ h => h) (Or.inl ⟨by rfl, ?_⟩) ?_ ?_
                  rotate_left
                  · intro w'
                    go_simp
                    with_reducible rfl
                  rotate_left
                  · simp only [Act.put, List.setIfInBounds_toArray, List.set_cons_zero, List.set_cons_succ, i64_w, i32_w]
                    rfl
                  refine pure_ (i := 1) (N := some 14) (v := ?_) (a' := ?_) #[true, true, false, false, false, false, false, false, false, false, false, false, false, false, false] rfl rfl (any_of HT_.out (by kernel_rfl)) (fun _ _ _ h => h) (Or.inl ⟨by rfl, ?_⟩) ?_ ?_
                  rotate_left
                  · intro w'
                    go_simp
                    with_reducible rfl
                  rotate_left
                  · simp only [Act.put, List.setIfInBounds_toArray, List.set_cons_zero, List.set_cons_succ, i64_w, i32_w]
                    rfl
                  refine pure_ (i := 2) (N := some 15) (v := ?_) (a' := ?_) #[true, true, true, false, false, false, false, false, false, false, false, false, false, false, false] rfl rfl (any_of HT_.out (by kernel_rfl)) (fun _ _ _ h => h) (Or.inl ⟨by rfl, ?_⟩) ?_ ?_
                  rotate_left
                  · intro w'
                    go_simp
                    with_reducible rfl
                  rotate_left
                  · simp only [Act.put, List.setIfInBounds_toArray, List.set_cons_zero, List.set_cons_succ, i64_w, i32_w]
                    rfl
                  refine pure_ (i := 3) (N := some 16) (v := ?_) (a' := ?_) #[true, true, true, true, false, false, false, false, false, false, false, false, false, false, false] rfl rfl (any_of HT_.out (by kernel_rfl)) (fun _ _ _ h => h) (Or.inl ⟨by rfl, ?_⟩) ?_ ?_
                  rotate_left
                  · intro w'
                    go_simp
                    with_reducible rfl
                  rotate_left
                  · simp only [Act.put, List.setIfInBounds_toArray, List.set_cons_zero, List.set_cons_succ, i64_w, i32_w]
                    rfl
                  refine pure_ (i := 4) (N := some 17) (v := ?_) (a' := ?_) #[true, true, true, true, true, false, false, false, false, false, false, false, false, false, false] rfl rfl (any_of HT_.out (by kernel_rfl)) (fun _ _ _ h => h) (Or.inl ⟨by rfl, ?_⟩) ?_ ?_
                  rotate_left
                  · intro w'
                    go_simp
                    with_reducible rfl
                  rotate_left
                  · simp only [Act.put, List.setIfInBounds_toArray, List.set_cons_zero, List.set_cons_succ, i64_w, i32_w]
                    rfl
                  refine pure_ (i := 6) (N := some 19) (v := ?_) (a' := ?_) #[true, true, true, true, true, false, true, false, false, false, false, false, false, false, false] rfl rfl (any_of HT_.out (by kernel_rfl)) (fun _ _ _ h => h) (Or.inl ⟨by rfl, ?_⟩) ?_ ?_
                  rotate_left
                  · intro w'
                    go_simp
                    with_reducible rfl
                  rotate_left
                  · simp only [Act.put, List.setIfInBounds_toArray, List.set_cons_zero, List.set_cons_succ, i64_w, i32_w]
                    rfl
                  refine pure_ (i := 7) (N := some 20) (v := ?_) (a' := ?_) #[true, true, true, true, true, false, true, true, false, false, false, false, false, false, false] rfl rfl (any_of HT_.out (by kernel_rfl)) (fun _ _ _ h => h) (Or.inl ⟨by rfl, ?_⟩) ?_ ?_
                  rotate_left
                  · intro w'
                    go_simp
                    with_reducible rfl
                  rotate_left
                  · simp only [Act.put, List.setIfInBounds_toArray, List.set_cons_zero, List.set_cons_succ, i64_w, i32_w]
                    rfl
                  refine pure_ (i := 8) (N := some 21) (v := ?_) (a' := ?_) #[true, true, true, true, true, false, true, true, true, false, false, false, false, false, false] rfl rfl (any_of HT_.out (by kernel_rfl)) (fun _ _ _ h => h) (Or.inl ⟨by rfl, ?_⟩) ?_ ?_
                  rotate_left
                  · intro w'
                    go_simp
                    with_reducible rfl
                  rotate_left
                  · simp only [Act.put, List.setIfInBounds_toArray, List.set_cons_zero, List.set_cons_succ, i64_w, i32_w]
                    rfl
                  refine pure_ (i := 9) (N := some 22) (v := ?_) (a' := ?_) #[true, true, true, true, true, false, true, true, true, true, false, false, false, false, false] rfl rfl (any_of HT_.out (by kernel_rfl)) (fun _ _ _ h => h) (Or.inl ⟨by rfl, ?_⟩) ?_ ?_
                  rotate_left
                  · intro w'
                    go_simp
                    with_reducible rfl
                  rotate_left
                  · simp only [Act.put, List.setIfInBounds_toArray, List.set_cons_zero, List.set_cons_succ, i64_w, i32_w]
                    rfl
                  refine take_ (i := 5) (N := some 18) (v := ?_) (a' := ?_) #[true, true, true, true, true, true, true, true, true, true, false, false, false, false, false] rfl rfl (take_ofW HT_.out HW_.out (by kernel_rfl)) (fun _ _ _ h => h) (Or.inl ⟨by rfl, ?_⟩) hHeld ?_ ?_
                  rotate_left
                  · rintro w' ⟨s0, s1, s2, s3, s4, s5, s6, s7, s8, s9, s10, s11, s12, s13, s14, s15, s16, s17, s18, s19, s20, s21, s22, s23⟩
                    go_simp
                    with_reducible rfl
                  rotate_left
                  · simp only [Act.put, List.setIfInBounds_toArray, List.set_cons_zero, List.set_cons_succ, i64_w, i32_w]
                    rfl
                  refine take_ (i := 10) (N := some 23) (v := ?_) (a' := ?_) #[true, true, true, true, true, true, true, true, true, true, true, false, false, false, false] rfl rfl (take_ofW HT_.out HW_.out (by kernel_rfl)) (fun _ _ _ h => h) (Or.inl ⟨by rfl, ?_⟩) hHeld ?_ ?_
                  rotate_left
                  · rintro w' ⟨s0, s1, s2, s3, s4, s5, s6, s7, s8, s9, s10, s11, s12, s13, s14, s15, s16, s17, s18, s19, s20, s21, s22, s23⟩
                    go_simp
                    with_reducible rfl
                  rotate_left
                  · simp only [Act.put, List.setIfInBounds_toArray, List.set_cons_zero, List.set_cons_succ, i64_w, i32_w]
                    rfl
                  refine pure_ (i := 11) (N := some 24) (v := ?_) (a' := ?_) #[true, true, true, true, true, true, true, true, true, true, true, true, false, false, false] rfl rfl (any_of HT_.out (by kernel_rfl)) (fun _ _ _ h => h) (Or.inl ⟨by rfl, ?_⟩) ?_ ?_
                  rotate_left
                  · intro w'
                    go_simp
                    with_reducible rfl
                  rotate_left
                  · simp only [Act.put, List.setIfInBounds_toArray, List.set_cons_zero, List.set_cons_succ, i64_w, i32_w]
                    rfl
                  refine one_ (i := 12) (N := some 25) #[true, true, true, true, true, true, true, true, true, true, true, true, true, false, false] rfl rfl (one_of HT_.out (by kernel_rfl)) (by decide) (fun K hK => ?_)
                  refine value_ (w1 := ?_) (v := ?_) (by rfl) rfl ?_ ?_
                  rotate_left 2
                  · go_simp
                    constructor
                    · rfl
                    · rfl
                  refine hK.out _ _ ⟨(World.cell?_alloc_lt _ _ _ (World.block_lt_of_cell? _ _ (((HB.out.cell (World.block_lt_of_cell? w _ hw218_0)).trans hw218_0)))).trans (((HB.out.cell (World.block_lt_of_cell? w _ hw218_0)).trans hw218_0)), (World.cell?_alloc_lt _ _ _ (World.block_lt_of_cell? _ _ (((HB.out.cell (World.block_lt_of_cell? w _ hw218_1)).trans hw218_1)))).trans (((HB.out.cell (World.block_lt_of_cell? w _ hw218_1)).trans hw218_1)), (World.cell?_alloc_lt _ _ _ (World.block_lt_of_cell? _ _ (((HB.out.cell (World.block_lt_of_cell? w _ hw218_2)).trans hw218_2)))).trans (((HB.out.cell (World.block_lt_of_cell? w _ hw218_2)).trans hw218_2)), (World.cell?_alloc_lt _ _ _ (World.block_lt_of_cell? _ _ (((HB.out.cell (World.block_lt_of_cell? w _ hw218_3)).trans hw218_3)))).trans (((HB.out.cell (World.block_lt_of_cell? w _ hw218_3)).trans hw218_3)), (World.cell?_alloc_lt _ _ _ (World.block_lt_of_cell? _ _ (((HB.out.cell (World.block_lt_of_cell? w _ hw218_4)).trans hw218_4)))).trans (((HB.out.cell (World.block_lt_of_cell? w _ hw218_4)).trans hw218_4)), (World.cell?_alloc_lt _ _ _ (World.block_lt_of_cell? _ _ (((HB.out.cell (World.block_lt_of_cell? w _ hw218_5)).trans hw218_5)))).trans (((HB.out.cell (World.block_lt_of_cell? w _ hw218_5)).trans hw218_5)), (World.cell?_alloc_lt _ _ _ (World.block_lt_of_cell? _ _ (((HB.out.cell (World.block_lt_of_cell? w _ hw218_6)).trans hw218_6)))).trans (((HB.out.cell (World.block_lt_of_cell? w _ hw218_6)).trans hw218_6)), (World.cell?_alloc_lt _ _ _ (World.block_lt_of_cell? _ _ (((HB.out.cell (World.block_lt_of_cell? w _ hw218_7)).trans hw218_7)))).trans (((HB.out.cell (World.block_lt_of_cell? w _ hw218_7)).trans hw218_7)), (World.cell?_alloc_lt _ _ _ (World.block_lt_of_cell? _ _ (((HB.out.cell (World.block_lt_of_cell? w _ hw218_8)).trans hw218_8)))).trans (((HB.out.cell (World.block_lt_of_cell? w _ hw218_8)).trans hw218_8)), (World.cell?_alloc_lt _ _ _ (World.block_lt_of_cell? _ _ (((HB.out.cell (World.block_lt_of_cell? w _ hw218_9)).trans hw218_9)))).trans (((HB.out.cell (World.block_lt_of_cell? w _ hw218_9)).trans hw218_9)), (World.cell?_alloc_lt _ _ _ (World.block_lt_of_cell? _ _ (((HB.out.cell (World.block_lt_of_cell? w _ hw218_10)).trans hw218_10)))).trans (((HB.out.cell (World.block_lt_of_cell? w _ hw218_10)).trans hw218_10)), (World.cell?_alloc_lt _ _ _ (World.block_lt_of_cell? _ _ (((HB.out.cell (World.block_lt_of_cell? w _ hw218_11)).trans hw218_11)))).trans (((HB.out.cell (World.block_lt_of_cell? w _ hw218_11)).trans hw218_11)), (World.cell?_alloc_lt _ _ _ (World.block_lt_of_cell? _ _ (((HB.out.cell (World.block_lt_of_cell? w _ hw219_0)).trans hw219_0)))).trans (((HB.out.cell (World.block_lt_of_cell? w _ hw219_0)).trans hw219_0)), (World.cell?_alloc_lt _ _ _ (World.block_lt_of_cell? _ _ (((HB.out.cell (World.block_lt_of_cell? w _ hw219_1)).trans hw219_1)))).trans (((HB.out.cell (World.block_lt_of_cell? w _ hw219_1)).trans hw219_1)), (World.cell?_alloc_lt _ _ _ (World.block_lt_of_cell? _ _ (((HB.out.cell (World.block_lt_of_cell? w _ hw219_2)).trans hw219_2)))).trans (((HB.out.cell (World.block_lt_of_cell? w _ hw219_2)).trans hw219_2)), (World.cell?_alloc_lt _ _ _ (World.block_lt_of_cell? _ _ (((HB.out.cell (World.block_lt_of_cell? w _ hw219_3)).trans hw219_3)))).trans (((HB.out.cell (World.block_lt_of_cell? w _ hw219_3)).trans hw219_3)), (World.cell?_alloc_lt _ _ _ (World.block_lt_of_cell? _ _ (((HB.out.cell (World.block_lt_of_cell? w _ hw219_4)).trans hw219_4)))).trans (((HB.out.cell (World.block_lt_of_cell? w _ hw219_4)).trans hw219_4)), (World.cell?_alloc_lt _ _ _ (World.block_lt_of_cell? _ _ (((HB.out.cell (World.block_lt_of_cell? w _ hw219_5)).trans hw219_5)))).trans (((HB.out.cell (World.block_lt_of_cell? w _ hw219_5)).trans hw219_5)), (World.cell?_alloc_lt _ _ _ (World.block_lt_of_cell? _ _ (((HB.out.cell (World.block_lt_of_cell? w _ hw219_6)).trans hw219_6)))).trans (((HB.out.cell (World.block_lt_of_cell? w _ hw219_6)).trans hw219_6)), (World.cell?_alloc_lt _ _ _ (World.block_lt_of_cell? _ _ (((HB.out.cell (World.block_lt_of_cell? w _ hw219_7)).trans hw219_7)))).trans (((HB.out.cell (World.block_lt_of_cell? w _ hw219_7)).trans hw219_7)), (World.cell?_alloc_lt _ _ _ (World.block_lt_of_cell? _ _ (((HB.out.cell (World.block_lt_of_cell? w _ hw219_8)).trans hw219_8)))).trans (((HB.out.cell (World.block_lt_of_cell? w _ hw219_8)).trans hw219_8)), (World.cell?_alloc_lt _ _ _ (World.block_lt_of_cell? _ _ (((HB.out.cell (World.block_lt_of_cell? w _ hw219_9)).trans hw219_9)))).trans (((HB.out.cell (World.block_lt_of_cell? w _ hw219_9)).trans hw219_9)), (World.cell?_alloc_lt _ _ _ (World.block_lt_of_cell? _ _ (((HB.out.cell (World.block_lt_of_cell? w _ hw219_10)).trans hw219_10)))).trans (((HB.out.cell (World.block_lt_of_cell? w _ hw219_10)).trans hw219_10)), (World.cell?_alloc_lt _ _ _ (World.block_lt_of_cell? _ _ (((HB.out.cell (World.block_lt_of_cell? w _ hw219_11)).trans hw219_11)))).trans (((HB.out.cell (World.block_lt_of_cell? w _ hw219_11)).trans hw219_11))⟩ (fun hHeld => ?_)
                  clear hK K
                  refine norm_ (a' := ?_) ?_ ?_
                  rotate_left
                  · show Act.put _ (some 25) _ = _
                    simp only [Act.put, List.setIfInBounds_toArray, List.set_cons_zero, List.set_cons_succ, i64_w, i32_w]
                    rfl
                  refine one_ (i := 13) (N := some 26) #[true, true, true, true, true, true, true, true, true, true, true, true, true, true, false] rfl rfl (one_of HT_.out (by kernel_rfl)) (by decide) (fun K hK => ?_)
                  refine Kd.R_append_step k29 (w0 := w) w.heap.size (by rfl) (.tmp 13) (.tmp 25) 26 29 (.agg #[(.int .i64 0), (.int .i64 0)]) 16 rfl Try.underlying26 info29 rfl (by decide) (by omega) u3 x3_1 (⟨(rd_T32 l0 (rd t214 x9_1)).f2, (rd_T32 l0 (rd t214 x9_1)).f3⟩ : S29) [.int .i64 ((rd_T32 l0 (rd t214 x9_1)).f2), .int .i64 ((rd_T32 l0 (rd t214 x9_1)).f3)] (fun k_ => (w.heap.size ≤ k_)) (fun _ => False) rfl rfl ?aP (fun _ hk => hk.elim) ?aF ?aO ?aB ?aS ?aL ?_
                  (case aP => exact k29_mkM _ _ _ (⟨(rd_T32 l0 (rd t214 x9_1)).f2, (rd_T32 l0 (rd t214 x9_1)).f3⟩ : S29))
                  (case aB => exact (by repeat (first | (with_reducible first | exact HB.out | apply below_alloc | apply pw_below_drewN | apply below_drew1) | exact HB.out)))
                  (case aF => exact (fun k_ hk => (Nat.le_trans (below_size (by repeat (first | (with_reducible first | exact HB.out | apply below_alloc | apply pw_below_drewN | apply below_drew1) | exact HB.out))) hk)))
                  (case aO => exact (by (with_reducible repeat (first | apply Kd.R_alloc | apply Kd.R_drewN | apply Kd.R_drew)); exact HO_3.out))
                  (case aS => exact (below_size (by repeat (first | (with_reducible first | exact HB.out | apply below_alloc | apply pw_below_drewN | apply below_drew1) | exact HB.out))))
                  (case aL => have := LMc10.out; omega)
                  intro v221 w12 ho hb hg hat
                  rw [← Ny220.out] at ho
                  have n0_ := Aside0.mk (Kd.V_afterv (ok := (fun k_ => (w.heap.size ≤ k_))) (by (with_reducible repeat (first | apply Kd.V_alloc | apply Kd.V_drewN | apply Kd.V_drew)); exact HO_7.out) hg hat)
                  have n1_ := Aside0.mk (hb)
                  have n2_ := Aside0.mk (ho)
                  clear HO_7
                  clear HB
                  clear HO_3
                  have HO_7 := n0_
                  have HB := n1_
                  have HO222 := n2_
                  clear n0_ n1_ n2_
                  clear ho hb hg hat
                  refine hK.out _ _ ⟨((HB.out.cell (World.block_lt_of_cell? w _ hw218_0)).trans hw218_0), ((HB.out.cell (World.block_lt_of_cell? w _ hw218_1)).trans hw218_1), ((HB.out.cell (World.block_lt_of_cell? w _ hw218_2)).trans hw218_2), ((HB.out.cell (World.block_lt_of_cell? w _ hw218_3)).trans hw218_3), ((HB.out.cell (World.block_lt_of_cell? w _ hw218_4)).trans hw218_4), ((HB.out.cell (World.block_lt_of_cell? w _ hw218_5)).trans hw218_5), ((HB.out.cell (World.block_lt_of_cell? w _ hw218_6)).trans hw218_6), ((HB.out.cell (World.block_lt_of_cell? w _ hw218_7)).trans hw218_7), ((HB.out.cell (World.block_lt_of_cell? w _ hw218_8)).trans hw218_8), ((HB.out.cell (World.block_lt_of_cell? w _ hw218_9)).trans hw218_9), ((HB.out.cell (World.block_lt_of_cell? w _ hw218_10)).trans hw218_10), ((HB.out.cell (World.block_lt_of_cell? w _ hw218_11)).trans hw218_11), ((HB.out.cell (World.block_lt_of_cell? w _ hw219_0)).trans hw219_0), ((HB.out.cell (World.block_lt_of_cell? w _ hw219_1)).trans hw219_1), ((HB.out.cell (World.block_lt_of_cell? w _ hw219_2)).trans hw219_2), ((HB.out.cell (World.block_lt_of_cell? w _ hw219_3)).trans hw219_3), ((HB.out.cell (World.block_lt_of_cell? w _ hw219_4)).trans hw219_4), ((HB.out.cell (World.block_lt_of_cell? w _ hw219_5)).trans hw219_5), ((HB.out.cell (World.block_lt_of_cell? w _ hw219_6)).trans hw219_6), ((HB.out.cell (World.block_lt_of_cell? w _ hw219_7)).trans hw219_7), ((HB.out.cell (World.block_lt_of_cell? w _ hw219_8)).trans hw219_8), ((HB.out.cell (World.block_lt_of_cell? w _ hw219_9)).trans hw219_9), ((HB.out.cell (World.block_lt_of_cell? w _ hw219_10)).trans hw219_10), ((HB.out.cell (World.block_lt_of_cell? w _ hw219_11)).trans hw219_11)⟩ (fun hHeld => ?_)
                  clear hK K
                  refine norm_ (a' := ?_) ?_ ?_
                  rotate_left
                  · show Act.put _ (some 26) _ = _
                    simp only [Act.put, List.setIfInBounds_toArray, List.set_cons_zero, List.set_cons_succ, i64_w, i32_w]
                    rfl
                  refine pure_ (i := 14) (N := some 3) (v := ?_) (a' := ?_) #[true, true, true, true, true, true, true, true, true, true, true, true, true, true, true] rfl rfl (any_of HT_.out (by kernel_rfl)) (fun _ _ _ h => h) (Or.inl ⟨by rfl, ?_⟩) ?_ ?_
                  rotate_left
                  · intro w'
                    go_simp
                    with_reducible rfl
                  rotate_left
                  · simp only [Act.put, List.setIfInBounds_toArray, List.set_cons_zero, List.set_cons_succ, i64_w, i32_w]
                    rfl
                  refine done_ (done_of HT_.out (by kernel_rfl)) ?_
                  try go_wp2
                  go_roundg k1
                  case measure => have := HK1.out; omega
                  case rel => exact ⟨(y220), (wrap64 (x9_1 + 1)), (by first | rfl | (simp; done) | (simp [*]; done)), H', ⟨by have := HK1.out; omega⟩, ⟨by (with_reducible repeat (first | apply Kd.R_alloc | apply Kd.R_drewN | apply Kd.R_drew)); exact HO222.out⟩, ⟨by (with_reducible repeat (first | apply Kd.V_alloc | apply Kd.V_drewN | apply Kd.V_drew)); exact HO_7.out⟩, ⟨by repeat (first | (with_reducible first | exact HB.out | apply below_alloc | apply pw_below_drewN | apply below_drew1) | exact HB.out)⟩⟩
                · rw [if_neg c10] at H
                  exact absurd H (by simp)
              · rw [if_neg c9] at H
                exact absurd H (by simp)
            · rw [if_neg c8] at H
              exact absurd H (by simp)
          · exact absurd (of_decide_eq_true c5b0) c7
        · rw [if_neg c6] at H
          exact absurd H (by simp)
      · rw [if_neg c5] at H
        have c5b0 : decide (x9_1 < (t214.length : Int)) = false := decide_eq_false c5
        clear c5
        replace H := Option.bind_eq_some_iff.mp H
        obtain ⟨t223, A130, H⟩ := H
        replace H : (some t223) = some r := H
        have A13 := Aside0.mk A130
        clear A130
        obtain rfl := Option.some.inj H
        obtain ⟨Ao14, co14, eo14⟩ := Kd.R_slice HO_3.out
        subst eo14
        go_wp2_with (first | ((with_reducible refine gate_callee (f := 32) rfl ?_); refine goesL_ (some 29) rfl rfl Try.func32 (by kernel_rfl) rfl #[.slice Ao14 x3_1.length co14] rfl (by (try simp only [List.map_toArray, List.map_cons, List.map_nil]); first | done | rfl | (simp only [List.length_drop, List.length_take]; rfl)) ?_; (with_reducible refine (slices_Clip_Ask.calls (fun k_ => some k_ = (.slice Ao14 x3_1.length co14 : Value).ownBlock) _ _ x3_1 t223 _ ?side1 A13.out).mono ?_); (case side1 => exact Kd.R_V (Kd.R_tight rfl (HO_3.out))); rintro e w15 ⟨v224, rfl, ho0, hb⟩; refine ⟨_, rfl, ?_⟩; have n0_ := Aside0.mk (Kd.R_below (by (with_reducible repeat (first | apply Kd.R_alloc | apply Kd.R_drewN | apply Kd.R_drew)); exact HO_3.out) hb); have n1_ := Aside0.mk (Kd.V_below (by (with_reducible repeat (first | apply Kd.V_alloc | apply Kd.V_drewN | apply Kd.V_drew)); exact HO_7.out) hb); have n2_ := Aside0.mk (Kd.V_lower (Kd.V_mono (ok' := fun k_ => (w.heap.size ≤ k_)) ho0 (fun k_ hk_ => Or.elim hk_ (fun hs_ => ((HO_3.out).1 k_ hs_.symm)) (fun hn_ => (Nat.le_trans (below_size (by repeat (first | (with_reducible first | exact HB.out | apply below_alloc | apply pw_below_drewN | apply below_drew1) | exact HB.out))) hn_)))) (below_size (by repeat (first | (with_reducible first | exact HB.out | apply below_alloc | apply pw_below_drewN | apply below_drew1) | exact HB.out)))); have n3_ := Aside0.mk (below_step (by repeat (first | (with_reducible first | exact HB.out | apply below_alloc | apply pw_below_drewN | apply below_drew1) | exact HB.out)) hb); clear HO_3; clear HO_7; clear HB; have HO_3 := n0_; have HO_7 := n1_; have HO225 := n2_; have HB := n3_; clear n0_ n1_ n2_ n3_; (try clear hb); (try clear hb2); (try clear hk); (try clear hi); (try clear ho0)))
        go_ret
        exact ⟨_, by first | rfl | (simp [errW_none, errW_some] <;> rfl) | (simp [*, errW_none, errW_some] <;> rfl), by (with_reducible repeat (first | apply Kd.V_alloc | apply Kd.V_drewN | apply Kd.V_drew)); exact HO225.out, by repeat (first | (with_reducible first | exact HB.out | apply below_alloc | apply pw_below_drewN | apply below_drew1) | exact HB.out)⟩

end Go.Proofs.Ytkhfgflcanmefaa.PAll
end
section
namespace Go.Proofs.Ytkhfgflcanmefaa.PAll
open Go.RowKit Go.Proofs.YtkhfgflcanmefaaW.PrintWords Go.Proofs.YtkhfgflcanmefaaW.PrintLast Go.Proofs.YtkhfgflcanmefaaW.PrintMore
attribute [local go_sem] max2_int min2_int max_two min_two max_three min_three max_four min_four   -- for this text's walks alone
set_option linter.unusedVariables false
set_option linter.unusedSimpArgs false

attribute [local go_sem high] eqA29
def prebendlaw15_awake.f (k : Nat)  : Option (Bool) := (some (([(⟨1, 0, 7, 0, 0, 1, 0, 1, 0, 0, 0, ([] : List (S80))⟩ : S32), (⟨2, 0, 0, 9, 0, 5, 0, 1, 0, 0, 0, ([] : List (S80))⟩ : S32), (⟨3, 0, 0, 0, 0, 1, 0, 1, 0, 0, 0, ([] : List (S80))⟩ : S32), (⟨4, 0, 0, 0, 0, 9, 0, 2, 0, 0, 0, ([] : List (S80))⟩ : S32)] : List (S32)) : List (S32))).bind fun y228 => ((order_Asks.f k y228).bind fun t231 => ((order_Order.f k y228).bind fun t234 => ((prebendref01_Ints.f k t234 (([1, 0, 2] : List Int))).bind fun t240 => (if t240 = true then (if (t231.length : Int) = 3 then (if 0 < (t231.length : Int) then (if (((rd_T29 t231 0).f0) == 0 && (((rd_T29 t231 0).f1) == 9)) = true then (if 1 < (t231.length : Int) then (some (((rd_T29 t231 1).f0) == 7 && (((rd_T29 t231 1).f1) == 0))) else (none)) else (some false)) else (none)) else (some false)) else (some false)))))
theorem prebendlaw15_awake.mono : ∀ k, LeO (prebendlaw15_awake.f k ) (prebendlaw15_awake.f (k + 1) ) := by
  intro  k
  unfold prebendlaw15_awake.f
  repeat' first
      | (with_reducible exact order_Asks.mono _ _)
      | (with_reducible exact order_Order.mono _ _)
      | (with_reducible exact prebendref01_Ints.mono _ _ _)
      | (with_reducible exact LeO.refl _)
      | (with_reducible exact LeO.none _)
      | (with_reducible refine LeO.ite ?_ ?_)
      | (with_reducible refine LeO.bind ?_ (fun _ => ?_))
      | exact order_Asks.mono _ _
      | exact order_Order.mono _ _
      | exact prebendref01_Ints.mono _ _ _
      | exact LeO.none _
      | refine LeO.ite ?_ ?_
      | refine LeO.bind ?_ (fun _ => ?_)
set_option maxHeartbeats 8000000 in
set_option maxRecDepth 100000 in
theorem prebendlaw15_awake.calls (k : Nat)  (r : Bool) (w : World) (h : prebendlaw15_awake.f k  = some r) :
    Calls Try.prog 12 #[] w fun e w' => e = .returned (.bool r) ∧ Below w.heap.size w w' := by
  have hu32 := Try.underlying32
  have hu29 := Try.underlying29
  have HB := Aside0.mk (Below.refl w.heap.size w)
  have H : ((some (([(⟨1, 0, 7, 0, 0, 1, 0, 1, 0, 0, 0, ([] : List (S80))⟩ : S32), (⟨2, 0, 0, 9, 0, 5, 0, 1, 0, 0, 0, ([] : List (S80))⟩ : S32), (⟨3, 0, 0, 0, 0, 1, 0, 1, 0, 0, 0, ([] : List (S80))⟩ : S32), (⟨4, 0, 0, 0, 0, 9, 0, 2, 0, 0, 0, ([] : List (S80))⟩ : S32)] : List (S32)) : List (S32))).bind fun y228 => ((order_Asks.f k y228).bind fun t231 => ((order_Order.f k y228).bind fun t234 => ((prebendref01_Ints.f k t234 (([1, 0, 2] : List Int))).bind fun t240 => (if t240 = true then (if (t231.length : Int) = 3 then (if 0 < (t231.length : Int) then (if (((rd_T29 t231 0).f0) == 0 && (((rd_T29 t231 0).f1) == 9)) = true then (if 1 < (t231.length : Int) then (some (((rd_T29 t231 1).f0) == 7 && (((rd_T29 t231 1).f1) == 0))) else (none)) else (some false)) else (none)) else (some false)) else (some false)))))) = some r := h
  clear h
  obtain ⟨y228, hy228⟩ : ∃ y_ : List (S32), y_ = (([(⟨1, 0, 7, 0, 0, 1, 0, 1, 0, 0, 0, ([] : List (S80))⟩ : S32), (⟨2, 0, 0, 9, 0, 5, 0, 1, 0, 0, 0, ([] : List (S80))⟩ : S32), (⟨3, 0, 0, 0, 0, 1, 0, 1, 0, 0, 0, ([] : List (S80))⟩ : S32), (⟨4, 0, 0, 0, 0, 9, 0, 2, 0, 0, 0, ([] : List (S80))⟩ : S32)] : List (S32))) := ⟨_, rfl⟩
  replace H : ((order_Asks.f k y228).bind fun t231 => ((order_Order.f k y228).bind fun t234 => ((prebendref01_Ints.f k t234 (([1, 0, 2] : List Int))).bind fun t240 => (if t240 = true then (if (t231.length : Int) = 3 then (if 0 < (t231.length : Int) then (if (((rd_T29 t231 0).f0) == 0 && (((rd_T29 t231 0).f1) == 9)) = true then (if 1 < (t231.length : Int) then (some (((rd_T29 t231 1).f0) == 7 && (((rd_T29 t231 1).f1) == 0))) else (none)) else (some false)) else (none)) else (some false)) else (some false))))) = some r := by first | (rw [hy228]; with_reducible exact H) | (have H2_ := (Option.bind_some _ _).symm.trans H; rw [hy228]; with_reducible exact H2_) | (have H2_ := (Option.bind_some _ _).symm.trans H; with_reducible exact H2_) | with_reducible exact H | (rw [hy228]; exact H) | exact H
  have Ny228 := Aside0.mk hy228
  clear hy228
  replace H := Option.bind_eq_some_iff.mp H
  obtain ⟨t231, A10, H⟩ := H
  replace H : ((order_Order.f k y228).bind fun t234 => ((prebendref01_Ints.f k t234 (([1, 0, 2] : List Int))).bind fun t240 => (if t240 = true then (if (t231.length : Int) = 3 then (if 0 < (t231.length : Int) then (if (((rd_T29 t231 0).f0) == 0 && (((rd_T29 t231 0).f1) == 9)) = true then (if 1 < (t231.length : Int) then (some (((rd_T29 t231 1).f0) == 7 && (((rd_T29 t231 1).f1) == 0))) else (none)) else (some false)) else (none)) else (some false)) else (some false)))) = some r := H
  have A1 := Aside0.mk A10
  clear A10
  replace H := Option.bind_eq_some_iff.mp H
  obtain ⟨t234, A20, H⟩ := H
  replace H : ((prebendref01_Ints.f k t234 (([1, 0, 2] : List Int))).bind fun t240 => (if t240 = true then (if (t231.length : Int) = 3 then (if 0 < (t231.length : Int) then (if (((rd_T29 t231 0).f0) == 0 && (((rd_T29 t231 0).f1) == 9)) = true then (if 1 < (t231.length : Int) then (some (((rd_T29 t231 1).f0) == 7 && (((rd_T29 t231 1).f1) == 0))) else (none)) else (some false)) else (none)) else (some false)) else (some false))) = some r := H
  have A2 := Aside0.mk A20
  clear A20
  obtain ⟨y237, hy237⟩ : ∃ y_ : List Int, y_ = (([1, 0, 2] : List Int)) := ⟨_, rfl⟩
  replace H : ((prebendref01_Ints.f k t234 y237).bind fun t240 => (if t240 = true then (if (t231.length : Int) = 3 then (if 0 < (t231.length : Int) then (if (((rd_T29 t231 0).f0) == 0 && (((rd_T29 t231 0).f1) == 9)) = true then (if 1 < (t231.length : Int) then (some (((rd_T29 t231 1).f0) == 7 && (((rd_T29 t231 1).f1) == 0))) else (none)) else (some false)) else (none)) else (some false)) else (some false))) = some r := by first | (rw [hy237]; with_reducible exact H) | (have H2_ := (Option.bind_some _ _).symm.trans H; rw [hy237]; with_reducible exact H2_) | (have H2_ := (Option.bind_some _ _).symm.trans H; with_reducible exact H2_) | with_reducible exact H | (rw [hy237]; exact H) | exact H
  have Ny237 := Aside0.mk hy237
  clear hy237
  replace H := Option.bind_eq_some_iff.mp H
  obtain ⟨t240, A30, H⟩ := H
  replace H : (if t240 = true then (if (t231.length : Int) = 3 then (if 0 < (t231.length : Int) then (if (((rd_T29 t231 0).f0) == 0 && (((rd_T29 t231 0).f1) == 9)) = true then (if 1 < (t231.length : Int) then (some (((rd_T29 t231 1).f0) == 7 && (((rd_T29 t231 1).f1) == 0))) else (none)) else (some false)) else (none)) else (some false)) else (some false)) = some r := H
  have A3 := Aside0.mk A30
  clear A30
  by_cases c4 : t240 = true
  · subst c4
    have H1 : (if (t231.length : Int) = 3 then (if 0 < (t231.length : Int) then (if (((rd_T29 t231 0).f0) == 0 && (((rd_T29 t231 0).f1) == 9)) = true then (if 1 < (t231.length : Int) then (some (((rd_T29 t231 1).f0) == 7 && (((rd_T29 t231 1).f1) == 0))) else (none)) else (some false)) else (none)) else (some false)) = some r := by rw [if_pos rfl] at H; exact H
    clear H
    have H := H1
    clear H1
    by_cases c5 : (t231.length : Int) = 3
    · rw [if_pos c5] at H
      have c5b0 : ((t231.length : Int) == 3) = true := beq_iff_eq.mpr c5
      have c5b1 : ((t231.length : Int) != 3) = false := bne_eq_false_iff_eq.mpr c5
      clear c5
      by_cases c6 : 0 < (t231.length : Int)
      · rw [if_pos c6] at H
        have c6b0 : decide (0 < (t231.length : Int)) = true := decide_eq_true c6
        have c6b1 : decide (0 < t231.length) = true := decide_eq_true (by omega)
        clear c6
        by_cases c7 : (((rd_T29 t231 0).f0) == 0 && (((rd_T29 t231 0).f1) == 9)) = true
        · rw [if_pos c7] at H
          have c7b0 : (((rd_T29 t231 0).f0) == 0 && (((rd_T29 t231 0).f1) == 9)) = true := c7
          (try (have c7b1 : decide (((rd_T29 t231 0).f0) = 0 && (((rd_T29 t231 0).f1) == 9)) = true := by simpa using c7))
          (try (have c7b2 : (((rd_T29 t231 0).f0) == 0 && (((rd_T29 t231 0).f1) == 9)) = true := by simpa using c7))
          clear c7
          by_cases c8 : 1 < (t231.length : Int)
          · rw [if_pos c8] at H
            have c8b0 : decide (1 < (t231.length : Int)) = true := decide_eq_true c8
            have c8b1 : decide (1 < t231.length) = true := decide_eq_true (by omega)
            clear c8
            obtain rfl := Option.some.inj H
            go_enter Try.func12, Try.ntmps12
            go_wp2_with (first | ((with_reducible refine gate_dst (N := 7) rfl ?_); refine Kd.S_lit k32 _ 32 ?hg (N := 7) ?hd (xs := ([(⟨1, 0, 7, 0, 0, 1, 0, 1, 0, 0, 0, ([] : List (S80))⟩ : S32), (⟨2, 0, 0, 9, 0, 5, 0, 1, 0, 0, 0, ([] : List (S80))⟩ : S32), (⟨3, 0, 0, 0, 0, 1, 0, 1, 0, 0, 0, ([] : List (S80))⟩ : S32), (⟨4, 0, 0, 0, 0, 9, 0, 2, 0, 0, 0, ([] : List (S80))⟩ : S32)] : List (S32))) (inner := [.int .i64 1, .int .i64 0, .int .i64 7, .int .i64 0, .int .i64 0, .int .i64 1, .int .i64 0, .int .i64 1, .int .i64 0, .int .i64 0, .int .i64 0, .slice none 0 0, .int .i64 2, .int .i64 0, .int .i64 0, .int .i64 9, .int .i64 0, .int .i64 5, .int .i64 0, .int .i64 1, .int .i64 0, .int .i64 0, .int .i64 0, .slice none 0 0, .int .i64 3, .int .i64 0, .int .i64 0, .int .i64 0, .int .i64 0, .int .i64 1, .int .i64 0, .int .i64 1, .int .i64 0, .int .i64 0, .int .i64 0, .slice none 0 0, .int .i64 4, .int .i64 0, .int .i64 0, .int .i64 0, .int .i64 0, .int .i64 9, .int .i64 0, .int .i64 2, .int .i64 0, .int .i64 0, .int .i64 0, .slice none 0 0]) (ok := fun _ => True) (okp := fun _ => True) ?hr ?hp (fun _ hk => hk) trivial (Below.refl _ _) (Nat.le_refl _) (by simp) ?_; (case hd => rfl); (case hg => rfl); (case hr => first | (go_simp; done) | (go_simp; rfl)); (case hp => exact (Reps.front (show Kd.M k32 _ _ _ (⟨1, 0, 7, 0, 0, 1, 0, 1, 0, 0, 0, ([] : List (S80))⟩ : S32) [.int .i64 1, .int .i64 0, .int .i64 7, .int .i64 0, .int .i64 0, .int .i64 1, .int .i64 0, .int .i64 1, .int .i64 0, .int .i64 0, .int .i64 0, .slice none 0 0] from (k32_mkM _ _ _ (⟨1, 0, 7, 0, 0, 1, 0, 1, 0, 0, 0, ([] : List (S80))⟩ : S32) (Kd.R_nil _ _ _ _ _))) rfl (Reps.front (show Kd.M k32 _ _ _ (⟨2, 0, 0, 9, 0, 5, 0, 1, 0, 0, 0, ([] : List (S80))⟩ : S32) [.int .i64 2, .int .i64 0, .int .i64 0, .int .i64 9, .int .i64 0, .int .i64 5, .int .i64 0, .int .i64 1, .int .i64 0, .int .i64 0, .int .i64 0, .slice none 0 0] from (k32_mkM _ _ _ (⟨2, 0, 0, 9, 0, 5, 0, 1, 0, 0, 0, ([] : List (S80))⟩ : S32) (Kd.R_nil _ _ _ _ _))) rfl (Reps.front (show Kd.M k32 _ _ _ (⟨3, 0, 0, 0, 0, 1, 0, 1, 0, 0, 0, ([] : List (S80))⟩ : S32) [.int .i64 3, .int .i64 0, .int .i64 0, .int .i64 0, .int .i64 0, .int .i64 1, .int .i64 0, .int .i64 1, .int .i64 0, .int .i64 0, .int .i64 0, .slice none 0 0] from (k32_mkM _ _ _ (⟨3, 0, 0, 0, 0, 1, 0, 1, 0, 0, 0, ([] : List (S80))⟩ : S32) (Kd.R_nil _ _ _ _ _))) rfl (Reps.front (show Kd.M k32 _ _ _ (⟨4, 0, 0, 0, 0, 9, 0, 2, 0, 0, 0, ([] : List (S80))⟩ : S32) [.int .i64 4, .int .i64 0, .int .i64 0, .int .i64 0, .int .i64 0, .int .i64 9, .int .i64 0, .int .i64 2, .int .i64 0, .int .i64 0, .int .i64 0, .slice none 0 0] from (k32_mkM _ _ _ (⟨4, 0, 0, 0, 0, 9, 0, 2, 0, 0, 0, ([] : List (S80))⟩ : S32) (Kd.R_nil _ _ _ _ _))) rfl (Reps.none _ _) rfl) rfl) rfl) rfl)); intro v229 w9 ho10 hb hg_ hnew_; clear hg_ hnew_; (first | rw [← Ny228.out] at ho10 | (simp only [Int.reduceToNat] at ho10; rw [← Ny228.out] at ho10)); have n0_ := Aside0.mk (Kd.S_lower ho10 (below_size (by repeat (first | (with_reducible first | exact HB.out | apply below_alloc | apply pw_below_drewN | apply below_drew1) | exact HB.out)))); have n1_ := Aside0.mk (below_step (by repeat (first | (with_reducible first | exact HB.out | apply below_alloc | apply pw_below_drewN | apply below_drew1) | exact HB.out)) hb); clear HB; have HO230 := n0_; have HB := n1_; clear n0_ n1_; clear hb ho10; obtain ⟨Ao11, co11, eo11⟩ := Kd.S_slice HO230.out; subst eo11) | ((with_reducible refine gate_callee (f := 11) rfl ?_); refine goesL_ (some 9) rfl rfl Try.func11 (by kernel_rfl) rfl #[.slice Ao11 y228.length co11] rfl (by (try simp only [List.map_toArray, List.map_cons, List.map_nil]); first | done | rfl | (simp only [List.length_drop, List.length_take]; rfl)) ?_; (with_reducible refine (order_Asks.calls k _ _ y228 t231 _ ?side1 ?side2 A1.out).mono ?_); (case side1 => repeat (first | exact (Kd.S_reads' HO230.out).2.2 | (with_reducible refine Kd.C_alloc ?_ _) | (with_reducible refine Kd.C_drewN ?_ _) | (with_reducible refine Kd.C_drew ?_))); (case side2 => exact (Kd.S_reads' HO230.out).2.1); rintro e w12 ⟨v232, rfl, ho0, hb⟩; refine ⟨_, rfl, ?_⟩; have n0_ := Aside0.mk (Kd.S_below (by (with_reducible repeat (first | apply Kd.S_alloc | apply Kd.S_drewN | apply Kd.S_drew)); exact HO230.out) hb); have n1_ := Aside0.mk (Kd.V_lower (Kd.V_mono (ok' := fun k_ => some k_ ≠ (.slice Ao11 y228.length co11 : Value).ownBlock) ho0 (fun k_ hk_ => (Kd.fresh' (Kd.S_lt (by (with_reducible repeat (first | apply Kd.S_alloc | apply Kd.S_drewN | apply Kd.S_drew)); exact HO230.out)) k_ hk_))) (below_size (by repeat (first | (with_reducible first | exact HB.out | apply below_alloc | apply pw_below_drewN | apply below_drew1) | exact HB.out)))); have n2_ := Aside0.mk (below_step (by repeat (first | (with_reducible first | exact HB.out | apply below_alloc | apply pw_below_drewN | apply below_drew1) | exact HB.out)) hb); clear HO230; clear HB; have HO230 := n0_; have HO233 := n1_; have HB := n2_; clear n0_ n1_ n2_; (try clear hb); (try clear hb2); (try clear hk); (try clear hi); (try clear ho0)) | ((with_reducible refine gate_callee (f := 14) rfl ?_); refine goesL_ (some 11) rfl rfl Try.func14 (by kernel_rfl) rfl #[.slice Ao11 y228.length co11] rfl (by (try simp only [List.map_toArray, List.map_cons, List.map_nil]); first | done | rfl | (simp only [List.length_drop, List.length_take]; rfl)) ?_; (with_reducible refine (order_Order.calls k _ _ y228 t234 _ ?side1 ?side2 A2.out).mono ?_); (case side1 => repeat (first | exact (Kd.S_reads' HO230.out).2.2 | (with_reducible refine Kd.C_alloc ?_ _) | (with_reducible refine Kd.C_drewN ?_ _) | (with_reducible refine Kd.C_drew ?_))); (case side2 => exact (Kd.S_reads' HO230.out).2.1); rintro e w13 ⟨v235, rfl, ho0, hb⟩; refine ⟨_, rfl, ?_⟩; have n0_ := Aside0.mk (Kd.S_below (by (with_reducible repeat (first | apply Kd.S_alloc | apply Kd.S_drewN | apply Kd.S_drew)); exact HO230.out) hb); have n1_ := Aside0.mk (Kd.V_below (by (with_reducible repeat (first | apply Kd.V_alloc | apply Kd.V_drewN | apply Kd.V_drew)); exact HO233.out) hb); have n2_ := Aside0.mk (Kd.V_lower (Kd.V_mono (ok' := fun k_ => some k_ ≠ (.slice Ao11 y228.length co11 : Value).ownBlock) ho0 (fun k_ hk_ => (Kd.fresh' (Kd.S_lt (by (with_reducible repeat (first | apply Kd.S_alloc | apply Kd.S_drewN | apply Kd.S_drew)); exact HO230.out)) k_ hk_))) (below_size (by repeat (first | (with_reducible first | exact HB.out | apply below_alloc | apply pw_below_drewN | apply below_drew1) | exact HB.out)))); have n3_ := Aside0.mk (below_step (by repeat (first | (with_reducible first | exact HB.out | apply below_alloc | apply pw_below_drewN | apply below_drew1) | exact HB.out)) hb); clear HO230; clear HO233; clear HB; have HO230 := n0_; have HO233 := n1_; have HO236 := n2_; have HB := n3_; clear n0_ n1_ n2_ n3_; (try clear hb); (try clear hb2); (try clear hk); (try clear hi); (try clear ho0)) | ((with_reducible refine gate_dst (N := 12) rfl ?_); refine Kd.R_lit (Kd.int .i64) _ 3 ?hg (N := 12) ?hd (xs := ([1, 0, 2] : List Int)) (inner := [.int .i64 1, .int .i64 0, .int .i64 2]) (ok := fun _ => True) (okp := fun _ => True) ?hr ?hp (fun _ hk => hk) trivial (Below.refl _ _) (Nat.le_refl _) (by simp) ?_; (case hd => rfl); (case hg => rfl); (case hr => first | (go_simp; done) | (go_simp; rfl)); (case hp => exact (Reps.one (show Kd.M (Kd.int .i64) _ _ _ 1 [.int .i64 1] from rfl) (Reps.one (show Kd.M (Kd.int .i64) _ _ _ 0 [.int .i64 0] from rfl) (Reps.one (show Kd.M (Kd.int .i64) _ _ _ 2 [.int .i64 2] from rfl) (Reps.none _ _))))); intro v238 w14 ho15 hb hg_ hnew_; clear hg_ hnew_; (first | rw [← Ny237.out] at ho15 | (simp only [Int.reduceToNat] at ho15; rw [← Ny237.out] at ho15)); have n0_ := Aside0.mk (Kd.S_below (by (with_reducible repeat (first | apply Kd.S_alloc | apply Kd.S_drewN | apply Kd.S_drew)); exact HO230.out) hb); have n1_ := Aside0.mk (Kd.V_elder' (by (with_reducible repeat (first | apply Kd.V_alloc | apply Kd.V_drewN | apply Kd.V_drew)); exact HO233.out) (Kd.R_base ho15) hb); have n2_ := Aside0.mk (Kd.V_elder' (by (with_reducible repeat (first | apply Kd.V_alloc | apply Kd.V_drewN | apply Kd.V_drew)); exact HO236.out) (Kd.R_base ho15) hb); have n3_ := Aside0.mk (Kd.R_lower ho15 (below_size (by repeat (first | (with_reducible first | exact HB.out | apply below_alloc | apply pw_below_drewN | apply below_drew1) | exact HB.out)))); have n4_ := Aside0.mk (below_step (by repeat (first | (with_reducible first | exact HB.out | apply below_alloc | apply pw_below_drewN | apply below_drew1) | exact HB.out)) hb); clear HO230; clear HO233; clear HO236; clear HB; have HO230 := n0_; have HO233 := n1_; have HO236 := n2_; have HO239 := n3_; have HB := n4_; clear n0_ n1_ n2_ n3_ n4_; clear hb ho15; obtain ⟨Ao16, co16, eo16⟩ := Kd.V_slice HO236.out; subst eo16; obtain ⟨Ao17, co17, eo17⟩ := Kd.R_slice HO239.out; subst eo17) | ((with_reducible refine gate_callee (f := 13) rfl ?_); refine goesL_ (some 13) rfl rfl Try.func13 (by kernel_rfl) rfl #[.slice Ao16 t234.length co16, .slice Ao17 y237.length co17] rfl (by (try simp only [List.map_toArray, List.map_cons, List.map_nil]); first | done | rfl | (simp only [List.length_drop, List.length_take]; rfl)) ?_; (with_reducible refine (prebendref01_Ints.calls k _ _ t234 _ _ y237 true _ ?side1 ?side2 ?side3 ?side4 A3.out).mono ?_); (case side1 => repeat (first | exact (Kd.V_reads' HO236.out).2.2 | (with_reducible refine Kd.C_alloc ?_ _) | (with_reducible refine Kd.C_drewN ?_ _) | (with_reducible refine Kd.C_drew ?_))); (case side2 => exact (Kd.V_reads' HO236.out).2.1); (case side3 => repeat (first | exact (Kd.R_reads' HO239.out).2.2 | (with_reducible refine Kd.C_alloc ?_ _) | (with_reducible refine Kd.C_drewN ?_ _) | (with_reducible refine Kd.C_drew ?_))); (case side4 => exact (Kd.R_reads' HO239.out).2.1); rintro e w' ⟨rfl, ⟨nd, rfl⟩⟩; refine ⟨_, rfl, ?_⟩; obtain ⟨Ao18, co18, eo18⟩ := Kd.V_slice HO233.out; subst eo18; have p241 : 0 ≤ (0 : Int) := (by omega); have q241 : 0 < (t231.length : Int) := of_decide_eq_true (by first | (with_reducible assumption) | assumption); obtain ⟨ad241, e241, hx241_0, hx241_1⟩ := at_T29 (Kd.V_reads' HO233.out).2.2 0 p241 q241; cases e241; have qi241 : (0 < t231.length) = True := eq_true (by omega); (try rw [show ((0 : Int)).toNat = 0 from rfl] at hx241_0); (try rw [show 0 * 2 = 0 from rfl] at hx241_0); (try rw [Addr.add_zero'] at hx241_0); (try rw [show ((0 : Int)).toNat = 0 from rfl] at hx241_1); (try rw [show 0 * 2 = 0 from rfl] at hx241_1); (try rw [Addr.add_zero'] at hx241_1); replace p241 := eq_true p241; replace q241 := eq_true q241; have p242 : 0 ≤ (1 : Int) := (by omega); have q242 : 1 < (t231.length : Int) := of_decide_eq_true (by first | (with_reducible assumption) | assumption); obtain ⟨ad242, e242, hx242_0, hx242_1⟩ := at_T29 (Kd.V_reads' HO233.out).2.2 1 p242 q242; obtain rfl : ad241 = ad242 := (by injection e242); (try simp only [show (1 : Int).toNat = 1 from rfl, Nat.reduceMul, Nat.reduceEqDiff, Go.Addr.add, ↓reduceIte] at hx242_0); (try simp only [show (1 : Int).toNat = 1 from rfl, Nat.reduceMul, Nat.reduceEqDiff, Go.Addr.add, ↓reduceIte] at hx242_1); have qi242 : (1 < t231.length) = True := eq_true (by omega); (try rw [show ((1 : Int)).toNat = 1 from rfl] at hx242_0); (try rw [show 1 * 2 = 2 from rfl] at hx242_0); (try rw [show ((1 : Int)).toNat = 1 from rfl] at hx242_1); (try rw [show 1 * 2 = 2 from rfl] at hx242_1); replace p242 := eq_true p242; replace q242 := eq_true q242))
            go_ret
            exact ⟨by first | rfl | (simp [errW_none, errW_some] <;> rfl) | (simp [*, errW_none, errW_some] <;> rfl), by repeat (first | (with_reducible first | exact HB.out | apply below_alloc | apply pw_below_drewN | apply below_drew1) | exact HB.out)⟩
          · rw [if_neg c8] at H
            exact absurd H (by simp)
        · rw [if_neg c7] at H
          have c7b0 : (((rd_T29 t231 0).f0) == 0 && (((rd_T29 t231 0).f1) == 9)) = false := by simpa using c7
          (try (have c7b1 : decide (((rd_T29 t231 0).f0) = 0 && (((rd_T29 t231 0).f1) == 9)) = false := by simpa using c7))
          (try (have c7b2 : (((rd_T29 t231 0).f0) == 0 && (((rd_T29 t231 0).f1) == 9)) = false := by simpa using c7))
          (try (have c7b3 : ¬ (((rd_T29 t231 0).f0) = 0 && (((rd_T29 t231 0).f1) == 9)) := by simpa using c7))
          clear c7
          obtain rfl := Option.some.inj H
          go_enter Try.func12, Try.ntmps12
          go_wp2_with (first | ((with_reducible refine gate_dst (N := 7) rfl ?_); refine Kd.S_lit k32 _ 32 ?hg (N := 7) ?hd (xs := ([(⟨1, 0, 7, 0, 0, 1, 0, 1, 0, 0, 0, ([] : List (S80))⟩ : S32), (⟨2, 0, 0, 9, 0, 5, 0, 1, 0, 0, 0, ([] : List (S80))⟩ : S32), (⟨3, 0, 0, 0, 0, 1, 0, 1, 0, 0, 0, ([] : List (S80))⟩ : S32), (⟨4, 0, 0, 0, 0, 9, 0, 2, 0, 0, 0, ([] : List (S80))⟩ : S32)] : List (S32))) (inner := [.int .i64 1, .int .i64 0, .int .i64 7, .int .i64 0, .int .i64 0, .int .i64 1, .int .i64 0, .int .i64 1, .int .i64 0, .int .i64 0, .int .i64 0, .slice none 0 0, .int .i64 2, .int .i64 0, .int .i64 0, .int .i64 9, .int .i64 0, .int .i64 5, .int .i64 0, .int .i64 1, .int .i64 0, .int .i64 0, .int .i64 0, .slice none 0 0, .int .i64 3, .int .i64 0, .int .i64 0, .int .i64 0, .int .i64 0, .int .i64 1, .int .i64 0, .int .i64 1, .int .i64 0, .int .i64 0, .int .i64 0, .slice none 0 0, .int .i64 4, .int .i64 0, .int .i64 0, .int .i64 0, .int .i64 0, .int .i64 9, .int .i64 0, .int .i64 2, .int .i64 0, .int .i64 0, .int .i64 0, .slice none 0 0]) (ok := fun _ => True) (okp := fun _ => True) ?hr ?hp (fun _ hk => hk) trivial (Below.refl _ _) (Nat.le_refl _) (by simp) ?_; (case hd => rfl); (case hg => rfl); (case hr => first | (go_simp; done) | (go_simp; rfl)); (case hp => exact (Reps.front (show Kd.M k32 _ _ _ (⟨1, 0, 7, 0, 0, 1, 0, 1, 0, 0, 0, ([] : List (S80))⟩ : S32) [.int .i64 1, .int .i64 0, .int .i64 7, .int .i64 0, .int .i64 0, .int .i64 1, .int .i64 0, .int .i64 1, .int .i64 0, .int .i64 0, .int .i64 0, .slice none 0 0] from (k32_mkM _ _ _ (⟨1, 0, 7, 0, 0, 1, 0, 1, 0, 0, 0, ([] : List (S80))⟩ : S32) (Kd.R_nil _ _ _ _ _))) rfl (Reps.front (show Kd.M k32 _ _ _ (⟨2, 0, 0, 9, 0, 5, 0, 1, 0, 0, 0, ([] : List (S80))⟩ : S32) [.int .i64 2, .int .i64 0, .int .i64 0, .int .i64 9, .int .i64 0, .int .i64 5, .int .i64 0, .int .i64 1, .int .i64 0, .int .i64 0, .int .i64 0, .slice none 0 0] from (k32_mkM _ _ _ (⟨2, 0, 0, 9, 0, 5, 0, 1, 0, 0, 0, ([] : List (S80))⟩ : S32) (Kd.R_nil _ _ _ _ _))) rfl (Reps.front (show Kd.M k32 _ _ _ (⟨3, 0, 0, 0, 0, 1, 0, 1, 0, 0, 0, ([] : List (S80))⟩ : S32) [.int .i64 3, .int .i64 0, .int .i64 0, .int .i64 0, .int .i64 0, .int .i64 1, .int .i64 0, .int .i64 1, .int .i64 0, .int .i64 0, .int .i64 0, .slice none 0 0] from (k32_mkM _ _ _ (⟨3, 0, 0, 0, 0, 1, 0, 1, 0, 0, 0, ([] : List (S80))⟩ : S32) (Kd.R_nil _ _ _ _ _))) rfl (Reps.front (show Kd.M k32 _ _ _ (⟨4, 0, 0, 0, 0, 9, 0, 2, 0, 0, 0, ([] : List (S80))⟩ : S32) [.int .i64 4, .int .i64 0, .int .i64 0, .int .i64 0, .int .i64 0, .int .i64 9, .int .i64 0, .int .i64 2, .int .i64 0, .int .i64 0, .int .i64 0, .slice none 0 0] from (k32_mkM _ _ _ (⟨4, 0, 0, 0, 0, 9, 0, 2, 0, 0, 0, ([] : List (S80))⟩ : S32) (Kd.R_nil _ _ _ _ _))) rfl (Reps.none _ _) rfl) rfl) rfl) rfl)); intro v229 w19 ho20 hb hg_ hnew_; clear hg_ hnew_; (first | rw [← Ny228.out] at ho20 | (simp only [Int.reduceToNat] at ho20; rw [← Ny228.out] at ho20)); have n0_ := Aside0.mk (Kd.S_lower ho20 (below_size (by repeat (first | (with_reducible first | exact HB.out | apply below_alloc | apply pw_below_drewN | apply below_drew1) | exact HB.out)))); have n1_ := Aside0.mk (below_step (by repeat (first | (with_reducible first | exact HB.out | apply below_alloc | apply pw_below_drewN | apply below_drew1) | exact HB.out)) hb); clear HB; have HO230 := n0_; have HB := n1_; clear n0_ n1_; clear hb ho20; obtain ⟨Ao21, co21, eo21⟩ := Kd.S_slice HO230.out; subst eo21) | ((with_reducible refine gate_callee (f := 11) rfl ?_); refine goesL_ (some 9) rfl rfl Try.func11 (by kernel_rfl) rfl #[.slice Ao21 y228.length co21] rfl (by (try simp only [List.map_toArray, List.map_cons, List.map_nil]); first | done | rfl | (simp only [List.length_drop, List.length_take]; rfl)) ?_; (with_reducible refine (order_Asks.calls k _ _ y228 t231 _ ?side1 ?side2 A1.out).mono ?_); (case side1 => repeat (first | exact (Kd.S_reads' HO230.out).2.2 | (with_reducible refine Kd.C_alloc ?_ _) | (with_reducible refine Kd.C_drewN ?_ _) | (with_reducible refine Kd.C_drew ?_))); (case side2 => exact (Kd.S_reads' HO230.out).2.1); rintro e w22 ⟨v232, rfl, ho0, hb⟩; refine ⟨_, rfl, ?_⟩; have n0_ := Aside0.mk (Kd.S_below (by (with_reducible repeat (first | apply Kd.S_alloc | apply Kd.S_drewN | apply Kd.S_drew)); exact HO230.out) hb); have n1_ := Aside0.mk (Kd.V_lower (Kd.V_mono (ok' := fun k_ => some k_ ≠ (.slice Ao21 y228.length co21 : Value).ownBlock) ho0 (fun k_ hk_ => (Kd.fresh' (Kd.S_lt (by (with_reducible repeat (first | apply Kd.S_alloc | apply Kd.S_drewN | apply Kd.S_drew)); exact HO230.out)) k_ hk_))) (below_size (by repeat (first | (with_reducible first | exact HB.out | apply below_alloc | apply pw_below_drewN | apply below_drew1) | exact HB.out)))); have n2_ := Aside0.mk (below_step (by repeat (first | (with_reducible first | exact HB.out | apply below_alloc | apply pw_below_drewN | apply below_drew1) | exact HB.out)) hb); clear HO230; clear HB; have HO230 := n0_; have HO233 := n1_; have HB := n2_; clear n0_ n1_ n2_; (try clear hb); (try clear hb2); (try clear hk); (try clear hi); (try clear ho0)) | ((with_reducible refine gate_callee (f := 14) rfl ?_); refine goesL_ (some 11) rfl rfl Try.func14 (by kernel_rfl) rfl #[.slice Ao21 y228.length co21] rfl (by (try simp only [List.map_toArray, List.map_cons, List.map_nil]); first | done | rfl | (simp only [List.length_drop, List.length_take]; rfl)) ?_; (with_reducible refine (order_Order.calls k _ _ y228 t234 _ ?side1 ?side2 A2.out).mono ?_); (case side1 => repeat (first | exact (Kd.S_reads' HO230.out).2.2 | (with_reducible refine Kd.C_alloc ?_ _) | (with_reducible refine Kd.C_drewN ?_ _) | (with_reducible refine Kd.C_drew ?_))); (case side2 => exact (Kd.S_reads' HO230.out).2.1); rintro e w23 ⟨v235, rfl, ho0, hb⟩; refine ⟨_, rfl, ?_⟩; have n0_ := Aside0.mk (Kd.S_below (by (with_reducible repeat (first | apply Kd.S_alloc | apply Kd.S_drewN | apply Kd.S_drew)); exact HO230.out) hb); have n1_ := Aside0.mk (Kd.V_below (by (with_reducible repeat (first | apply Kd.V_alloc | apply Kd.V_drewN | apply Kd.V_drew)); exact HO233.out) hb); have n2_ := Aside0.mk (Kd.V_lower (Kd.V_mono (ok' := fun k_ => some k_ ≠ (.slice Ao21 y228.length co21 : Value).ownBlock) ho0 (fun k_ hk_ => (Kd.fresh' (Kd.S_lt (by (with_reducible repeat (first | apply Kd.S_alloc | apply Kd.S_drewN | apply Kd.S_drew)); exact HO230.out)) k_ hk_))) (below_size (by repeat (first | (with_reducible first | exact HB.out | apply below_alloc | apply pw_below_drewN | apply below_drew1) | exact HB.out)))); have n3_ := Aside0.mk (below_step (by repeat (first | (with_reducible first | exact HB.out | apply below_alloc | apply pw_below_drewN | apply below_drew1) | exact HB.out)) hb); clear HO230; clear HO233; clear HB; have HO230 := n0_; have HO233 := n1_; have HO236 := n2_; have HB := n3_; clear n0_ n1_ n2_ n3_; (try clear hb); (try clear hb2); (try clear hk); (try clear hi); (try clear ho0)) | ((with_reducible refine gate_dst (N := 12) rfl ?_); refine Kd.R_lit (Kd.int .i64) _ 3 ?hg (N := 12) ?hd (xs := ([1, 0, 2] : List Int)) (inner := [.int .i64 1, .int .i64 0, .int .i64 2]) (ok := fun _ => True) (okp := fun _ => True) ?hr ?hp (fun _ hk => hk) trivial (Below.refl _ _) (Nat.le_refl _) (by simp) ?_; (case hd => rfl); (case hg => rfl); (case hr => first | (go_simp; done) | (go_simp; rfl)); (case hp => exact (Reps.one (show Kd.M (Kd.int .i64) _ _ _ 1 [.int .i64 1] from rfl) (Reps.one (show Kd.M (Kd.int .i64) _ _ _ 0 [.int .i64 0] from rfl) (Reps.one (show Kd.M (Kd.int .i64) _ _ _ 2 [.int .i64 2] from rfl) (Reps.none _ _))))); intro v238 w24 ho25 hb hg_ hnew_; clear hg_ hnew_; (first | rw [← Ny237.out] at ho25 | (simp only [Int.reduceToNat] at ho25; rw [← Ny237.out] at ho25)); have n0_ := Aside0.mk (Kd.S_below (by (with_reducible repeat (first | apply Kd.S_alloc | apply Kd.S_drewN | apply Kd.S_drew)); exact HO230.out) hb); have n1_ := Aside0.mk (Kd.V_elder' (by (with_reducible repeat (first | apply Kd.V_alloc | apply Kd.V_drewN | apply Kd.V_drew)); exact HO233.out) (Kd.R_base ho25) hb); have n2_ := Aside0.mk (Kd.V_elder' (by (with_reducible repeat (first | apply Kd.V_alloc | apply Kd.V_drewN | apply Kd.V_drew)); exact HO236.out) (Kd.R_base ho25) hb); have n3_ := Aside0.mk (Kd.R_lower ho25 (below_size (by repeat (first | (with_reducible first | exact HB.out | apply below_alloc | apply pw_below_drewN | apply below_drew1) | exact HB.out)))); have n4_ := Aside0.mk (below_step (by repeat (first | (with_reducible first | exact HB.out | apply below_alloc | apply pw_below_drewN | apply below_drew1) | exact HB.out)) hb); clear HO230; clear HO233; clear HO236; clear HB; have HO230 := n0_; have HO233 := n1_; have HO236 := n2_; have HO239 := n3_; have HB := n4_; clear n0_ n1_ n2_ n3_ n4_; clear hb ho25; obtain ⟨Ao26, co26, eo26⟩ := Kd.V_slice HO236.out; subst eo26; obtain ⟨Ao27, co27, eo27⟩ := Kd.R_slice HO239.out; subst eo27) | ((with_reducible refine gate_callee (f := 13) rfl ?_); refine goesL_ (some 13) rfl rfl Try.func13 (by kernel_rfl) rfl #[.slice Ao26 t234.length co26, .slice Ao27 y237.length co27] rfl (by (try simp only [List.map_toArray, List.map_cons, List.map_nil]); first | done | rfl | (simp only [List.length_drop, List.length_take]; rfl)) ?_; (with_reducible refine (prebendref01_Ints.calls k _ _ t234 _ _ y237 true _ ?side1 ?side2 ?side3 ?side4 A3.out).mono ?_); (case side1 => repeat (first | exact (Kd.V_reads' HO236.out).2.2 | (with_reducible refine Kd.C_alloc ?_ _) | (with_reducible refine Kd.C_drewN ?_ _) | (with_reducible refine Kd.C_drew ?_))); (case side2 => exact (Kd.V_reads' HO236.out).2.1); (case side3 => repeat (first | exact (Kd.R_reads' HO239.out).2.2 | (with_reducible refine Kd.C_alloc ?_ _) | (with_reducible refine Kd.C_drewN ?_ _) | (with_reducible refine Kd.C_drew ?_))); (case side4 => exact (Kd.R_reads' HO239.out).2.1); rintro e w' ⟨rfl, ⟨nd, rfl⟩⟩; refine ⟨_, rfl, ?_⟩; obtain ⟨Ao28, co28, eo28⟩ := Kd.V_slice HO233.out; subst eo28; have p241 : 0 ≤ (0 : Int) := (by omega); have q241 : 0 < (t231.length : Int) := of_decide_eq_true (by first | (with_reducible assumption) | assumption); obtain ⟨ad241, e241, hx241_0, hx241_1⟩ := at_T29 (Kd.V_reads' HO233.out).2.2 0 p241 q241; cases e241; have qi241 : (0 < t231.length) = True := eq_true (by omega); (try rw [show ((0 : Int)).toNat = 0 from rfl] at hx241_0); (try rw [show 0 * 2 = 0 from rfl] at hx241_0); (try rw [Addr.add_zero'] at hx241_0); (try rw [show ((0 : Int)).toNat = 0 from rfl] at hx241_1); (try rw [show 0 * 2 = 0 from rfl] at hx241_1); (try rw [Addr.add_zero'] at hx241_1); replace p241 := eq_true p241; replace q241 := eq_true q241))
          go_ret
          exact ⟨by first | rfl | (simp [errW_none, errW_some] <;> rfl) | (simp [*, errW_none, errW_some] <;> rfl), by repeat (first | (with_reducible first | exact HB.out | apply below_alloc | apply pw_below_drewN | apply below_drew1) | exact HB.out)⟩
      · rw [if_neg c6] at H
        exact absurd H (by simp)
    · rw [if_neg c5] at H
      have c5b0 : ((t231.length : Int) == 3) = false := beq_eq_false_iff_ne.mpr c5
      have c5b1 : ((t231.length : Int) != 3) = true := bne_iff_ne.mpr c5
      obtain rfl := Option.some.inj H
      go_enter Try.func12, Try.ntmps12
      go_wp2_with (first | ((with_reducible refine gate_dst (N := 7) rfl ?_); refine Kd.S_lit k32 _ 32 ?hg (N := 7) ?hd (xs := ([(⟨1, 0, 7, 0, 0, 1, 0, 1, 0, 0, 0, ([] : List (S80))⟩ : S32), (⟨2, 0, 0, 9, 0, 5, 0, 1, 0, 0, 0, ([] : List (S80))⟩ : S32), (⟨3, 0, 0, 0, 0, 1, 0, 1, 0, 0, 0, ([] : List (S80))⟩ : S32), (⟨4, 0, 0, 0, 0, 9, 0, 2, 0, 0, 0, ([] : List (S80))⟩ : S32)] : List (S32))) (inner := [.int .i64 1, .int .i64 0, .int .i64 7, .int .i64 0, .int .i64 0, .int .i64 1, .int .i64 0, .int .i64 1, .int .i64 0, .int .i64 0, .int .i64 0, .slice none 0 0, .int .i64 2, .int .i64 0, .int .i64 0, .int .i64 9, .int .i64 0, .int .i64 5, .int .i64 0, .int .i64 1, .int .i64 0, .int .i64 0, .int .i64 0, .slice none 0 0, .int .i64 3, .int .i64 0, .int .i64 0, .int .i64 0, .int .i64 0, .int .i64 1, .int .i64 0, .int .i64 1, .int .i64 0, .int .i64 0, .int .i64 0, .slice none 0 0, .int .i64 4, .int .i64 0, .int .i64 0, .int .i64 0, .int .i64 0, .int .i64 9, .int .i64 0, .int .i64 2, .int .i64 0, .int .i64 0, .int .i64 0, .slice none 0 0]) (ok := fun _ => True) (okp := fun _ => True) ?hr ?hp (fun _ hk => hk) trivial (Below.refl _ _) (Nat.le_refl _) (by simp) ?_; (case hd => rfl); (case hg => rfl); (case hr => first | (go_simp; done) | (go_simp; rfl)); (case hp => exact (Reps.front (show Kd.M k32 _ _ _ (⟨1, 0, 7, 0, 0, 1, 0, 1, 0, 0, 0, ([] : List (S80))⟩ : S32) [.int .i64 1, .int .i64 0, .int .i64 7, .int .i64 0, .int .i64 0, .int .i64 1, .int .i64 0, .int .i64 1, .int .i64 0, .int .i64 0, .int .i64 0, .slice none 0 0] from (k32_mkM _ _ _ (⟨1, 0, 7, 0, 0, 1, 0, 1, 0, 0, 0, ([] : List (S80))⟩ : S32) (Kd.R_nil _ _ _ _ _))) rfl (Reps.front (show Kd.M k32 _ _ _ (⟨2, 0, 0, 9, 0, 5, 0, 1, 0, 0, 0, ([] : List (S80))⟩ : S32) [.int .i64 2, .int .i64 0, .int .i64 0, .int .i64 9, .int .i64 0, .int .i64 5, .int .i64 0, .int .i64 1, .int .i64 0, .int .i64 0, .int .i64 0, .slice none 0 0] from (k32_mkM _ _ _ (⟨2, 0, 0, 9, 0, 5, 0, 1, 0, 0, 0, ([] : List (S80))⟩ : S32) (Kd.R_nil _ _ _ _ _))) rfl (Reps.front (show Kd.M k32 _ _ _ (⟨3, 0, 0, 0, 0, 1, 0, 1, 0, 0, 0, ([] : List (S80))⟩ : S32) [.int .i64 3, .int .i64 0, .int .i64 0, .int .i64 0, .int .i64 0, .int .i64 1, .int .i64 0, .int .i64 1, .int .i64 0, .int .i64 0, .int .i64 0, .slice none 0 0] from (k32_mkM _ _ _ (⟨3, 0, 0, 0, 0, 1, 0, 1, 0, 0, 0, ([] : List (S80))⟩ : S32) (Kd.R_nil _ _ _ _ _))) rfl (Reps.front (show Kd.M k32 _ _ _ (⟨4, 0, 0, 0, 0, 9, 0, 2, 0, 0, 0, ([] : List (S80))⟩ : S32) [.int .i64 4, .int .i64 0, .int .i64 0, .int .i64 0, .int .i64 0, .int .i64 9, .int .i64 0, .int .i64 2, .int .i64 0, .int .i64 0, .int .i64 0, .slice none 0 0] from (k32_mkM _ _ _ (⟨4, 0, 0, 0, 0, 9, 0, 2, 0, 0, 0, ([] : List (S80))⟩ : S32) (Kd.R_nil _ _ _ _ _))) rfl (Reps.none _ _) rfl) rfl) rfl) rfl)); intro v229 w29 ho30 hb hg_ hnew_; clear hg_ hnew_; (first | rw [← Ny228.out] at ho30 | (simp only [Int.reduceToNat] at ho30; rw [← Ny228.out] at ho30)); have n0_ := Aside0.mk (Kd.S_lower ho30 (below_size (by repeat (first | (with_reducible first | exact HB.out | apply below_alloc | apply pw_below_drewN | apply below_drew1) | exact HB.out)))); have n1_ := Aside0.mk (below_step (by repeat (first | (with_reducible first | exact HB.out | apply below_alloc | apply pw_below_drewN | apply below_drew1) | exact HB.out)) hb); clear HB; have HO230 := n0_; have HB := n1_; clear n0_ n1_; clear hb ho30; obtain ⟨Ao31, co31, eo31⟩ := Kd.S_slice HO230.out; subst eo31) | ((with_reducible refine gate_callee (f := 11) rfl ?_); refine goesL_ (some 9) rfl rfl Try.func11 (by kernel_rfl) rfl #[.slice Ao31 y228.length co31] rfl (by (try simp only [List.map_toArray, List.map_cons, List.map_nil]); first | done | rfl | (simp only [List.length_drop, List.length_take]; rfl)) ?_; (with_reducible refine (order_Asks.calls k _ _ y228 t231 _ ?side1 ?side2 A1.out).mono ?_); (case side1 => repeat (first | exact (Kd.S_reads' HO230.out).2.2 | (with_reducible refine Kd.C_alloc ?_ _) | (with_reducible refine Kd.C_drewN ?_ _) | (with_reducible refine Kd.C_drew ?_))); (case side2 => exact (Kd.S_reads' HO230.out).2.1); rintro e w32 ⟨v232, rfl, ho0, hb⟩; refine ⟨_, rfl, ?_⟩; have n0_ := Aside0.mk (Kd.S_below (by (with_reducible repeat (first | apply Kd.S_alloc | apply Kd.S_drewN | apply Kd.S_drew)); exact HO230.out) hb); have n1_ := Aside0.mk (Kd.V_lower (Kd.V_mono (ok' := fun k_ => some k_ ≠ (.slice Ao31 y228.length co31 : Value).ownBlock) ho0 (fun k_ hk_ => (Kd.fresh' (Kd.S_lt (by (with_reducible repeat (first | apply Kd.S_alloc | apply Kd.S_drewN | apply Kd.S_drew)); exact HO230.out)) k_ hk_))) (below_size (by repeat (first | (with_reducible first | exact HB.out | apply below_alloc | apply pw_below_drewN | apply below_drew1) | exact HB.out)))); have n2_ := Aside0.mk (below_step (by repeat (first | (with_reducible first | exact HB.out | apply below_alloc | apply pw_below_drewN | apply below_drew1) | exact HB.out)) hb); clear HO230; clear HB; have HO230 := n0_; have HO233 := n1_; have HB := n2_; clear n0_ n1_ n2_; (try clear hb); (try clear hb2); (try clear hk); (try clear hi); (try clear ho0)) | ((with_reducible refine gate_callee (f := 14) rfl ?_); refine goesL_ (some 11) rfl rfl Try.func14 (by kernel_rfl) rfl #[.slice Ao31 y228.length co31] rfl (by (try simp only [List.map_toArray, List.map_cons, List.map_nil]); first | done | rfl | (simp only [List.length_drop, List.length_take]; rfl)) ?_; (with_reducible refine (order_Order.calls k _ _ y228 t234 _ ?side1 ?side2 A2.out).mono ?_); (case side1 => repeat (first | exact (Kd.S_reads' HO230.out).2.2 | (with_reducible refine Kd.C_alloc ?_ _) | (with_reducible refine Kd.C_drewN ?_ _) | (with_reducible refine Kd.C_drew ?_))); (case side2 => exact (Kd.S_reads' HO230.out).2.1); rintro e w33 ⟨v235, rfl, ho0, hb⟩; refine ⟨_, rfl, ?_⟩; have n0_ := Aside0.mk (Kd.S_below (by (with_reducible repeat (first | apply Kd.S_alloc | apply Kd.S_drewN | apply Kd.S_drew)); exact HO230.out) hb); have n1_ := Aside0.mk (Kd.V_below (by (with_reducible repeat (first | apply Kd.V_alloc | apply Kd.V_drewN | apply Kd.V_drew)); exact HO233.out) hb); have n2_ := Aside0.mk (Kd.V_lower (Kd.V_mono (ok' := fun k_ => some k_ ≠ (.slice Ao31 y228.length co31 : Value).ownBlock) ho0 (fun k_ hk_ => (Kd.fresh' (Kd.S_lt (by (with_reducible repeat (first | apply Kd.S_alloc | apply Kd.S_drewN | apply Kd.S_drew)); exact HO230.out)) k_ hk_))) (below_size (by repeat (first | (with_reducible first | exact HB.out | apply below_alloc | apply pw_below_drewN | apply below_drew1) | exact HB.out)))); have n3_ := Aside0.mk (below_step (by repeat (first | (with_reducible first | exact HB.out | apply below_alloc | apply pw_below_drewN | apply below_drew1) | exact HB.out)) hb); clear HO230; clear HO233; clear HB; have HO230 := n0_; have HO233 := n1_; have HO236 := n2_; have HB := n3_; clear n0_ n1_ n2_ n3_; (try clear hb); (try clear hb2); (try clear hk); (try clear hi); (try clear ho0)) | ((with_reducible refine gate_dst (N := 12) rfl ?_); refine Kd.R_lit (Kd.int .i64) _ 3 ?hg (N := 12) ?hd (xs := ([1, 0, 2] : List Int)) (inner := [.int .i64 1, .int .i64 0, .int .i64 2]) (ok := fun _ => True) (okp := fun _ => True) ?hr ?hp (fun _ hk => hk) trivial (Below.refl _ _) (Nat.le_refl _) (by simp) ?_; (case hd => rfl); (case hg => rfl); (case hr => first | (go_simp; done) | (go_simp; rfl)); (case hp => exact (Reps.one (show Kd.M (Kd.int .i64) _ _ _ 1 [.int .i64 1] from rfl) (Reps.one (show Kd.M (Kd.int .i64) _ _ _ 0 [.int .i64 0] from rfl) (Reps.one (show Kd.M (Kd.int .i64) _ _ _ 2 [.int .i64 2] from rfl) (Reps.none _ _))))); intro v238 w34 ho35 hb hg_ hnew_; clear hg_ hnew_; (first | rw [← Ny237.out] at ho35 | (simp only [Int.reduceToNat] at ho35; rw [← Ny237.out] at ho35)); have n0_ := Aside0.mk (Kd.S_below (by (with_reducible repeat (first | apply Kd.S_alloc | apply Kd.S_drewN | apply Kd.S_drew)); exact HO230.out) hb); have n1_ := Aside0.mk (Kd.V_elder' (by (with_reducible repeat (first | apply Kd.V_alloc | apply Kd.V_drewN | apply Kd.V_drew)); exact HO233.out) (Kd.R_base ho35) hb); have n2_ := Aside0.mk (Kd.V_elder' (by (with_reducible repeat (first | apply Kd.V_alloc | apply Kd.V_drewN | apply Kd.V_drew)); exact HO236.out) (Kd.R_base ho35) hb); have n3_ := Aside0.mk (Kd.R_lower ho35 (below_size (by repeat (first | (with_reducible first | exact HB.out | apply below_alloc | apply pw_below_drewN | apply below_drew1) | exact HB.out)))); have n4_ := Aside0.mk (below_step (by repeat (first | (with_reducible first | exact HB.out | apply below_alloc | apply pw_below_drewN | apply below_drew1) | exact HB.out)) hb); clear HO230; clear HO233; clear HO236; clear HB; have HO230 := n0_; have HO233 := n1_; have HO236 := n2_; have HO239 := n3_; have HB := n4_; clear n0_ n1_ n2_ n3_ n4_; clear hb ho35; obtain ⟨Ao36, co36, eo36⟩ := Kd.V_slice HO236.out; subst eo36; obtain ⟨Ao37, co37, eo37⟩ := Kd.R_slice HO239.out; subst eo37) | ((with_reducible refine gate_callee (f := 13) rfl ?_); refine goesL_ (some 13) rfl rfl Try.func13 (by kernel_rfl) rfl #[.slice Ao36 t234.length co36, .slice Ao37 y237.length co37] rfl (by (try simp only [List.map_toArray, List.map_cons, List.map_nil]); first | done | rfl | (simp only [List.length_drop, List.length_take]; rfl)) ?_; (with_reducible refine (prebendref01_Ints.calls k _ _ t234 _ _ y237 true _ ?side1 ?side2 ?side3 ?side4 A3.out).mono ?_); (case side1 => repeat (first | exact (Kd.V_reads' HO236.out).2.2 | (with_reducible refine Kd.C_alloc ?_ _) | (with_reducible refine Kd.C_drewN ?_ _) | (with_reducible refine Kd.C_drew ?_))); (case side2 => exact (Kd.V_reads' HO236.out).2.1); (case side3 => repeat (first | exact (Kd.R_reads' HO239.out).2.2 | (with_reducible refine Kd.C_alloc ?_ _) | (with_reducible refine Kd.C_drewN ?_ _) | (with_reducible refine Kd.C_drew ?_))); (case side4 => exact (Kd.R_reads' HO239.out).2.1); rintro e w' ⟨rfl, ⟨nd, rfl⟩⟩; refine ⟨_, rfl, ?_⟩; obtain ⟨Ao38, co38, eo38⟩ := Kd.V_slice HO233.out; subst eo38))
      go_ret
      exact ⟨by first | rfl | (simp [errW_none, errW_some] <;> rfl) | (simp [*, errW_none, errW_some] <;> rfl), by repeat (first | (with_reducible first | exact HB.out | apply below_alloc | apply pw_below_drewN | apply below_drew1) | exact HB.out)⟩
  · replace c4 := Bool.eq_false_iff.mpr c4
    subst c4
    have H1 : (some false) = some r := by rw [if_neg (show ¬ (false = true) by decide)] at H; exact H
    clear H
    have H := H1
    clear H1
    obtain rfl := Option.some.inj H
    go_enter Try.func12, Try.ntmps12
    go_wp2_with (first | ((with_reducible refine gate_dst (N := 7) rfl ?_); refine Kd.S_lit k32 _ 32 ?hg (N := 7) ?hd (xs := ([(⟨1, 0, 7, 0, 0, 1, 0, 1, 0, 0, 0, ([] : List (S80))⟩ : S32), (⟨2, 0, 0, 9, 0, 5, 0, 1, 0, 0, 0, ([] : List (S80))⟩ : S32), (⟨3, 0, 0, 0, 0, 1, 0, 1, 0, 0, 0, ([] : List (S80))⟩ : S32), (⟨4, 0, 0, 0, 0, 9, 0, 2, 0, 0, 0, ([] : List (S80))⟩ : S32)] : List (S32))) (inner := [.int .i64 1, .int .i64 0, .int .i64 7, .int .i64 0, .int .i64 0, .int .i64 1, .int .i64 0, .int .i64 1, .int .i64 0, .int .i64 0, .int .i64 0, .slice none 0 0, .int .i64 2, .int .i64 0, .int .i64 0, .int .i64 9, .int .i64 0, .int .i64 5, .int .i64 0, .int .i64 1, .int .i64 0, .int .i64 0, .int .i64 0, .slice none 0 0, .int .i64 3, .int .i64 0, .int .i64 0, .int .i64 0, .int .i64 0, .int .i64 1, .int .i64 0, .int .i64 1, .int .i64 0, .int .i64 0, .int .i64 0, .slice none 0 0, .int .i64 4, .int .i64 0, .int .i64 0, .int .i64 0, .int .i64 0, .int .i64 9, .int .i64 0, .int .i64 2, .int .i64 0, .int .i64 0, .int .i64 0, .slice none 0 0]) (ok := fun _ => True) (okp := fun _ => True) ?hr ?hp (fun _ hk => hk) trivial (Below.refl _ _) (Nat.le_refl _) (by simp) ?_; (case hd => rfl); (case hg => rfl); (case hr => first | (go_simp; done) | (go_simp; rfl)); (case hp => exact (Reps.front (show Kd.M k32 _ _ _ (⟨1, 0, 7, 0, 0, 1, 0, 1, 0, 0, 0, ([] : List (S80))⟩ : S32) [.int .i64 1, .int .i64 0, .int .i64 7, .int .i64 0, .int .i64 0, .int .i64 1, .int .i64 0, .int .i64 1, .int .i64 0, .int .i64 0, .int .i64 0, .slice none 0 0] from (k32_mkM _ _ _ (⟨1, 0, 7, 0, 0, 1, 0, 1, 0, 0, 0, ([] : List (S80))⟩ : S32) (Kd.R_nil _ _ _ _ _))) rfl (Reps.front (show Kd.M k32 _ _ _ (⟨2, 0, 0, 9, 0, 5, 0, 1, 0, 0, 0, ([] : List (S80))⟩ : S32) [.int .i64 2, .int .i64 0, .int .i64 0, .int .i64 9, .int .i64 0, .int .i64 5, .int .i64 0, .int .i64 1, .int .i64 0, .int .i64 0, .int .i64 0, .slice none 0 0] from (k32_mkM _ _ _ (⟨2, 0, 0, 9, 0, 5, 0, 1, 0, 0, 0, ([] : List (S80))⟩ : S32) (Kd.R_nil _ _ _ _ _))) rfl (Reps.front (show Kd.M k32 _ _ _ (⟨3, 0, 0, 0, 0, 1, 0, 1, 0, 0, 0, ([] : List (S80))⟩ : S32) [.int .i64 3, .int .i64 0, .int .i64 0, .int .i64 0, .int .i64 0, .int .i64 1, .int .i64 0, .int .i64 1, .int .i64 0, .int .i64 0, .int .i64 0, .slice none 0 0] from (k32_mkM _ _ _ (⟨3, 0, 0, 0, 0, 1, 0, 1, 0, 0, 0, ([] : List (S80))⟩ : S32) (Kd.R_nil _ _ _ _ _))) rfl (Reps.front (show Kd.M k32 _ _ _ (⟨4, 0, 0, 0, 0, 9, 0, 2, 0, 0, 0, ([] : List (S80))⟩ : S32) [.int .i64 4, .int .i64 0, .int .i64 0, .int .i64 0, .int .i64 0, .int .i64 9, .int .i64 0, .int .i64 2, .int .i64 0, .int .i64 0, .int .i64 0, .slice none 0 0] from (k32_mkM _ _ _ (⟨4, 0, 0, 0, 0, 9, 0, 2, 0, 0, 0, ([] : List (S80))⟩ : S32) (Kd.R_nil _ _ _ _ _))) rfl (Reps.none _ _) rfl) rfl) rfl) rfl)); intro v229 w39 ho40 hb hg_ hnew_; clear hg_ hnew_; (first | rw [← Ny228.out] at ho40 | (simp only [Int.reduceToNat] at ho40; rw [← Ny228.out] at ho40)); have n0_ := Aside0.mk (Kd.S_lower ho40 (below_size (by repeat (first | (with_reducible first | exact HB.out | apply below_alloc | apply pw_below_drewN | apply below_drew1) | exact HB.out)))); have n1_ := Aside0.mk (below_step (by repeat (first | (with_reducible first | exact HB.out | apply below_alloc | apply pw_below_drewN | apply below_drew1) | exact HB.out)) hb); clear HB; have HO230 := n0_; have HB := n1_; clear n0_ n1_; clear hb ho40; obtain ⟨Ao41, co41, eo41⟩ := Kd.S_slice HO230.out; subst eo41) | ((with_reducible refine gate_callee (f := 11) rfl ?_); refine goesL_ (some 9) rfl rfl Try.func11 (by kernel_rfl) rfl #[.slice Ao41 y228.length co41] rfl (by (try simp only [List.map_toArray, List.map_cons, List.map_nil]); first | done | rfl | (simp only [List.length_drop, List.length_take]; rfl)) ?_; (with_reducible refine (order_Asks.calls k _ _ y228 t231 _ ?side1 ?side2 A1.out).mono ?_); (case side1 => repeat (first | exact (Kd.S_reads' HO230.out).2.2 | (with_reducible refine Kd.C_alloc ?_ _) | (with_reducible refine Kd.C_drewN ?_ _) | (with_reducible refine Kd.C_drew ?_))); (case side2 => exact (Kd.S_reads' HO230.out).2.1); rintro e w42 ⟨v232, rfl, ho0, hb⟩; refine ⟨_, rfl, ?_⟩; have n0_ := Aside0.mk (Kd.S_below (by (with_reducible repeat (first | apply Kd.S_alloc | apply Kd.S_drewN | apply Kd.S_drew)); exact HO230.out) hb); have n1_ := Aside0.mk (Kd.V_lower (Kd.V_mono (ok' := fun k_ => some k_ ≠ (.slice Ao41 y228.length co41 : Value).ownBlock) ho0 (fun k_ hk_ => (Kd.fresh' (Kd.S_lt (by (with_reducible repeat (first | apply Kd.S_alloc | apply Kd.S_drewN | apply Kd.S_drew)); exact HO230.out)) k_ hk_))) (below_size (by repeat (first | (with_reducible first | exact HB.out | apply below_alloc | apply pw_below_drewN | apply below_drew1) | exact HB.out)))); have n2_ := Aside0.mk (below_step (by repeat (first | (with_reducible first | exact HB.out | apply below_alloc | apply pw_below_drewN | apply below_drew1) | exact HB.out)) hb); clear HO230; clear HB; have HO230 := n0_; have HO233 := n1_; have HB := n2_; clear n0_ n1_ n2_; (try clear hb); (try clear hb2); (try clear hk); (try clear hi); (try clear ho0)) | ((with_reducible refine gate_callee (f := 14) rfl ?_); refine goesL_ (some 11) rfl rfl Try.func14 (by kernel_rfl) rfl #[.slice Ao41 y228.length co41] rfl (by (try simp only [List.map_toArray, List.map_cons, List.map_nil]); first | done | rfl | (simp only [List.length_drop, List.length_take]; rfl)) ?_; (with_reducible refine (order_Order.calls k _ _ y228 t234 _ ?side1 ?side2 A2.out).mono ?_); (case side1 => repeat (first | exact (Kd.S_reads' HO230.out).2.2 | (with_reducible refine Kd.C_alloc ?_ _) | (with_reducible refine Kd.C_drewN ?_ _) | (with_reducible refine Kd.C_drew ?_))); (case side2 => exact (Kd.S_reads' HO230.out).2.1); rintro e w43 ⟨v235, rfl, ho0, hb⟩; refine ⟨_, rfl, ?_⟩; have n0_ := Aside0.mk (Kd.S_below (by (with_reducible repeat (first | apply Kd.S_alloc | apply Kd.S_drewN | apply Kd.S_drew)); exact HO230.out) hb); have n1_ := Aside0.mk (Kd.V_below (by (with_reducible repeat (first | apply Kd.V_alloc | apply Kd.V_drewN | apply Kd.V_drew)); exact HO233.out) hb); have n2_ := Aside0.mk (Kd.V_lower (Kd.V_mono (ok' := fun k_ => some k_ ≠ (.slice Ao41 y228.length co41 : Value).ownBlock) ho0 (fun k_ hk_ => (Kd.fresh' (Kd.S_lt (by (with_reducible repeat (first | apply Kd.S_alloc | apply Kd.S_drewN | apply Kd.S_drew)); exact HO230.out)) k_ hk_))) (below_size (by repeat (first | (with_reducible first | exact HB.out | apply below_alloc | apply pw_below_drewN | apply below_drew1) | exact HB.out)))); have n3_ := Aside0.mk (below_step (by repeat (first | (with_reducible first | exact HB.out | apply below_alloc | apply pw_below_drewN | apply below_drew1) | exact HB.out)) hb); clear HO230; clear HO233; clear HB; have HO230 := n0_; have HO233 := n1_; have HO236 := n2_; have HB := n3_; clear n0_ n1_ n2_ n3_; (try clear hb); (try clear hb2); (try clear hk); (try clear hi); (try clear ho0)) | ((with_reducible refine gate_dst (N := 12) rfl ?_); refine Kd.R_lit (Kd.int .i64) _ 3 ?hg (N := 12) ?hd (xs := ([1, 0, 2] : List Int)) (inner := [.int .i64 1, .int .i64 0, .int .i64 2]) (ok := fun _ => True) (okp := fun _ => True) ?hr ?hp (fun _ hk => hk) trivial (Below.refl _ _) (Nat.le_refl _) (by simp) ?_; (case hd => rfl); (case hg => rfl); (case hr => first | (go_simp; done) | (go_simp; rfl)); (case hp => exact (Reps.one (show Kd.M (Kd.int .i64) _ _ _ 1 [.int .i64 1] from rfl) (Reps.one (show Kd.M (Kd.int .i64) _ _ _ 0 [.int .i64 0] from rfl) (Reps.one (show Kd.M (Kd.int .i64) _ _ _ 2 [.int .i64 2] from rfl) (Reps.none _ _))))); intro v238 w44 ho45 hb hg_ hnew_; clear hg_ hnew_; (first | rw [← Ny237.out] at ho45 | (simp only [Int.reduceToNat] at ho45; rw [← Ny237.out] at ho45)); have n0_ := Aside0.mk (Kd.S_below (by (with_reducible repeat (first | apply Kd.S_alloc | apply Kd.S_drewN | apply Kd.S_drew)); exact HO230.out) hb); have n1_ := Aside0.mk (Kd.V_elder' (by (with_reducible repeat (first | apply Kd.V_alloc | apply Kd.V_drewN | apply Kd.V_drew)); exact HO233.out) (Kd.R_base ho45) hb); have n2_ := Aside0.mk (Kd.V_elder' (by (with_reducible repeat (first | apply Kd.V_alloc | apply Kd.V_drewN | apply Kd.V_drew)); exact HO236.out) (Kd.R_base ho45) hb); have n3_ := Aside0.mk (Kd.R_lower ho45 (below_size (by repeat (first | (with_reducible first | exact HB.out | apply below_alloc | apply pw_below_drewN | apply below_drew1) | exact HB.out)))); have n4_ := Aside0.mk (below_step (by repeat (first | (with_reducible first | exact HB.out | apply below_alloc | apply pw_below_drewN | apply below_drew1) | exact HB.out)) hb); clear HO230; clear HO233; clear HO236; clear HB; have HO230 := n0_; have HO233 := n1_; have HO236 := n2_; have HO239 := n3_; have HB := n4_; clear n0_ n1_ n2_ n3_ n4_; clear hb ho45; obtain ⟨Ao46, co46, eo46⟩ := Kd.V_slice HO236.out; subst eo46; obtain ⟨Ao47, co47, eo47⟩ := Kd.R_slice HO239.out; subst eo47) | ((with_reducible refine gate_callee (f := 13) rfl ?_); refine goesL_ (some 13) rfl rfl Try.func13 (by kernel_rfl) rfl #[.slice Ao46 t234.length co46, .slice Ao47 y237.length co47] rfl (by (try simp only [List.map_toArray, List.map_cons, List.map_nil]); first | done | rfl | (simp only [List.length_drop, List.length_take]; rfl)) ?_; (with_reducible refine (prebendref01_Ints.calls k _ _ t234 _ _ y237 false _ ?side1 ?side2 ?side3 ?side4 A3.out).mono ?_); (case side1 => repeat (first | exact (Kd.V_reads' HO236.out).2.2 | (with_reducible refine Kd.C_alloc ?_ _) | (with_reducible refine Kd.C_drewN ?_ _) | (with_reducible refine Kd.C_drew ?_))); (case side2 => exact (Kd.V_reads' HO236.out).2.1); (case side3 => repeat (first | exact (Kd.R_reads' HO239.out).2.2 | (with_reducible refine Kd.C_alloc ?_ _) | (with_reducible refine Kd.C_drewN ?_ _) | (with_reducible refine Kd.C_drew ?_))); (case side4 => exact (Kd.R_reads' HO239.out).2.1); rintro e w' ⟨rfl, ⟨nd, rfl⟩⟩; refine ⟨_, rfl, ?_⟩))
    go_ret
    exact ⟨by first | rfl | (simp [errW_none, errW_some] <;> rfl) | (simp [*, errW_none, errW_some] <;> rfl), by repeat (first | (with_reducible first | exact HB.out | apply below_alloc | apply pw_below_drewN | apply below_drew1) | exact HB.out)⟩

end Go.Proofs.Ytkhfgflcanmefaa.PAll
end
section
namespace Go.Proofs.Ytkhfgflcanmefaa.PAll
open Go.RowKit Go.Proofs.YtkhfgflcanmefaaW.PrintWords Go.Proofs.YtkhfgflcanmefaaW.PrintLast Go.Proofs.YtkhfgflcanmefaaW.PrintMore
attribute [local go_sem] max2_int min2_int max_two min_two max_three min_three max_four min_four   -- for this text's walks alone
set_option linter.unusedVariables false
set_option linter.unusedSimpArgs false

def prebendlaw15_OrderLess.j0 : Nat → List (S32) → List Int → Int → Bool → Option (Bool)
  | 0, _, _, _, _ => none
  | k + 1, x5, x6, x7, x36 => if x36 = true then (some false) else (if 0 ≤ x7 then (if x7 < (x6.length : Int) then (if 0 ≤ (rd x6 x7) then (if (rd x6 x7) < (x5.length : Int) then ((prebendlaw15_awake.f k).bind fun t289 => (if t289 = true then ((order_Order.f k (x5.set ((rd x6 x7) : Int).toNat (⟨(rd_T32 x5 (rd x6 x7)).f0, (rd_T32 x5 (rd x6 x7)).f1, (rd_T32 x5 (rd x6 x7)).f2, (rd_T32 x5 (rd x6 x7)).f3, (rd_T32 x5 (rd x6 x7)).f4, (rd_T32 x5 (rd x6 x7)).f5, (rd_T32 x5 (rd x6 x7)).f6, 2, (rd_T32 x5 (rd x6 x7)).f8, (rd_T32 x5 (rd x6 x7)).f9, (rd_T32 x5 (rd x6 x7)).f10, (rd_T32 x5 (rd x6 x7)).f11⟩ : S32))).bind fun t290 => ((some (([] : List Int) : List Int)).bind fun y293 => (if x7 ≤ (x6.length : Int) then ((some (x6.take (x7 : Int).toNat : List Int)).bind fun y296 => (if y293.length + y296.length < 17592186044416 then ((some (y293 ++ y296 : List Int)).bind fun y301 => (if 0 ≤ (wrap64 (x7 + 1)) then (if (wrap64 (x7 + 1)) ≤ (x6.length : Int) then ((some (x6.drop ((wrap64 (x7 + 1)) : Int).toNat : List Int)).bind fun y304 => (if y301.length + y304.length < 17592186044416 then ((prebendref01_Ints.f k t290 (y301 ++ y304)).bind fun t312 => (some t312)) else (none))) else (none)) else (none))) else (none))) else (none)))) else (some false))) else (none)) else (none)) else (none)) else (none))
def prebendlaw15_OrderLess.f (k : Nat) (l0 : List (S32)) (a1 : Int) : Option (Bool) := (some (([] : List (S32)) : List (S32))).bind fun y272 => ((prebendlaw15_few.f l0).bind fun t275 => (if y272.length + t275.length < 1256584717458 then ((some (y272 ++ t275 : List (S32))).bind fun y278 => ((order_Order.f k y278).bind fun t281 => (if (t281.length : Int) = 0 then ((prebendlaw15_awake.f k).bind fun t284 => (some t284)) else (if 0 ≤ (Int.tmod (wrap64 (a1)) (t281.length : Int)) then (if (Int.tmod (wrap64 (a1)) (t281.length : Int)) < (t281.length : Int) then (if (rd t281 (Int.tmod (wrap64 (a1)) (t281.length : Int))) < 0 then (prebendlaw15_OrderLess.j0 k y278 t281 (Int.tmod (wrap64 (a1)) (t281.length : Int)) true) else (prebendlaw15_OrderLess.j0 k y278 t281 (Int.tmod (wrap64 (a1)) (t281.length : Int)) (decide ((rd t281 (Int.tmod (wrap64 (a1)) (t281.length : Int))) ≥ (y278.length : Int))))) else (none)) else (none))))) else (none)))
theorem prebendlaw15_OrderLess.mono_l : ∀ k, (∀ y0 y1 y2 y3, LeO (prebendlaw15_OrderLess.j0 k y0 y1 y2 y3) (prebendlaw15_OrderLess.j0 (k + 1) y0 y1 y2 y3))
  | 0 => fun _ _ _ _ r h => by simp [prebendlaw15_OrderLess.j0] at h
  | k + 1 => by
    have ih0 := prebendlaw15_OrderLess.mono_l k
    · intro y0 y1 y2 y3
      unfold prebendlaw15_OrderLess.j0
      repeat' first
      | (with_reducible exact ih0 _ _ _ _)
      | (with_reducible exact order_Order.mono _ _)
      | (with_reducible exact prebendlaw15_awake.mono _)
      | (with_reducible exact prebendref01_Ints.mono _ _ _)
      | (with_reducible exact LeO.refl _)
      | (with_reducible exact LeO.none _)
      | (with_reducible refine LeO.ite ?_ ?_)
      | (with_reducible refine LeO.bind ?_ (fun _ => ?_))
      | exact ih0 _ _ _ _
      | exact order_Order.mono _ _
      | exact prebendlaw15_awake.mono _
      | exact prebendref01_Ints.mono _ _ _
      | exact LeO.none _
      | refine LeO.ite ?_ ?_
      | refine LeO.bind ?_ (fun _ => ?_)
theorem prebendlaw15_OrderLess.mono : ∀ a0 a1 k, LeO (prebendlaw15_OrderLess.f k a0 a1) (prebendlaw15_OrderLess.f (k + 1) a0 a1) := by
  intro a0 a1 k
  have ih0 := prebendlaw15_OrderLess.mono_l k
  unfold prebendlaw15_OrderLess.f
  repeat' first
      | (with_reducible exact ih0 _ _ _ _)
      | (with_reducible exact order_Order.mono _ _)
      | (with_reducible exact prebendlaw15_awake.mono _)
      | (with_reducible exact prebendref01_Ints.mono _ _ _)
      | (with_reducible exact LeO.refl _)
      | (with_reducible exact LeO.none _)
      | (with_reducible refine LeO.ite ?_ ?_)
      | (with_reducible refine LeO.bind ?_ (fun _ => ?_))
      | exact ih0 _ _ _ _
      | exact order_Order.mono _ _
      | exact prebendlaw15_awake.mono _
      | exact prebendref01_Ints.mono _ _ _
      | exact LeO.none _
      | refine LeO.ite ?_ ?_
      | refine LeO.bind ?_ (fun _ => ?_)
def prebendlaw15_OrderLess.T9 : Bool × List (List Nat × List Nat) := (true, [([], []), ([0, 0], [0]), ([1], [1]), ([2, 1, 1], [1, 2]), ([1], [1]), ([1], [1]), ([1], [1]), ([5, 6, 1], [1, 5, 6]), ([4, 7, 3, 1], [1, 4, 7]), ([1], [1]), ([1], [1]), ([10, 1], [1, 10]), ([9, 11, 1], [1, 9, 11]), ([8, 12, 8, 1], [1, 8, 12]), ([3, 13, 13, 1], [1, 3, 13]), ([1, 14], [1, 14]), ([15, 14, 0, 1, 2, 3, 4, 5, 6, 7, 8, 9, 10, 11, 12, 13, 14, 15], [15])])
def prebendlaw15_OrderLess.B9 : List Nat := [0, 1, 3, 7, 3, 3, 3, 99, 255, 3, 3, 1027, 3587, 8191, 16383, 32767, 65535]
theorem prebendlaw15_OrderLess.tab9 : rtab .any (opsOf Try.f5 9) = prebendlaw15_OrderLess.T9 := by kernel_rfl
theorem prebendlaw15_OrderLess.bits9 : waitsOk prebendlaw15_OrderLess.T9.2 prebendlaw15_OrderLess.B9 = true := by kernel_rfl
set_option maxHeartbeats 8000000 in
set_option maxRecDepth 100000 in
theorem prebendlaw15_OrderLess.calls (k : Nat) (A0 : Option Addr) (c0 : Nat) (l0 : List (S32)) (a1 : Int) (r : Bool) (w : World) (hr0 : Kd.C k32 w A0 l0.length l0) (hc0 : l0.length ≤ c0) (h : prebendlaw15_OrderLess.f k l0 a1 = some r) :
    Calls Try.prog 5 #[.slice A0 l0.length c0, .int .u8 a1] w fun e w' => e = .returned (.bool r) ∧ Below w.heap.size w w' := by
  have HR0 := Aside0.mk hr0
  have HC0 := Aside0.mk hc0
  clear hr0 hc0
  have HB := Aside0.mk (Below.refl w.heap.size w)
  have H : ((some (([] : List (S32)) : List (S32))).bind fun y272 => ((prebendlaw15_few.f l0).bind fun t275 => (if y272.length + t275.length < 1256584717458 then ((some (y272 ++ t275 : List (S32))).bind fun y278 => ((order_Order.f k y278).bind fun t281 => (if (t281.length : Int) = 0 then ((prebendlaw15_awake.f k).bind fun t284 => (some t284)) else (if 0 ≤ (Int.tmod (wrap64 (a1)) (t281.length : Int)) then (if (Int.tmod (wrap64 (a1)) (t281.length : Int)) < (t281.length : Int) then (if (rd t281 (Int.tmod (wrap64 (a1)) (t281.length : Int))) < 0 then (prebendlaw15_OrderLess.j0 k y278 t281 (Int.tmod (wrap64 (a1)) (t281.length : Int)) true) else (prebendlaw15_OrderLess.j0 k y278 t281 (Int.tmod (wrap64 (a1)) (t281.length : Int)) (decide ((rd t281 (Int.tmod (wrap64 (a1)) (t281.length : Int))) ≥ (y278.length : Int))))) else (none)) else (none))))) else (none)))) = some r := h
  clear h
  obtain ⟨y272, hy272⟩ : ∃ y_ : List (S32), y_ = (([] : List (S32))) := ⟨_, rfl⟩
  replace H : ((prebendlaw15_few.f l0).bind fun t275 => (if y272.length + t275.length < 1256584717458 then ((some (y272 ++ t275 : List (S32))).bind fun y278 => ((order_Order.f k y278).bind fun t281 => (if (t281.length : Int) = 0 then ((prebendlaw15_awake.f k).bind fun t284 => (some t284)) else (if 0 ≤ (Int.tmod (wrap64 (a1)) (t281.length : Int)) then (if (Int.tmod (wrap64 (a1)) (t281.length : Int)) < (t281.length : Int) then (if (rd t281 (Int.tmod (wrap64 (a1)) (t281.length : Int))) < 0 then (prebendlaw15_OrderLess.j0 k y278 t281 (Int.tmod (wrap64 (a1)) (t281.length : Int)) true) else (prebendlaw15_OrderLess.j0 k y278 t281 (Int.tmod (wrap64 (a1)) (t281.length : Int)) (decide ((rd t281 (Int.tmod (wrap64 (a1)) (t281.length : Int))) ≥ (y278.length : Int))))) else (none)) else (none))))) else (none))) = some r := by first | (rw [hy272]; with_reducible exact H) | (have H2_ := (Option.bind_some _ _).symm.trans H; rw [hy272]; with_reducible exact H2_) | (have H2_ := (Option.bind_some _ _).symm.trans H; with_reducible exact H2_) | with_reducible exact H | (rw [hy272]; exact H) | exact H
  have Ny272 := Aside0.mk hy272
  clear hy272
  replace H := Option.bind_eq_some_iff.mp H
  obtain ⟨t275, A30, H⟩ := H
  replace H : (if y272.length + t275.length < 1256584717458 then ((some (y272 ++ t275 : List (S32))).bind fun y278 => ((order_Order.f k y278).bind fun t281 => (if (t281.length : Int) = 0 then ((prebendlaw15_awake.f k).bind fun t284 => (some t284)) else (if 0 ≤ (Int.tmod (wrap64 (a1)) (t281.length : Int)) then (if (Int.tmod (wrap64 (a1)) (t281.length : Int)) < (t281.length : Int) then (if (rd t281 (Int.tmod (wrap64 (a1)) (t281.length : Int))) < 0 then (prebendlaw15_OrderLess.j0 k y278 t281 (Int.tmod (wrap64 (a1)) (t281.length : Int)) true) else (prebendlaw15_OrderLess.j0 k y278 t281 (Int.tmod (wrap64 (a1)) (t281.length : Int)) (decide ((rd t281 (Int.tmod (wrap64 (a1)) (t281.length : Int))) ≥ (y278.length : Int))))) else (none)) else (none))))) else (none)) = some r := H
  have A3 := Aside0.mk A30
  clear A30
  by_cases c4 : y272.length + t275.length < 1256584717458
  · rw [if_pos c4] at H
    have LMc4 := Aside0.mk c4
    clear c4
    obtain ⟨y278, hy278⟩ : ∃ y_ : List (S32), y_ = (y272 ++ t275) := ⟨_, rfl⟩
    replace H : ((order_Order.f k y278).bind fun t281 => (if (t281.length : Int) = 0 then ((prebendlaw15_awake.f k).bind fun t284 => (some t284)) else (if 0 ≤ (Int.tmod (wrap64 (a1)) (t281.length : Int)) then (if (Int.tmod (wrap64 (a1)) (t281.length : Int)) < (t281.length : Int) then (if (rd t281 (Int.tmod (wrap64 (a1)) (t281.length : Int))) < 0 then (prebendlaw15_OrderLess.j0 k y278 t281 (Int.tmod (wrap64 (a1)) (t281.length : Int)) true) else (prebendlaw15_OrderLess.j0 k y278 t281 (Int.tmod (wrap64 (a1)) (t281.length : Int)) (decide ((rd t281 (Int.tmod (wrap64 (a1)) (t281.length : Int))) ≥ (y278.length : Int))))) else (none)) else (none)))) = some r := by first | (rw [hy278]; with_reducible exact H) | (have H2_ := (Option.bind_some _ _).symm.trans H; rw [hy278]; with_reducible exact H2_) | (have H2_ := (Option.bind_some _ _).symm.trans H; with_reducible exact H2_) | with_reducible exact H | (rw [hy278]; exact H) | exact H
    have Ny278 := Aside0.mk hy278
    clear hy278
    replace H := Option.bind_eq_some_iff.mp H
    obtain ⟨t281, A50, H⟩ := H
    replace H : (if (t281.length : Int) = 0 then ((prebendlaw15_awake.f k).bind fun t284 => (some t284)) else (if 0 ≤ (Int.tmod (wrap64 (a1)) (t281.length : Int)) then (if (Int.tmod (wrap64 (a1)) (t281.length : Int)) < (t281.length : Int) then (if (rd t281 (Int.tmod (wrap64 (a1)) (t281.length : Int))) < 0 then (prebendlaw15_OrderLess.j0 k y278 t281 (Int.tmod (wrap64 (a1)) (t281.length : Int)) true) else (prebendlaw15_OrderLess.j0 k y278 t281 (Int.tmod (wrap64 (a1)) (t281.length : Int)) (decide ((rd t281 (Int.tmod (wrap64 (a1)) (t281.length : Int))) ≥ (y278.length : Int))))) else (none)) else (none))) = some r := H
    have A5 := Aside0.mk A50
    clear A50
    by_cases c6 : (t281.length : Int) = 0
    · rw [if_pos c6] at H
      have c6b0 : ((t281.length : Int) == 0) = true := beq_iff_eq.mpr c6
      have c6b1 : ((t281.length : Int) != 0) = false := bne_eq_false_iff_eq.mpr c6
      clear c6
      replace H := Option.bind_eq_some_iff.mp H
      obtain ⟨t284, A70, H⟩ := H
      replace H : (some t284) = some r := H
      have A7 := Aside0.mk A70
      clear A70
      obtain rfl := Option.some.inj H
      go_enter Try.func5, Try.ntmps5
      go_wp2_with (first | ((with_reducible refine gate_dst (N := 8) rfl ?_); refine Kd.N_lit k32 _ 32 ?hg (N' := 8) ?hd (xs := ([] : List (S32))) (inner := []) (ok := (fun _ => True)) (okp := (fun _ => True)) ?hr ?hp (fun _ hk => hk) ((show ∀ k_, w.heap.size ≤ k_ → (fun _ => True) k_ from fun k_ hk => trivial) _ (Nat.le_refl _)) (Below.refl _ _) (Nat.le_refl _) (by simp) ?_; (case hd => rfl); (case hg => rfl); (case hr => first | (go_simp; done) | (go_simp; rfl)); (case hp => exact (Reps.none _ _)); intro v273 w8 ho9 hb hg_ hnew_; clear hg_ hnew_; (first | rw [← Ny272.out] at ho9 | (simp only [Int.reduceToNat] at ho9; rw [← Ny272.out] at ho9)); have n0_ := Aside0.mk (Kd.N_lower ho9 (below_size (by repeat (first | (with_reducible first | exact HB.out | apply below_alloc | apply pw_below_drewN | apply below_drew1) | exact HB.out)))); have n1_ := Aside0.mk (below_step (by repeat (first | (with_reducible first | exact HB.out | apply below_alloc | apply pw_below_drewN | apply below_drew1) | exact HB.out)) hb); clear HB; have HO274 := n0_; have HB := n1_; clear n0_ n1_; clear hb ho9) | ((with_reducible refine gate_callee (f := 9) rfl ?_); refine goesL_ (some 10) rfl rfl Try.func9 (by kernel_rfl) rfl #[.slice A0 l0.length c0] rfl (by (try simp only [List.map_toArray, List.map_cons, List.map_nil]); first | done | rfl | (simp only [List.length_drop, List.length_take]; rfl)) ?_; (with_reducible refine (prebendlaw15_few.calls (fun k_ => k_ < w.heap.size) _ _ l0 t275 _ ?side1 A3.out).mono ?_); (case side1 => exact Kd.V_mk HC0.out (Kd.F_below (Kd.C_F k32_heap HR0.out) (by repeat (first | (with_reducible first | exact HB.out | apply below_alloc | apply pw_below_drewN | apply below_drew1) | exact HB.out)))); rintro e w10 ⟨v276, rfl, ho0, hb⟩; refine ⟨_, rfl, ?_⟩; have n0_ := Aside0.mk (Kd.N_below (by (with_reducible repeat (first | apply Kd.N_alloc | apply Kd.N_drewN | apply Kd.N_drew)); exact HO274.out) hb); have n1_ := Aside0.mk (Kd.V_lower (Kd.V_mono (ok' := fun k_ => some k_ ≠ (v273 : Value).ownBlock) ho0 (fun k_ hk_ => Or.elim hk_ (fun hs_ => fun e_ => Nat.not_le.2 hs_ (Kd.N_base HO274.out k_ e_.symm)) (fun hn_ => (Kd.fresh' (Kd.N_lt (by (with_reducible repeat (first | apply Kd.N_alloc | apply Kd.N_drewN | apply Kd.N_drew)); exact HO274.out)) k_ hn_)))) (below_size (by repeat (first | (with_reducible first | exact HB.out | apply below_alloc | apply pw_below_drewN | apply below_drew1) | exact HB.out)))); have n2_ := Aside0.mk (below_step (by repeat (first | (with_reducible first | exact HB.out | apply below_alloc | apply pw_below_drewN | apply below_drew1) | exact HB.out)) hb); clear HO274; clear HB; have HO274 := n0_; have HO277 := n1_; have HB := n2_; clear n0_ n1_ n2_; (try clear hb); (try clear hb2); (try clear hk); (try clear hi); (try clear ho0); obtain ⟨Ao12, co12, eo12⟩ := Kd.V_slice HO277.out; subst eo12) | ((with_reducible refine gate_builtin (b := .append) (xs := #[.tmp 8, .tmp 10]) rfl ?_); at_builtin; refine Kd.N_append_rows k32 (w0 := w) w.heap.size rfl (.tmp 8) (.tmp 10) 22 32 (.agg #[(.int .i64 0), (.int .i64 0), (.int .i64 0), (.int .i64 0), (.int .i64 0), (.int .i64 0), (.int .i64 0), (.int .i64 0), (.int .i64 0), (.int .i64 0), (.int .i64 0), (.slice none 0 0)]) 112 rfl Try.underlying22 info32 rfl (by decide) (by omega) v273 y272 t275 _ _ _ (fun _ => True) (fun k_ => ((fun _ => True)) k_ ∧ some k_ ≠ (v273 : Value).ownBlock) rfl rfl ?aO ?aR (fun _ hk => hk) ?aF ?aB ?aS ?aL ?_; (case aR => exact (by skip; exact Kd.V_F (Kd.V_mono (ok' := (fun k_ => ((fun _ => True)) k_ ∧ some k_ ≠ (v273 : Value).ownBlock)) (HO277.out) (fun k_ hk => ⟨trivial, hk⟩)))); (case aB => exact (by repeat (first | (with_reducible first | exact HB.out | apply below_alloc | apply pw_below_drewN | apply below_drew1) | exact HB.out))); (case aF => exact (fun _ _ => trivial)); (case aO => exact (by (with_reducible repeat (first | apply Kd.N_alloc | apply Kd.N_drewN | apply Kd.N_drew)); exact HO274.out)); (case aS => exact (below_size (by repeat (first | (with_reducible first | exact HB.out | apply below_alloc | apply pw_below_drewN | apply below_drew1) | exact HB.out)))); (case aL => have := LMc4.out; omega); intro v279 w11 ho hb hg hat; rw [← Ny278.out] at ho; have n0_ := Aside0.mk (Kd.V_afterv (ok := (fun _ => True)) (by (with_reducible repeat (first | apply Kd.V_alloc | apply Kd.V_drewN | apply Kd.V_drew)); exact Kd.V_mono HO277.out (fun _ hk => ⟨trivial, hk⟩)) hg hat); have n1_ := Aside0.mk (hb); have n2_ := Aside0.mk (ho); clear HO277; clear HB; clear HO274; have HO277 := n0_; have HB := n1_; have HO280 := n2_; clear n0_ n1_ n2_; clear ho hb hg hat; obtain ⟨Ao13, co13, eo13⟩ := Kd.N_slice HO280.out; subst eo13) | ((with_reducible refine gate_callee (f := 14) rfl ?_); refine goesL_ (some 13) rfl rfl Try.func14 (by kernel_rfl) rfl #[.slice Ao13 y278.length co13] rfl (by (try simp only [List.map_toArray, List.map_cons, List.map_nil]); first | done | rfl | (simp only [List.length_drop, List.length_take]; rfl)) ?_; (with_reducible refine (order_Order.calls k _ _ y278 t281 _ ?side1 ?side2 A5.out).mono ?_); (case side1 => repeat (first | exact (Kd.N_reads' HO280.out).2.2 | (with_reducible refine Kd.C_alloc ?_ _) | (with_reducible refine Kd.C_drewN ?_ _) | (with_reducible refine Kd.C_drew ?_))); (case side2 => exact (Kd.N_reads' HO280.out).2.1); rintro e w14 ⟨v282, rfl, ho0, hb⟩; refine ⟨_, rfl, ?_⟩; have n0_ := Aside0.mk (Kd.V_below (by (with_reducible repeat (first | apply Kd.V_alloc | apply Kd.V_drewN | apply Kd.V_drew)); exact HO277.out) hb); have n1_ := Aside0.mk (Kd.N_below (by (with_reducible repeat (first | apply Kd.N_alloc | apply Kd.N_drewN | apply Kd.N_drew)); exact HO280.out) hb); have n2_ := Aside0.mk (Kd.V_lower (Kd.V_mono (ok' := fun k_ => some k_ ≠ (.slice Ao13 y278.length co13 : Value).ownBlock) ho0 (fun k_ hk_ => (Kd.fresh' (Kd.N_lt (by (with_reducible repeat (first | apply Kd.N_alloc | apply Kd.N_drewN | apply Kd.N_drew)); exact HO280.out)) k_ hk_))) (below_size (by repeat (first | (with_reducible first | exact HB.out | apply below_alloc | apply pw_below_drewN | apply below_drew1) | exact HB.out)))); have n3_ := Aside0.mk (below_step (by repeat (first | (with_reducible first | exact HB.out | apply below_alloc | apply pw_below_drewN | apply below_drew1) | exact HB.out)) hb); clear HO277; clear HO280; clear HB; have HO277 := n0_; have HO280 := n1_; have HO283 := n2_; have HB := n3_; clear n0_ n1_ n2_ n3_; (try clear hb); (try clear hb2); (try clear hk); (try clear hi); (try clear ho0); obtain ⟨Ao15, co15, eo15⟩ := Kd.V_slice HO283.out; subst eo15) | ((with_reducible refine gate_callee (f := 12) rfl ?_); refine goesL_ (some 17) rfl rfl Try.func12 (by kernel_rfl) rfl #[] rfl (by (try simp only [List.map_toArray, List.map_cons, List.map_nil]); first | done | rfl | (simp only [List.length_drop, List.length_take]; rfl)) ?_; (with_reducible refine (prebendlaw15_awake.calls k  t284 _ A7.out).mono ?_); rintro e w16 ⟨rfl, hb⟩; refine ⟨_, rfl, ?_⟩; have n0_ := Aside0.mk (Kd.V_below (by (with_reducible repeat (first | apply Kd.V_alloc | apply Kd.V_drewN | apply Kd.V_drew)); exact HO277.out) hb); have n1_ := Aside0.mk (Kd.N_below (by (with_reducible repeat (first | apply Kd.N_alloc | apply Kd.N_drewN | apply Kd.N_drew)); exact HO280.out) hb); have n2_ := Aside0.mk (Kd.V_below (by (with_reducible repeat (first | apply Kd.V_alloc | apply Kd.V_drewN | apply Kd.V_drew)); exact HO283.out) hb); have n3_ := Aside0.mk (below_step (by repeat (first | (with_reducible first | exact HB.out | apply below_alloc | apply pw_below_drewN | apply below_drew1) | exact HB.out)) hb); clear HO277; clear HO280; clear HO283; clear HB; have HO277 := n0_; have HO280 := n1_; have HO283 := n2_; have HB := n3_; clear n0_ n1_ n2_ n3_; (try clear hb); (try clear hb2); (try clear hk); (try clear hi)))
      go_ret
      exact ⟨by first | rfl | (simp [errW_none, errW_some] <;> rfl) | (simp [*, errW_none, errW_some] <;> rfl), by repeat (first | (with_reducible first | exact HB.out | apply below_alloc | apply pw_below_drewN | apply below_drew1) | exact HB.out)⟩
    · rw [if_neg c6] at H
      have c6b0 : ((t281.length : Int) == 0) = false := beq_eq_false_iff_ne.mpr c6
      have c6b1 : ((t281.length : Int) != 0) = true := bne_iff_ne.mpr c6
      have c6b2 : ¬ (t281 = []) := fun h_ => c6 (by rw [h_]; rfl)
      have HC17 := Aside0.mk H
      clear H
      go_enter Try.func5, Try.ntmps5
      go_upto_region 6 with (first | ((with_reducible refine gate_dst (N := 8) rfl ?_); refine Kd.N_lit k32 _ 32 ?hg (N' := 8) ?hd (xs := ([] : List (S32))) (inner := []) (ok := (fun _ => True)) (okp := (fun _ => True)) ?hr ?hp (fun _ hk => hk) ((show ∀ k_, w.heap.size ≤ k_ → (fun _ => True) k_ from fun k_ hk => trivial) _ (Nat.le_refl _)) (Below.refl _ _) (Nat.le_refl _) (by simp) ?_; (case hd => rfl); (case hg => rfl); (case hr => first | (go_simp; done) | (go_simp; rfl)); (case hp => exact (Reps.none _ _)); intro v273 w18 ho19 hb hg_ hnew_; clear hg_ hnew_; (first | rw [← Ny272.out] at ho19 | (simp only [Int.reduceToNat] at ho19; rw [← Ny272.out] at ho19)); have n0_ := Aside0.mk (Kd.N_lower ho19 (below_size (by repeat (first | (with_reducible first | exact HB.out | apply below_alloc | apply pw_below_drewN | apply below_drew1) | exact HB.out)))); have n1_ := Aside0.mk (below_step (by repeat (first | (with_reducible first | exact HB.out | apply below_alloc | apply pw_below_drewN | apply below_drew1) | exact HB.out)) hb); clear HB; have HO274 := n0_; have HB := n1_; clear n0_ n1_; clear hb ho19) | ((with_reducible refine gate_callee (f := 9) rfl ?_); refine goesL_ (some 10) rfl rfl Try.func9 (by kernel_rfl) rfl #[.slice A0 l0.length c0] rfl (by (try simp only [List.map_toArray, List.map_cons, List.map_nil]); first | done | rfl | (simp only [List.length_drop, List.length_take]; rfl)) ?_; (with_reducible refine (prebendlaw15_few.calls (fun k_ => k_ < w.heap.size) _ _ l0 t275 _ ?side1 A3.out).mono ?_); (case side1 => exact Kd.V_mk HC0.out (Kd.F_below (Kd.C_F k32_heap HR0.out) (by repeat (first | (with_reducible first | exact HB.out | apply below_alloc | apply pw_below_drewN | apply below_drew1) | exact HB.out)))); rintro e w20 ⟨v276, rfl, ho0, hb⟩; refine ⟨_, rfl, ?_⟩; have n0_ := Aside0.mk (Kd.N_below (by (with_reducible repeat (first | apply Kd.N_alloc | apply Kd.N_drewN | apply Kd.N_drew)); exact HO274.out) hb); have n1_ := Aside0.mk (Kd.V_lower (Kd.V_mono (ok' := fun k_ => some k_ ≠ (v273 : Value).ownBlock) ho0 (fun k_ hk_ => Or.elim hk_ (fun hs_ => fun e_ => Nat.not_le.2 hs_ (Kd.N_base HO274.out k_ e_.symm)) (fun hn_ => (Kd.fresh' (Kd.N_lt (by (with_reducible repeat (first | apply Kd.N_alloc | apply Kd.N_drewN | apply Kd.N_drew)); exact HO274.out)) k_ hn_)))) (below_size (by repeat (first | (with_reducible first | exact HB.out | apply below_alloc | apply pw_below_drewN | apply below_drew1) | exact HB.out)))); have n2_ := Aside0.mk (below_step (by repeat (first | (with_reducible first | exact HB.out | apply below_alloc | apply pw_below_drewN | apply below_drew1) | exact HB.out)) hb); clear HO274; clear HB; have HO274 := n0_; have HO277 := n1_; have HB := n2_; clear n0_ n1_ n2_; (try clear hb); (try clear hb2); (try clear hk); (try clear hi); (try clear ho0); obtain ⟨Ao22, co22, eo22⟩ := Kd.V_slice HO277.out; subst eo22) | ((with_reducible refine gate_builtin (b := .append) (xs := #[.tmp 8, .tmp 10]) rfl ?_); at_builtin; refine Kd.N_append_rows k32 (w0 := w) w.heap.size rfl (.tmp 8) (.tmp 10) 22 32 (.agg #[(.int .i64 0), (.int .i64 0), (.int .i64 0), (.int .i64 0), (.int .i64 0), (.int .i64 0), (.int .i64 0), (.int .i64 0), (.int .i64 0), (.int .i64 0), (.int .i64 0), (.slice none 0 0)]) 112 rfl Try.underlying22 info32 rfl (by decide) (by omega) v273 y272 t275 _ _ _ (fun _ => True) (fun k_ => ((fun _ => True)) k_ ∧ some k_ ≠ (v273 : Value).ownBlock) rfl rfl ?aO ?aR (fun _ hk => hk) ?aF ?aB ?aS ?aL ?_; (case aR => exact (by skip; exact Kd.V_F (Kd.V_mono (ok' := (fun k_ => ((fun _ => True)) k_ ∧ some k_ ≠ (v273 : Value).ownBlock)) (HO277.out) (fun k_ hk => ⟨trivial, hk⟩)))); (case aB => exact (by repeat (first | (with_reducible first | exact HB.out | apply below_alloc | apply pw_below_drewN | apply below_drew1) | exact HB.out))); (case aF => exact (fun _ _ => trivial)); (case aO => exact (by (with_reducible repeat (first | apply Kd.N_alloc | apply Kd.N_drewN | apply Kd.N_drew)); exact HO274.out)); (case aS => exact (below_size (by repeat (first | (with_reducible first | exact HB.out | apply below_alloc | apply pw_below_drewN | apply below_drew1) | exact HB.out)))); (case aL => have := LMc4.out; omega); intro v279 w21 ho hb hg hat; rw [← Ny278.out] at ho; have n0_ := Aside0.mk (Kd.V_afterv (ok := (fun _ => True)) (by (with_reducible repeat (first | apply Kd.V_alloc | apply Kd.V_drewN | apply Kd.V_drew)); exact Kd.V_mono HO277.out (fun _ hk => ⟨trivial, hk⟩)) hg hat); have n1_ := Aside0.mk (hb); have n2_ := Aside0.mk (ho); clear HO277; clear HB; clear HO274; have HO277 := n0_; have HB := n1_; have HO280 := n2_; clear n0_ n1_ n2_; clear ho hb hg hat; obtain ⟨Ao23, co23, eo23⟩ := Kd.N_slice HO280.out; subst eo23) | ((with_reducible refine gate_callee (f := 14) rfl ?_); refine goesL_ (some 13) rfl rfl Try.func14 (by kernel_rfl) rfl #[.slice Ao23 y278.length co23] rfl (by (try simp only [List.map_toArray, List.map_cons, List.map_nil]); first | done | rfl | (simp only [List.length_drop, List.length_take]; rfl)) ?_; (with_reducible refine (order_Order.calls k _ _ y278 t281 _ ?side1 ?side2 A5.out).mono ?_); (case side1 => repeat (first | exact (Kd.N_reads' HO280.out).2.2 | (with_reducible refine Kd.C_alloc ?_ _) | (with_reducible refine Kd.C_drewN ?_ _) | (with_reducible refine Kd.C_drew ?_))); (case side2 => exact (Kd.N_reads' HO280.out).2.1); rintro e w24 ⟨v282, rfl, ho0, hb⟩; refine ⟨_, rfl, ?_⟩; have n0_ := Aside0.mk (Kd.V_below (by (with_reducible repeat (first | apply Kd.V_alloc | apply Kd.V_drewN | apply Kd.V_drew)); exact HO277.out) hb); have n1_ := Aside0.mk (Kd.N_below (by (with_reducible repeat (first | apply Kd.N_alloc | apply Kd.N_drewN | apply Kd.N_drew)); exact HO280.out) hb); have n2_ := Aside0.mk (Kd.V_lower (Kd.V_mono (ok' := fun k_ => some k_ ≠ (.slice Ao23 y278.length co23 : Value).ownBlock) ho0 (fun k_ hk_ => (Kd.fresh' (Kd.N_lt (by (with_reducible repeat (first | apply Kd.N_alloc | apply Kd.N_drewN | apply Kd.N_drew)); exact HO280.out)) k_ hk_))) (below_size (by repeat (first | (with_reducible first | exact HB.out | apply below_alloc | apply pw_below_drewN | apply below_drew1) | exact HB.out)))); have n3_ := Aside0.mk (below_step (by repeat (first | (with_reducible first | exact HB.out | apply below_alloc | apply pw_below_drewN | apply below_drew1) | exact HB.out)) hb); clear HO277; clear HO280; clear HB; have HO277 := n0_; have HO280 := n1_; have HO283 := n2_; have HB := n3_; clear n0_ n1_ n2_ n3_; (try clear hb); (try clear hb2); (try clear hk); (try clear hi); (try clear ho0); obtain ⟨Ao25, co25, eo25⟩ := Kd.V_slice HO283.out; subst eo25))
      (try simp only [Act.put, List.setIfInBounds_toArray, List.set_cons_zero, List.set_cons_succ])
      go_cut [36] (fun v36 wc => ∃ (kq : Nat) (x36_16 : Bool), v36 = .bool x36_16 ∧ Aside0 (prebendlaw15_OrderLess.j0 kq y278 t281 (Int.tmod (wrap64 (a1)) (t281.length : Int)) x36_16 = some r) ∧ Aside0 (kq ≤ k) ∧ Aside0 (Kd.N k32 32 wc w.heap.size (fun _ => True) (.slice Ao23 y278.length co23) y278) ∧ Aside0 (Kd.V (Kd.int .i64) 3 wc w.heap.size (fun k_ => some k_ ≠ ((.slice Ao23 y278.length co23) : Value).ownBlock) (.slice Ao25 t281.length co25) t281) ∧ Aside0 (Below w.heap.size w wc))
      case first =>
        have H := HC17.out
        clear HC17
        obtain ⟨ji26, hji26⟩ : ∃ j_ : Int, (Int.tmod (wrap64 (a1)) (t281.length : Int)) = j_ := ⟨_, rfl⟩
        replace H : (if 0 ≤ (ji26) then (if (ji26) < (t281.length : Int) then (if (rd t281 (ji26)) < 0 then (prebendlaw15_OrderLess.j0 k y278 t281 ji26 true) else (prebendlaw15_OrderLess.j0 k y278 t281 ji26 (decide ((rd t281 (ji26)) ≥ (y278.length : Int))))) else (none)) else (none)) = some r := by first | (rw [hji26] at H; exact H) | (simp only [hji26] at H ⊢; exact H)
        by_cases c27 : 0 ≤ (ji26)
        · rw [if_pos c27] at H
          have c27b0 : decide (0 ≤ (ji26)) = true := decide_eq_true c27
          clear c27
          (first | rw [c27b0] | (simp only [i64_w, i32_w]; rw [c27b0]) | skip)
          by_cases c28 : (ji26) < (t281.length : Int)
          · rw [if_pos c28] at H
            have c28b0 : decide ((ji26) < (t281.length : Int)) = true := decide_eq_true c28
            clear c28
            by_cases c29 : (rd t281 (ji26)) < 0
            · rw [if_pos c29] at H
              have c29b0 : decide ((rd t281 (ji26)) < 0) = true := decide_eq_true c29
              clear c29
              have H' := Aside0.mk H
              clear H
              have p285 : 0 ≤ ((ji26) : Int) := of_decide_eq_true (by first | (with_reducible assumption) | assumption)
              have q285 : (ji26) < (t281.length : Int) := of_decide_eq_true (by first | (with_reducible assumption) | assumption)
              obtain ⟨ad285, e285, hx285_0⟩ := Kd.at_int (Kd.V_reads' HO283.out).2.2 (ji26) p285 q285
              cases e285
              replace p285 := eq_true p285
              replace q285 := eq_true q285
              go_wp2
              (try simp only [← hji26])
              go_meet
              case rel => exact ⟨_, (true), (by first | rfl | (simp; done) | (simp [*]; done)), ⟨by rw [hji26]; exact H'.out⟩, ⟨by first | omega | exact Nat.le_refl _⟩, ⟨by (with_reducible repeat (first | apply Kd.N_alloc | apply Kd.N_drewN | apply Kd.N_drew)); exact HO280.out⟩, ⟨by (with_reducible repeat (first | apply Kd.V_alloc | apply Kd.V_drewN | apply Kd.V_drew)); exact HO283.out⟩, ⟨by repeat (first | (with_reducible first | exact HB.out | apply below_alloc | apply pw_below_drewN | apply below_drew1) | exact HB.out)⟩⟩
            · rw [if_neg c29] at H
              have c29b0 : decide ((rd t281 (ji26)) < 0) = false := decide_eq_false c29
              clear c29
              have H' := Aside0.mk H
              clear H
              have p285 : 0 ≤ ((ji26) : Int) := of_decide_eq_true (by first | (with_reducible assumption) | assumption)
              have q285 : (ji26) < (t281.length : Int) := of_decide_eq_true (by first | (with_reducible assumption) | assumption)
              obtain ⟨ad285, e285, hx285_0⟩ := Kd.at_int (Kd.V_reads' HO283.out).2.2 (ji26) p285 q285
              cases e285
              replace p285 := eq_true p285
              replace q285 := eq_true q285
              have p286 : 0 ≤ ((ji26) : Int) := of_decide_eq_true (by first | (with_reducible assumption) | assumption)
              have q286 : (ji26) < (t281.length : Int) := of_decide_eq_true (by first | (with_reducible assumption) | assumption)
              obtain ⟨ad286, e286, hx286_0⟩ := Kd.at_int (Kd.V_reads' HO283.out).2.2 (ji26) p286 q286
              obtain rfl : ad285 = ad286 := (by injection e286)
              replace p286 := eq_true p286
              replace q286 := eq_true q286
              go_wp2
              (try simp only [← hji26])
              go_meet
              case rel => exact ⟨_, (decide ((rd t281 (ji26)) ≥ (y278.length : Int))), (by first | rfl | (simp; done) | (simp only [← hji26] <;> (first | rfl | simp)) | (simp [*]; done)), ⟨by rw [hji26]; exact H'.out⟩, ⟨by first | omega | exact Nat.le_refl _⟩, ⟨by (with_reducible repeat (first | apply Kd.N_alloc | apply Kd.N_drewN | apply Kd.N_drew)); exact HO280.out⟩, ⟨by (with_reducible repeat (first | apply Kd.V_alloc | apply Kd.V_drewN | apply Kd.V_drew)); exact HO283.out⟩, ⟨by repeat (first | (with_reducible first | exact HB.out | apply below_alloc | apply pw_below_drewN | apply below_drew1) | exact HB.out)⟩⟩
          · rw [if_neg c28] at H
            exact absurd H (by simp)
        · rw [if_neg c27] at H
          exact absurd H (by simp)
      case rest =>
        clear HC17
        try clear c1
        try clear c2
        try clear p2
        try clear q2
        try clear hx2
        try clear c4
        try clear c5
        try clear c6
        try clear c6b0
        try clear c6b1
        try clear c6b2
        try clear p6
        try clear c9
        try clear c12
        try clear c14
        try clear c27
        try clear c27b0
        try clear c28
        try clear c28b0
        try clear p28
        try clear q28
        try clear hx28
        try clear c29
        try clear c29b0
        try clear hx285_0
        try clear hx286_0
        try clear p285
        try clear p286
        try clear q285
        try clear q286
        obtain ⟨kq, x36_16, rfl, HA, HJ16, HO_5, HO_6, HB⟩ := hcut
        cases kq with
        | zero => exact absurd HA.out (by simp [prebendlaw15_OrderLess.j0])
        | succ kj16 =>
          have H := HA.out
          clear HA
          simp only [prebendlaw15_OrderLess.j0] at H
          by_cases c30 : x36_16 = true
          · subst c30
            have H1 : (some false) = some r := by rw [if_pos rfl] at H; exact H
            clear H
            have H := H1
            clear H1
            obtain rfl := Option.some.inj H
            go_wp2
            go_ret
            exact ⟨by first | rfl | (simp [errW_none, errW_some] <;> rfl) | (simp [*, errW_none, errW_some] <;> rfl), by repeat (first | (with_reducible first | exact HB.out | apply below_alloc | apply pw_below_drewN | apply below_drew1) | exact HB.out)⟩
          · replace c30 := Bool.eq_false_iff.mpr c30
            subst c30
            have H1 : (if 0 ≤ (Int.tmod (wrap64 (a1)) (t281.length : Int)) then (if (Int.tmod (wrap64 (a1)) (t281.length : Int)) < (t281.length : Int) then (if 0 ≤ (rd t281 (Int.tmod (wrap64 (a1)) (t281.length : Int))) then (if (rd t281 (Int.tmod (wrap64 (a1)) (t281.length : Int))) < (y278.length : Int) then ((prebendlaw15_awake.f kj16).bind fun t289 => (if t289 = true then ((order_Order.f kj16 (y278.set ((rd t281 (Int.tmod (wrap64 (a1)) (t281.length : Int))) : Int).toNat (⟨(rd_T32 y278 (rd t281 (Int.tmod (wrap64 (a1)) (t281.length : Int)))).f0, (rd_T32 y278 (rd t281 (Int.tmod (wrap64 (a1)) (t281.length : Int)))).f1, (rd_T32 y278 (rd t281 (Int.tmod (wrap64 (a1)) (t281.length : Int)))).f2, (rd_T32 y278 (rd t281 (Int.tmod (wrap64 (a1)) (t281.length : Int)))).f3, (rd_T32 y278 (rd t281 (Int.tmod (wrap64 (a1)) (t281.length : Int)))).f4, (rd_T32 y278 (rd t281 (Int.tmod (wrap64 (a1)) (t281.length : Int)))).f5, (rd_T32 y278 (rd t281 (Int.tmod (wrap64 (a1)) (t281.length : Int)))).f6, 2, (rd_T32 y278 (rd t281 (Int.tmod (wrap64 (a1)) (t281.length : Int)))).f8, (rd_T32 y278 (rd t281 (Int.tmod (wrap64 (a1)) (t281.length : Int)))).f9, (rd_T32 y278 (rd t281 (Int.tmod (wrap64 (a1)) (t281.length : Int)))).f10, (rd_T32 y278 (rd t281 (Int.tmod (wrap64 (a1)) (t281.length : Int)))).f11⟩ : S32))).bind fun t290 => ((some (([] : List Int) : List Int)).bind fun y293 => (if (Int.tmod (wrap64 (a1)) (t281.length : Int)) ≤ (t281.length : Int) then ((some (t281.take ((Int.tmod (wrap64 (a1)) (t281.length : Int)) : Int).toNat : List Int)).bind fun y296 => (if y293.length + y296.length < 17592186044416 then ((some (y293 ++ y296 : List Int)).bind fun y301 => (if 0 ≤ (wrap64 ((Int.tmod (wrap64 (a1)) (t281.length : Int)) + 1)) then (if (wrap64 ((Int.tmod (wrap64 (a1)) (t281.length : Int)) + 1)) ≤ (t281.length : Int) then ((some (t281.drop ((wrap64 ((Int.tmod (wrap64 (a1)) (t281.length : Int)) + 1)) : Int).toNat : List Int)).bind fun y304 => (if y301.length + y304.length < 17592186044416 then ((prebendref01_Ints.f kj16 t290 (y301 ++ y304)).bind fun t312 => (some t312)) else (none))) else (none)) else (none))) else (none))) else (none)))) else (some false))) else (none)) else (none)) else (none)) else (none)) = some r := by rw [if_neg (show ¬ (false = true) by decide)] at H; exact H
            clear H
            have H := H1
            clear H1
            obtain ⟨ji31, hji31⟩ : ∃ j_ : Int, (Int.tmod (wrap64 (a1)) (t281.length : Int)) = j_ := ⟨_, rfl⟩
            replace H : (if 0 ≤ (ji31) then (if (ji31) < (t281.length : Int) then (if 0 ≤ (rd t281 (ji31)) then (if (rd t281 (ji31)) < (y278.length : Int) then ((prebendlaw15_awake.f kj16).bind fun t289 => (if t289 = true then ((order_Order.f kj16 (y278.set ((rd t281 (ji31)) : Int).toNat (⟨(rd_T32 y278 (rd t281 (ji31))).f0, (rd_T32 y278 (rd t281 (ji31))).f1, (rd_T32 y278 (rd t281 (ji31))).f2, (rd_T32 y278 (rd t281 (ji31))).f3, (rd_T32 y278 (rd t281 (ji31))).f4, (rd_T32 y278 (rd t281 (ji31))).f5, (rd_T32 y278 (rd t281 (ji31))).f6, 2, (rd_T32 y278 (rd t281 (ji31))).f8, (rd_T32 y278 (rd t281 (ji31))).f9, (rd_T32 y278 (rd t281 (ji31))).f10, (rd_T32 y278 (rd t281 (ji31))).f11⟩ : S32))).bind fun t290 => ((some (([] : List Int) : List Int)).bind fun y293 => (if (ji31) ≤ (t281.length : Int) then ((some (t281.take ((ji31) : Int).toNat : List Int)).bind fun y296 => (if y293.length + y296.length < 17592186044416 then ((some (y293 ++ y296 : List Int)).bind fun y301 => (if 0 ≤ (wrap64 ((ji31) + 1)) then (if (wrap64 ((ji31) + 1)) ≤ (t281.length : Int) then ((some (t281.drop ((wrap64 ((ji31) + 1)) : Int).toNat : List Int)).bind fun y304 => (if y301.length + y304.length < 17592186044416 then ((prebendref01_Ints.f kj16 t290 (y301 ++ y304)).bind fun t312 => (some t312)) else (none))) else (none)) else (none))) else (none))) else (none)))) else (some false))) else (none)) else (none)) else (none)) else (none)) = some r := by first | (rw [hji31] at H; exact H) | (simp only [hji31] at H ⊢; exact H)
            by_cases c32 : 0 ≤ (ji31)
            · rw [if_pos c32] at H
              have c32b0 : decide (0 ≤ (ji31)) = true := decide_eq_true c32
              clear c32
              by_cases c33 : (ji31) < (t281.length : Int)
              · rw [if_pos c33] at H
                have c33b0 : decide ((ji31) < (t281.length : Int)) = true := decide_eq_true c33
                clear c33
                by_cases c34 : 0 ≤ (rd t281 (ji31))
                · rw [if_pos c34] at H
                  have c34b0 : decide (0 ≤ (rd t281 (ji31))) = true := decide_eq_true c34
                  clear c34
                  by_cases c35 : (rd t281 (ji31)) < (y278.length : Int)
                  · rw [if_pos c35] at H
                    have c35b0 : decide ((rd t281 (ji31)) < (y278.length : Int)) = true := decide_eq_true c35
                    clear c35
                    obtain ⟨y288, hy288⟩ : ∃ y_ : List (S32), y_ = (y278.set ((rd t281 (ji31)) : Int).toNat (⟨(rd_T32 y278 (rd t281 (ji31))).f0, (rd_T32 y278 (rd t281 (ji31))).f1, (rd_T32 y278 (rd t281 (ji31))).f2, (rd_T32 y278 (rd t281 (ji31))).f3, (rd_T32 y278 (rd t281 (ji31))).f4, (rd_T32 y278 (rd t281 (ji31))).f5, (rd_T32 y278 (rd t281 (ji31))).f6, 2, (rd_T32 y278 (rd t281 (ji31))).f8, (rd_T32 y278 (rd t281 (ji31))).f9, (rd_T32 y278 (rd t281 (ji31))).f10, (rd_T32 y278 (rd t281 (ji31))).f11⟩ : S32)) := ⟨_, rfl⟩
                    replace H : ((prebendlaw15_awake.f kj16).bind fun t289 => (if t289 = true then ((order_Order.f kj16 y288).bind fun t290 => ((some (([] : List Int) : List Int)).bind fun y293 => (if (ji31) ≤ (t281.length : Int) then ((some (t281.take ((ji31) : Int).toNat : List Int)).bind fun y296 => (if y293.length + y296.length < 17592186044416 then ((some (y293 ++ y296 : List Int)).bind fun y301 => (if 0 ≤ (wrap64 ((ji31) + 1)) then (if (wrap64 ((ji31) + 1)) ≤ (t281.length : Int) then ((some (t281.drop ((wrap64 ((ji31) + 1)) : Int).toNat : List Int)).bind fun y304 => (if y301.length + y304.length < 17592186044416 then ((prebendref01_Ints.f kj16 t290 (y301 ++ y304)).bind fun t312 => (some t312)) else (none))) else (none)) else (none))) else (none))) else (none)))) else (some false))) = some r := by first | (rw [hy288]; with_reducible exact H) | (have H2_ := (Option.bind_some _ _).symm.trans H; rw [hy288]; with_reducible exact H2_) | (have H2_ := (Option.bind_some _ _).symm.trans H; with_reducible exact H2_) | with_reducible exact H | (rw [hy288]; exact H) | exact H
                    have Ny288 := Aside0.mk hy288
                    clear hy288
                    replace H := Option.bind_eq_some_iff.mp H
                    obtain ⟨t289, A370, H⟩ := H
                    replace H : (if t289 = true then ((order_Order.f kj16 y288).bind fun t290 => ((some (([] : List Int) : List Int)).bind fun y293 => (if (ji31) ≤ (t281.length : Int) then ((some (t281.take ((ji31) : Int).toNat : List Int)).bind fun y296 => (if y293.length + y296.length < 17592186044416 then ((some (y293 ++ y296 : List Int)).bind fun y301 => (if 0 ≤ (wrap64 ((ji31) + 1)) then (if (wrap64 ((ji31) + 1)) ≤ (t281.length : Int) then ((some (t281.drop ((wrap64 ((ji31) + 1)) : Int).toNat : List Int)).bind fun y304 => (if y301.length + y304.length < 17592186044416 then ((prebendref01_Ints.f kj16 t290 (y301 ++ y304)).bind fun t312 => (some t312)) else (none))) else (none)) else (none))) else (none))) else (none)))) else (some false)) = some r := H
                    have A37 := Aside0.mk A370
                    clear A370
                    by_cases c38 : t289 = true
                    · subst c38
                      have H1 : ((order_Order.f kj16 y288).bind fun t290 => ((some (([] : List Int) : List Int)).bind fun y293 => (if (ji31) ≤ (t281.length : Int) then ((some (t281.take ((ji31) : Int).toNat : List Int)).bind fun y296 => (if y293.length + y296.length < 17592186044416 then ((some (y293 ++ y296 : List Int)).bind fun y301 => (if 0 ≤ (wrap64 ((ji31) + 1)) then (if (wrap64 ((ji31) + 1)) ≤ (t281.length : Int) then ((some (t281.drop ((wrap64 ((ji31) + 1)) : Int).toNat : List Int)).bind fun y304 => (if y301.length + y304.length < 17592186044416 then ((prebendref01_Ints.f kj16 t290 (y301 ++ y304)).bind fun t312 => (some t312)) else (none))) else (none)) else (none))) else (none))) else (none)))) = some r := by rw [if_pos rfl] at H; exact H
                      clear H
                      have H := H1
                      clear H1
                      replace H := Option.bind_eq_some_iff.mp H
                      obtain ⟨t290, A390, H⟩ := H
                      replace H : ((some (([] : List Int) : List Int)).bind fun y293 => (if (ji31) ≤ (t281.length : Int) then ((some (t281.take ((ji31) : Int).toNat : List Int)).bind fun y296 => (if y293.length + y296.length < 17592186044416 then ((some (y293 ++ y296 : List Int)).bind fun y301 => (if 0 ≤ (wrap64 ((ji31) + 1)) then (if (wrap64 ((ji31) + 1)) ≤ (t281.length : Int) then ((some (t281.drop ((wrap64 ((ji31) + 1)) : Int).toNat : List Int)).bind fun y304 => (if y301.length + y304.length < 17592186044416 then ((prebendref01_Ints.f kj16 t290 (y301 ++ y304)).bind fun t312 => (some t312)) else (none))) else (none)) else (none))) else (none))) else (none))) = some r := H
                      have A39 := Aside0.mk A390
                      clear A390
                      obtain ⟨y293, hy293⟩ : ∃ y_ : List Int, y_ = (([] : List Int)) := ⟨_, rfl⟩
                      replace H : (if (ji31) ≤ (t281.length : Int) then ((some (t281.take ((ji31) : Int).toNat : List Int)).bind fun y296 => (if y293.length + y296.length < 17592186044416 then ((some (y293 ++ y296 : List Int)).bind fun y301 => (if 0 ≤ (wrap64 ((ji31) + 1)) then (if (wrap64 ((ji31) + 1)) ≤ (t281.length : Int) then ((some (t281.drop ((wrap64 ((ji31) + 1)) : Int).toNat : List Int)).bind fun y304 => (if y301.length + y304.length < 17592186044416 then ((prebendref01_Ints.f kj16 t290 (y301 ++ y304)).bind fun t312 => (some t312)) else (none))) else (none)) else (none))) else (none))) else (none)) = some r := by first | (rw [hy293]; with_reducible exact H) | (have H2_ := (Option.bind_some _ _).symm.trans H; rw [hy293]; with_reducible exact H2_) | (have H2_ := (Option.bind_some _ _).symm.trans H; with_reducible exact H2_) | with_reducible exact H | (rw [hy293]; exact H) | exact H
                      have Ny293 := Aside0.mk hy293
                      clear hy293
                      have c40b0 := eq_true (of_decide_eq_true (by first | (with_reducible assumption) | assumption) : 0 ≤ (ji31))
                      by_cases c41 : (ji31) ≤ (t281.length : Int)
                      · rw [if_pos c41] at H
                        have c41b0 := eq_true c41
                        have c41b1 : decide ((ji31) ≤ (t281.length : Int)) = true := decide_eq_true c41
                        clear c41
                        obtain ⟨y296, hy296⟩ : ∃ y_ : List Int, y_ = (t281.take ((ji31) : Int).toNat) := ⟨_, rfl⟩
                        replace H : (if y293.length + y296.length < 17592186044416 then ((some (y293 ++ y296 : List Int)).bind fun y301 => (if 0 ≤ (wrap64 ((ji31) + 1)) then (if (wrap64 ((ji31) + 1)) ≤ (t281.length : Int) then ((some (t281.drop ((wrap64 ((ji31) + 1)) : Int).toNat : List Int)).bind fun y304 => (if y301.length + y304.length < 17592186044416 then ((prebendref01_Ints.f kj16 t290 (y301 ++ y304)).bind fun t312 => (some t312)) else (none))) else (none)) else (none))) else (none)) = some r := by first | (rw [hy296]; with_reducible exact H) | (have H2_ := (Option.bind_some _ _).symm.trans H; rw [hy296]; with_reducible exact H2_) | (have H2_ := (Option.bind_some _ _).symm.trans H; with_reducible exact H2_) | with_reducible exact H | (rw [hy296]; exact H) | exact H
                        have Ny296 := Aside0.mk hy296
                        clear hy296
                        by_cases c42 : y293.length + y296.length < 17592186044416
                        · rw [if_pos c42] at H
                          have LMc42 := Aside0.mk c42
                          clear c42
                          obtain ⟨y301, hy301⟩ : ∃ y_ : List Int, y_ = (y293 ++ y296) := ⟨_, rfl⟩
                          replace H : (if 0 ≤ (wrap64 ((ji31) + 1)) then (if (wrap64 ((ji31) + 1)) ≤ (t281.length : Int) then ((some (t281.drop ((wrap64 ((ji31) + 1)) : Int).toNat : List Int)).bind fun y304 => (if y301.length + y304.length < 17592186044416 then ((prebendref01_Ints.f kj16 t290 (y301 ++ y304)).bind fun t312 => (some t312)) else (none))) else (none)) else (none)) = some r := by first | (rw [hy301]; with_reducible exact H) | (have H2_ := (Option.bind_some _ _).symm.trans H; rw [hy301]; with_reducible exact H2_) | (have H2_ := (Option.bind_some _ _).symm.trans H; with_reducible exact H2_) | with_reducible exact H | (rw [hy301]; exact H) | exact H
                          have Ny301 := Aside0.mk hy301
                          clear hy301
                          obtain ⟨ji43, hji43⟩ : ∃ j_ : Int, (wrap64 ((ji31) + 1)) = j_ := ⟨_, rfl⟩
                          replace H : (if 0 ≤ (ji43) then (if (ji43) ≤ (t281.length : Int) then ((some (t281.drop ((ji43) : Int).toNat : List Int)).bind fun y304 => (if y301.length + y304.length < 17592186044416 then ((prebendref01_Ints.f kj16 t290 (y301 ++ y304)).bind fun t312 => (some t312)) else (none))) else (none)) else (none)) = some r := by first | (rw [hji43] at H; exact H) | (simp only [hji43] at H ⊢; exact H)
                          (try rw [hji43] at A37)
                          (try rw [hji43] at A39)
                          have hji43w : (IntKind.i64.wrap ((ji31) + 1)) = ji43 := (i64_w _).trans hji43
                          by_cases c44 : 0 ≤ (ji43)
                          · rw [if_pos c44] at H
                            have c44b0 := eq_true c44
                            have c44b1 : decide (0 ≤ (ji43)) = true := decide_eq_true c44
                            clear c44
                            by_cases c45 : (ji43) ≤ (t281.length : Int)
                            · rw [if_pos c45] at H
                              have c45b0 := eq_true c45
                              have c45b1 : decide ((ji43) ≤ (t281.length : Int)) = true := decide_eq_true c45
                              clear c45
                              obtain ⟨y304, hy304⟩ : ∃ y_ : List Int, y_ = (t281.drop ((ji43) : Int).toNat) := ⟨_, rfl⟩
                              replace H : (if y301.length + y304.length < 17592186044416 then ((prebendref01_Ints.f kj16 t290 (y301 ++ y304)).bind fun t312 => (some t312)) else (none)) = some r := by first | (rw [hy304]; with_reducible exact H) | (have H2_ := (Option.bind_some _ _).symm.trans H; rw [hy304]; with_reducible exact H2_) | (have H2_ := (Option.bind_some _ _).symm.trans H; with_reducible exact H2_) | with_reducible exact H | (rw [hy304]; exact H) | exact H
                              have Ny304 := Aside0.mk hy304
                              clear hy304
                              by_cases c46 : y301.length + y304.length < 17592186044416
                              · rw [if_pos c46] at H
                                have LMc46 := Aside0.mk c46
                                clear c46
                                obtain ⟨y309, hy309⟩ : ∃ y_ : List Int, y_ = (y301 ++ y304) := ⟨_, rfl⟩
                                replace H : ((prebendref01_Ints.f kj16 t290 y309).bind fun t312 => (some t312)) = some r := by first | (rw [hy309]; with_reducible exact H) | (have H2_ := (Option.bind_some _ _).symm.trans H; rw [hy309]; with_reducible exact H2_) | (have H2_ := (Option.bind_some _ _).symm.trans H; with_reducible exact H2_) | with_reducible exact H | (rw [hy309]; exact H) | exact H
                                have Ny309 := Aside0.mk hy309
                                clear hy309
                                replace H := Option.bind_eq_some_iff.mp H
                                obtain ⟨t312, A470, H⟩ := H
                                replace H : (some t312) = some r := H
                                have A47 := Aside0.mk A470
                                clear A470
                                obtain rfl := Option.some.inj H
                                have p287 : 0 ≤ ((ji31) : Int) := of_decide_eq_true (by first | (with_reducible assumption) | assumption)
                                have q287 : (ji31) < (t281.length : Int) := of_decide_eq_true (by first | (with_reducible assumption) | assumption)
                                obtain ⟨ad287, e287, hx287_0⟩ := Kd.at_int (Kd.V_reads' HO_6.out).2.2 (ji31) p287 q287
                                cases e287
                                replace p287 := eq_true p287
                                replace q287 := eq_true q287
                                have p36 : 0 ≤ ((rd t281 (ji31)) : Int) := of_decide_eq_true (by first | (with_reducible assumption) | assumption)
                                have q36 : ((rd t281 (ji31)) : Int) < ((y278.length : Int) : Int) := of_decide_eq_true (by first | (with_reducible assumption) | assumption)
                                obtain ⟨go36, co36, eo36, gb36, gl36, cl36, HG36⟩ := Kd.N_form HO_5.out (by omega)
                                (first | cases eo36 | (injection eo36 with ea_ en_ ec_; (first | subst ea_ | (injection ea_ with ea_; subst ea_)); subst ec_; clear en_))
                                have GB36 := Aside0.mk gb36
                                have GG36 := Aside0.mk HG36
                                clear gb36 gl36 HG36
                                obtain ⟨ce36, hcl36, hM36, hcc36, hfr36⟩ := Kd.N_elem HO_5.out z32 ((rd t281 (ji31)) : Int) p36 q36
                                obtain ⟨ua36_11, uc36_11, rfl, ul36_11, ge36_11⟩ := k32_openF hM36
                                have hx36_0 : wc.cell? ⟨go36, ((rd t281 (ji31)) : Int).toNat * 12, none⟩ = some (.int .i64 ((rd_T32 y278 (rd t281 (ji31))).f0)) := hcc36 0 _ rfl
                                have hx36_1 : wc.cell? ⟨go36, ((rd t281 (ji31)) : Int).toNat * 12 + 1, none⟩ = some (.int .i64 ((rd_T32 y278 (rd t281 (ji31))).f1)) := hcc36 1 _ rfl
                                have hx36_2 : wc.cell? ⟨go36, ((rd t281 (ji31)) : Int).toNat * 12 + 2, none⟩ = some (.int .i64 ((rd_T32 y278 (rd t281 (ji31))).f2)) := hcc36 2 _ rfl
                                have hx36_3 : wc.cell? ⟨go36, ((rd t281 (ji31)) : Int).toNat * 12 + 3, none⟩ = some (.int .i64 ((rd_T32 y278 (rd t281 (ji31))).f3)) := hcc36 3 _ rfl
                                have hx36_4 : wc.cell? ⟨go36, ((rd t281 (ji31)) : Int).toNat * 12 + 4, none⟩ = some (.int .i64 ((rd_T32 y278 (rd t281 (ji31))).f4)) := hcc36 4 _ rfl
                                have hx36_5 : wc.cell? ⟨go36, ((rd t281 (ji31)) : Int).toNat * 12 + 5, none⟩ = some (.int .i64 ((rd_T32 y278 (rd t281 (ji31))).f5)) := hcc36 5 _ rfl
                                have hx36_6 : wc.cell? ⟨go36, ((rd t281 (ji31)) : Int).toNat * 12 + 6, none⟩ = some (.int .i64 ((rd_T32 y278 (rd t281 (ji31))).f6)) := hcc36 6 _ rfl
                                have hx36_7 : wc.cell? ⟨go36, ((rd t281 (ji31)) : Int).toNat * 12 + 7, none⟩ = some (.int .i64 ((rd_T32 y278 (rd t281 (ji31))).f7)) := hcc36 7 _ rfl
                                have hx36_8 : wc.cell? ⟨go36, ((rd t281 (ji31)) : Int).toNat * 12 + 8, none⟩ = some (.int .i64 ((rd_T32 y278 (rd t281 (ji31))).f8)) := hcc36 8 _ rfl
                                have hx36_9 : wc.cell? ⟨go36, ((rd t281 (ji31)) : Int).toNat * 12 + 9, none⟩ = some (.int .i64 ((rd_T32 y278 (rd t281 (ji31))).f9)) := hcc36 9 _ rfl
                                have hx36_10 : wc.cell? ⟨go36, ((rd t281 (ji31)) : Int).toNat * 12 + 10, none⟩ = some (.int .i64 ((rd_T32 y278 (rd t281 (ji31))).f10)) := hcc36 10 _ rfl
                                have hx36_11 : wc.cell? ⟨go36, ((rd t281 (ji31)) : Int).toNat * 12 + 11, none⟩ = some (.slice ua36_11 ((rd_T32 y278 (rd t281 (ji31))).f11).length uc36_11) := hcc36 11 _ rfl
                                have hf36_0 : wc.frozen? ⟨go36, ((rd t281 (ji31)) : Int).toNat * 12, none⟩ = false := hfr36 0
                                have hf36_1 : wc.frozen? ⟨go36, ((rd t281 (ji31)) : Int).toNat * 12 + 1, none⟩ = false := hfr36 1
                                have hf36_2 : wc.frozen? ⟨go36, ((rd t281 (ji31)) : Int).toNat * 12 + 2, none⟩ = false := hfr36 2
                                have hf36_3 : wc.frozen? ⟨go36, ((rd t281 (ji31)) : Int).toNat * 12 + 3, none⟩ = false := hfr36 3
                                have hf36_4 : wc.frozen? ⟨go36, ((rd t281 (ji31)) : Int).toNat * 12 + 4, none⟩ = false := hfr36 4
                                have hf36_5 : wc.frozen? ⟨go36, ((rd t281 (ji31)) : Int).toNat * 12 + 5, none⟩ = false := hfr36 5
                                have hf36_6 : wc.frozen? ⟨go36, ((rd t281 (ji31)) : Int).toNat * 12 + 6, none⟩ = false := hfr36 6
                                have hf36_7 : wc.frozen? ⟨go36, ((rd t281 (ji31)) : Int).toNat * 12 + 7, none⟩ = false := hfr36 7
                                have hf36_8 : wc.frozen? ⟨go36, ((rd t281 (ji31)) : Int).toNat * 12 + 8, none⟩ = false := hfr36 8
                                have hf36_9 : wc.frozen? ⟨go36, ((rd t281 (ji31)) : Int).toNat * 12 + 9, none⟩ = false := hfr36 9
                                have hf36_10 : wc.frozen? ⟨go36, ((rd t281 (ji31)) : Int).toNat * 12 + 10, none⟩ = false := hfr36 10
                                have hf36_11 : wc.frozen? ⟨go36, ((rd t281 (ji31)) : Int).toNat * 12 + 11, none⟩ = false := hfr36 11
                                clear hcl36 hcc36 hfr36 hM36
                                replace p36 := eq_true p36
                                replace q36 := eq_true q36
                                have HX48 := Aside0.mk (show Kd.N k32 32 wc w.heap.size (fun _ => True) (.slice (some ⟨go36, 0, none⟩) y278.length co23) y278 from (by (with_reducible repeat (first | apply Kd.N_alloc | apply Kd.N_drewN | apply Kd.N_drew)); exact HO_5.out))
                                obtain ⟨ce48, hcl48, hM48, hcc48, hfr48⟩ := Kd.N_elem HX48.out z32 ((rd t281 (ji31)) : Int) (of_decide_eq_true (by first | (with_reducible assumption) | assumption)) (by have h_ : ((rd t281 (ji31)) : Int) < ((y278.length : Int) : Int) := of_decide_eq_true (by first | (with_reducible assumption) | assumption); first | exact h_ | (have e_ := (Kd.N_reads' HO_5.out).1; omega) | simpa using h_)
                                obtain ⟨ua48_11, uc48_11, rfl, ul48_11, ge48_11⟩ := k32_openF hM48
                                have HP48 := Kd.N_seg HX48.out ((rd t281 (ji31)) : Int) (of_decide_eq_true (by first | (with_reducible assumption) | assumption)) (by have h_ : ((rd t281 (ji31)) : Int) < ((y278.length : Int) : Int) := of_decide_eq_true (by first | (with_reducible assumption) | assumption); first | exact h_ | (have e_ := (Kd.N_reads' HO_5.out).1; omega) | simpa using h_) (seg := [.int .i64 2]) (j := 7) hcl48 hcc48 (show 8 ≤ 12 from by decide) (x' := (⟨(rd_T32 y278 (rd t281 (ji31))).f0, (rd_T32 y278 (rd t281 (ji31))).f1, (rd_T32 y278 (rd t281 (ji31))).f2, (rd_T32 y278 (rd t281 (ji31))).f3, (rd_T32 y278 (rd t281 (ji31))).f4, (rd_T32 y278 (rd t281 (ji31))).f5, (rd_T32 y278 (rd t281 (ji31))).f6, 2, (rd_T32 y278 (rd t281 (ji31))).f8, (rd_T32 y278 (rd t281 (ji31))).f9, (rd_T32 y278 (rd t281 (ji31))).f10, (rd_T32 y278 (rd t281 (ji31))).f11⟩ : S32)) (k32_mkF _ _ (⟨(rd_T32 y278 (rd t281 (ji31))).f0, (rd_T32 y278 (rd t281 (ji31))).f1, (rd_T32 y278 (rd t281 (ji31))).f2, (rd_T32 y278 (rd t281 (ji31))).f3, (rd_T32 y278 (rd t281 (ji31))).f4, (rd_T32 y278 (rd t281 (ji31))).f5, (rd_T32 y278 (rd t281 (ji31))).f6, 2, (rd_T32 y278 (rd t281 (ji31))).f8, (rd_T32 y278 (rd t281 (ji31))).f9, (rd_T32 y278 (rd t281 (ji31))).f10, (rd_T32 y278 (rd t281 (ji31))).f11⟩ : S32) ul48_11 ge48_11) (fun _ hk => hk)
                                have hx48_7 := hcc48 7 _ rfl
                                (try simp only [show (k32).sz = 12 from rfl, Nat.mul_one, Nat.add_zero] at hx48_7)
                                have hf48_7 := hfr48 7
                                (try simp only [show (k32).sz = 12 from rfl, Nat.mul_one, Nat.add_zero] at hf48_7)
                                clear hcl48 hcc48 hfr48 hM48
                                try go_wp2_with (first | ((with_reducible refine gate_store (t := 3) (p := 43) rfl ?_); refine store_event (t := 3) (p := 43) (v := ?vo_w49) (w1 := (wc.setCell ⟨go36, ((rd t281 (ji31)) : Int).toNat * 12 + 7, none⟩ (.int .i64 2))) ?hg ?ho ?hn ?hr ?_; (case ho => rfl); (case hg => rfl); (case hn => rfl); (case hr => first | (go_simp; done) | (go_simp; rfl)); intro w49 hw; have hg : wc.grownBy w49 (some go36) := (by rw [hw]; exact HP48.2); have hp_ : Kd.N k32 32 w49 w.heap.size (fun _ => True) (.slice (some ⟨go36, 0, none⟩) y278.length co23) y288 := (by rw [hw, Ny288.out]; exact HP48.1); clear HP48; have n0_ := Aside0.mk (hp_); have n1_ := Aside0.mk (Kd.V_afterv (v := (.slice (some ⟨go36, 0, none⟩) y278.length co23)) (v1 := (.slice (some ⟨go36, 0, none⟩) y278.length co23)) (ok := (fun _ => True)) (by (with_reducible repeat (first | apply Kd.V_alloc | apply Kd.V_drewN | apply Kd.V_drew)); exact Kd.V_mono HO_6.out (fun _ hk => ⟨trivial, hk⟩)) hg (.inl rfl)); have n2_ := Aside0.mk ((by rw [hw]; exact below_set (HB.out) GB36.out : Below w.heap.size w w49)); clear HO_5; clear HO_6; clear HB; have HO_5 := n0_; have HO_6 := n1_; have HB := n2_; clear n0_ n1_ n2_; clear hg hw hp_))
                                have n0_ := Aside0.mk (Kd.N_drew HO_5.out)
                                have n1_ := Aside0.mk (Kd.V_drew HO_6.out)
                                have n2_ := Aside0.mk (below_drew1 HB.out)
                                clear HO_5
                                clear HO_6
                                clear HB
                                have HO_5 := n0_
                                have HO_6 := n1_
                                have HB := n2_
                                clear n0_ n1_ n2_
                                refine start_ (n := 17) (S := fun w' => True) (ds := []) #[false, false, false, false, false, false, false, false, false, false, false, false, false, false, false, false, false] (by kernel_rfl) rfl rfl trivial (fun hHeld => ?_); refine with_tabW prebendlaw15_OrderLess.tab9 prebendlaw15_OrderLess.bits9 (fun HT_ HW_ => ?_)
                                generalize w49.drew = w50 at HO_5 HO_6 HB hHeld ⊢
                                refine one_ (i := 0) (N := some 44) #[true, false, false, false, false, false, false, false, false, false, false, false, false, false, false, false, false] rfl rfl (one_of HT_.out (by kernel_rfl)) (by decide) (fun K hK => ?_)
                                refine goes_ Try.func12 (by kernel_rfl) rfl #[] (by rfl) rfl rfl (by (try simp only [List.map_toArray, List.map_cons, List.map_nil]); first | done | rfl | (simp only [List.length_drop, List.length_take]; rfl)) ?_
                                with_reducible refine (prebendlaw15_awake.calls kj16  true _ A37.out).mono ?_
                                rintro e w51 ⟨rfl, hb⟩
                                refine ⟨_, rfl, ?_⟩
                                have n0_ := Aside0.mk (Kd.N_below (by (with_reducible repeat (first | apply Kd.N_alloc | apply Kd.N_drewN | apply Kd.N_drew)); exact HO_5.out) hb)
                                have n1_ := Aside0.mk (Kd.V_below (by (with_reducible repeat (first | apply Kd.V_alloc | apply Kd.V_drewN | apply Kd.V_drew)); exact HO_6.out) hb)
                                have n2_ := Aside0.mk (below_step (by repeat (first | (with_reducible first | exact HB.out | apply below_alloc | apply pw_below_drewN | apply below_drew1) | exact HB.out)) hb)
                                clear HO_5
                                clear HO_6
                                clear HB
                                have HO_5 := n0_
                                have HO_6 := n1_
                                have HB := n2_
                                clear n0_ n1_ n2_
                                (try clear hb)
                                (try clear hb2)
                                (try clear hk)
                                (try clear hi)
                                have q52 : ((ji31) : Int) ≤ ((t281.length : Int) : Int) := of_decide_eq_true (by first | (with_reducible assumption) | assumption)
                                obtain ⟨i052, hi052, _, hsz52, _⟩ := info_parts info3
                                have hroom52 : t281.length ≤ co25 := (Kd.V_reads' HO_6.out).2.1
                                have hC52 : Kd.F (Kd.int .i64) _ _ (some ad287) t281.length t281 := (Kd.V_at (base := w.heap.size) HO_6.out).2.2
                                have hcut52 := cut_to (P := Try.prog) 24 3 .i64 Try.underlying24 hi052 (some ad287) t281.length co25 (ji31) (of_decide_eq_true (by first | (with_reducible assumption) | assumption)) q52 hroom52
                                have hr52 := Kd.F_take (m := ((ji31) : Int).toNat) hC52 (by omega)
                                have hy52 : y296.length = ((ji31) : Int).toNat := (by rw [Ny296.out, List.length_take]; omega)
                                rw [← Ny296.out] at hr52
                                rw [← hy52] at hcut52
                                have HO300 := Aside0.mk (show Kd.V (Kd.int .i64) 3 _ w.heap.size _ (.slice (some ad287) y296.length co25) y296 from Kd.V_mk (by omega) hr52)
                                have HC300 := Aside0.mk (show y296.length ≤ co25 from by omega)
                                clear hr52 hC52 hroom52 hi052 hsz52
                                have KY52 := Aside0.mk hy52
                                clear hy52
                                replace q52 := eq_true q52
                                have q53 : ((ji43) : Int) ≤ ((t281.length : Int) : Int) := of_decide_eq_true (by first | (with_reducible assumption) | assumption)
                                obtain ⟨i053, hi053, _, hsz53, _⟩ := info_parts info3
                                have hroom53 : t281.length ≤ co25 := (Kd.V_reads' HO_6.out).2.1
                                have hC53 : Kd.F (Kd.int .i64) _ _ (some ad287) t281.length t281 := (Kd.V_at (base := w.heap.size) HO_6.out).2.2
                                have q053 : (0 : Int) ≤ ((ji43) : Int) := of_decide_eq_true (by first | (with_reducible assumption) | assumption)
                                have hcut53 := cut_from (P := Try.prog) 24 3 .i64 Try.underlying24 hi053 1 hsz53 (some ad287) t281.length co25 (ji43) q053 q53
                                have hr53 := Kd.F_cut (m := ((ji43) : Int).toNat) (c := co25) hC53 (by omega) hroom53
                                obtain ⟨A53, hA53⟩ : ∃ A1, A1 = (if co25 = ((ji43) : Int).toNat then (some ad287) else ((some ad287) : Option Addr).map (·.add (((ji43) : Int).toNat * 1))) := ⟨_, rfl⟩
                                obtain ⟨c53, hc53⟩ : ∃ c1, c1 = co25 - ((ji43) : Int).toNat := ⟨_, rfl⟩
                                have hy53 : y304.length = t281.length - ((ji43) : Int).toNat := (by rw [Ny304.out, List.length_drop] <;> omega)
                                rw [show (t281).drop ((ji43) : Int).toNat = y304 from Ny304.out.symm] at hr53
                                replace hr53 : Kd.F (Kd.int .i64) _ _ A53 y304.length y304 := (by rw [hA53]; exact hr53)
                                rw [← hy53, ← hA53, ← hc53] at hcut53
                                have HO308 := Aside0.mk (show Kd.V (Kd.int .i64) 3 _ w.heap.size _ (.slice A53 y304.length c53) y304 from Kd.V_mk (by rw [hy53, hc53]; exact Nat.sub_le_sub_right hroom53 _) hr53)
                                have HC308 := Aside0.mk (show y304.length ≤ c53 from by rw [hy53, hc53]; exact Nat.sub_le_sub_right hroom53 _)
                                clear hr53 hC53 hroom53 hi053 hsz53 hc53
                                have KY53 := Aside0.mk hy53
                                have KA53 := Aside0.mk hA53
                                clear hy53 hA53
                                replace q53 := eq_true q53
                                refine hK.out _ _ trivial (fun hHeld => ?_)
                                clear hK K
                                refine norm_ (a' := ?_) ?_ ?_
                                rotate_left
                                · show Act.put _ (some 44) _ = _
                                  simp only [Act.put, List.setIfInBounds_toArray, List.set_cons_zero, List.set_cons_succ, i64_w, i32_w]
                                  rfl
                                refine pure_ (i := 1) (N := some 45) (v := ?_) (a' := ?_) #[true, true, false, false, false, false, false, false, false, false, false, false, false, false, false, false, false] rfl rfl (any_of HT_.out (by kernel_rfl)) (fun _ _ _ h => h) (Or.inl ⟨by rfl, ?_⟩) ?_ ?_
                                rotate_left
                                · intro w'
                                  go_simp
                                  with_reducible rfl
                                rotate_left
                                · simp only [Act.put, List.setIfInBounds_toArray, List.set_cons_zero, List.set_cons_succ, i64_w, i32_w]
                                  rfl
                                refine pure_ (i := 2) (N := some 46) (v := ?_) (a' := ?_) #[true, true, true, false, false, false, false, false, false, false, false, false, false, false, false, false, false] rfl rfl (any_of HT_.out (by kernel_rfl)) (fun _ _ _ h => h) (Or.inl ⟨by rfl, ?_⟩) ?_ ?_
                                rotate_left
                                · intro w'
                                  go_simp
                                  with_reducible rfl
                                rotate_left
                                · simp only [Act.put, List.setIfInBounds_toArray, List.set_cons_zero, List.set_cons_succ, i64_w, i32_w]
                                  rfl
                                refine pure_ (i := 5) (N := some 49) (v := ?_) (a' := ?_) #[true, true, true, false, false, true, false, false, false, false, false, false, false, false, false, false, false] rfl rfl (any_of HT_.out (by kernel_rfl)) (fun _ _ _ h => h) (Or.inl ⟨by rfl, ?_⟩) ?_ ?_
                                rotate_left
                                · intro w'
                                  go_simp
                                  with_reducible rfl
                                rotate_left
                                · simp only [Act.put, List.setIfInBounds_toArray, List.set_cons_zero, List.set_cons_succ, i64_w, i32_w]
                                  rfl
                                refine pure_ (i := 6) (N := some 50) (v := ?_) (a' := ?_) #[true, true, true, false, false, true, true, false, false, false, false, false, false, false, false, false, false] rfl rfl (any_of HT_.out (by kernel_rfl)) (fun _ _ _ h => h) (Or.inl ⟨by rfl, ?_⟩) ?_ ?_
                                rotate_left
                                · intro w'
                                  go_simp
                                  with_reducible rfl
                                rotate_left
                                · simp only [Act.put, List.setIfInBounds_toArray, List.set_cons_zero, List.set_cons_succ, i64_w, i32_w]
                                  rfl
                                refine pure_ (i := 7) (N := some 51) (v := ?_) (a' := ?_) #[true, true, true, false, false, true, true, true, false, false, false, false, false, false, false, false, false] rfl rfl (any_of HT_.out (by kernel_rfl)) (fun _ _ _ h => h) (Or.inl ⟨by rfl, ?_⟩) ?_ ?_
                                rotate_left
                                · intro w'
                                  go_simp
                                  with_reducible rfl
                                rotate_left
                                · simp only [Act.put, List.setIfInBounds_toArray, List.set_cons_zero, List.set_cons_succ, i64_w, i32_w]
                                  rfl
                                refine pure_ (i := 9) (N := some 53) (v := ?_) (a' := ?_) #[true, true, true, false, false, true, true, true, false, true, false, false, false, false, false, false, false] rfl rfl (any_of HT_.out (by kernel_rfl)) (fun _ _ _ h => h) (Or.inl ⟨by rfl, ?_⟩) ?_ ?_
                                rotate_left
                                · intro w'
                                  go_simp
                                  with_reducible rfl
                                rotate_left
                                · simp only [Act.put, List.setIfInBounds_toArray, List.set_cons_zero, List.set_cons_succ, i64_w, i32_w]
                                  rfl
                                refine pure_ (i := 10) (N := some 54) (v := ?_) (a' := ?_) #[true, true, true, false, false, true, true, true, false, true, true, false, false, false, false, false, false] rfl rfl (any_of HT_.out (by kernel_rfl)) (fun _ _ _ h => h) (Or.inl ⟨by rfl, ?_⟩) ?_ ?_
                                rotate_left
                                · intro w'
                                  go_simp
                                  with_reducible rfl
                                rotate_left
                                · simp only [Act.put, List.setIfInBounds_toArray, List.set_cons_zero, List.set_cons_succ, i64_w, i32_w]
                                  rfl
                                refine pure_ (i := 11) (N := some 55) (v := ?_) (a' := ?_) #[true, true, true, false, false, true, true, true, false, true, true, true, false, false, false, false, false] rfl rfl (any_of HT_.out (by kernel_rfl)) (fun _ _ _ h => h) (Or.inl ⟨by rfl, ?_⟩) ?_ ?_
                                rotate_left
                                · intro w'
                                  go_simp
                                  with_reducible rfl
                                rotate_left
                                · simp only [Act.put, List.setIfInBounds_toArray, List.set_cons_zero, List.set_cons_succ, i64_w, i32_w]
                                  rfl
                                refine pure_ (i := 12) (N := some 56) (v := ?_) (a' := ?_) #[true, true, true, false, false, true, true, true, false, true, true, true, true, false, false, false, false] rfl rfl (any_of HT_.out (by kernel_rfl)) (fun _ _ _ h => h) (Or.inl ⟨by rfl, ?_⟩) ?_ ?_
                                rotate_left
                                · intro w'
                                  go_simp
                                  with_reducible rfl
                                rotate_left
                                · simp only [Act.put, List.setIfInBounds_toArray, List.set_cons_zero, List.set_cons_succ, i64_w, i32_w]
                                  rfl
                                refine join_ (σ := Value × Value) 5 #[true, true, true, true, true, true, true, true, false, true, true, true, true, false, false, false, false] (fun s_ => [(47, s_.1), (48, s_.2)]) (fun s_ w' => (Kd.V (Kd.int .i64) 3 w' w.heap.size (fun k_ => some k_ ≠ (s_.2 : Value).ownBlock ∧ some k_ ≠ (.slice (some ⟨go36, 0, none⟩) y278.length co23 : Value).ownBlock) s_.1 t290) ∧ (Kd.R (Kd.int .i64) 3 w' w.heap.size (fun _ => True) s_.2 y293) ∧ (Kd.V (Kd.int .i64) 3 w' w.heap.size (fun k_ => some k_ ≠ (s_.2 : Value).ownBlock ∧ some k_ ≠ (.slice (some ⟨go36, 0, none⟩) y278.length co23 : Value).ownBlock) (.slice (some ad287) y296.length co25) y296) ∧ (Kd.V (Kd.int .i64) 3 w' w.heap.size (fun k_ => some k_ ≠ (s_.2 : Value).ownBlock ∧ some k_ ≠ (.slice (some ⟨go36, 0, none⟩) y278.length co23 : Value).ownBlock) (.slice A53 y304.length c53) y304) ∧ (Kd.N k32 32 w' w.heap.size (fun k_ => some k_ ≠ (s_.2 : Value).ownBlock) (.slice (some ⟨go36, 0, none⟩) y278.length co23) y288) ∧ (Kd.V (Kd.int .i64) 3 w' w.heap.size (fun k_ => some k_ ≠ (s_.2 : Value).ownBlock ∧ some k_ ≠ (.slice (some ⟨go36, 0, none⟩) y278.length co23 : Value).ownBlock) (.slice (some ad287) t281.length co25) t281) ∧ (Below w.heap.size w w')) ?_ ?_
                                rotate_left
                                · intro hCont
                                  refine two_ (i := 3) (j := 4) (Ni := some 47) (Nj := some 48) #[true, true, true, true, false, true, true, true, false, true, true, true, true, false, false, false, false] #[true, true, true, false, true, true, true, true, false, true, true, true, true, false, false, false, false] rfl rfl rfl rfl (two_of HT_.out (by kernel_rfl)) (by decide) (by decide) (fun K hK => ?_) (fun K hK => ?_)
                                  · skip
                                    refine goes_ Try.func14 (by kernel_rfl) rfl #[.slice (some ⟨go36, 0, none⟩) y288.length co23] (by rfl) rfl rfl (by (try simp only [List.map_toArray, List.map_cons, List.map_nil]); first | done | (rw [show y288.length = y278.length from (Kd.N_reads' HO_5.out).1.symm] <;> rfl) | rfl | (simp only [List.length_drop, List.length_take]; rfl)) ?_
                                    with_reducible refine (order_Order.calls kj16 _ _ y288 t290 _ ?side1 ?side2 A39.out).mono ?_
                                    (case side1 => repeat (first | exact (Kd.N_reads' HO_5.out).2.2 | (with_reducible refine Kd.C_alloc ?_ _) | (with_reducible refine Kd.C_drewN ?_ _) | (with_reducible refine Kd.C_drew ?_)))
                                    (case side2 => rw [show y288.length = y278.length from (Kd.N_reads' HO_5.out).1.symm]; exact (Kd.N_reads' HO_5.out).2.1)
                                    rintro e w54 ⟨v291, rfl, ho0, hb⟩
                                    refine ⟨_, rfl, ?_⟩
                                    have n0_ := Aside0.mk (Kd.N_below (by (with_reducible repeat (first | apply Kd.N_alloc | apply Kd.N_drewN | apply Kd.N_drew)); exact HO_5.out) hb)
                                    have n1_ := Aside0.mk (Kd.V_below (by (with_reducible repeat (first | apply Kd.V_alloc | apply Kd.V_drewN | apply Kd.V_drew)); exact HO_6.out) hb)
                                    have n2_ := Aside0.mk (Kd.V_below (by (with_reducible repeat (first | apply Kd.V_alloc | apply Kd.V_drewN | apply Kd.V_drew)); exact HO300.out) hb)
                                    have n3_ := Aside0.mk (Kd.V_below (by (with_reducible repeat (first | apply Kd.V_alloc | apply Kd.V_drewN | apply Kd.V_drew)); exact HO308.out) hb)
                                    have n4_ := Aside0.mk (Kd.V_lower (Kd.V_mono (ok' := fun k_ => some k_ ≠ (.slice (some ⟨go36, 0, none⟩) y278.length co23 : Value).ownBlock) ho0 (fun k_ hk_ => (Kd.fresh' (Kd.N_lt (by (with_reducible repeat (first | apply Kd.N_alloc | apply Kd.N_drewN | apply Kd.N_drew)); exact HO_5.out)) k_ hk_))) (below_size (by repeat (first | (with_reducible first | exact HB.out | apply below_alloc | apply pw_below_drewN | apply below_drew1) | exact HB.out))))
                                    have n5_ := Aside0.mk (below_step (by repeat (first | (with_reducible first | exact HB.out | apply below_alloc | apply pw_below_drewN | apply below_drew1) | exact HB.out)) hb)
                                    clear HO_5
                                    clear HO_6
                                    clear HO300
                                    clear HO308
                                    clear HB
                                    have HO_5 := n0_
                                    have HO_6 := n1_
                                    have HO300 := n2_
                                    have HO308 := n3_
                                    have HO292 := n4_
                                    have HB := n5_
                                    clear n0_ n1_ n2_ n3_ n4_ n5_
                                    (try clear hb)
                                    (try clear hb2)
                                    (try clear hk)
                                    (try clear hi)
                                    (try clear ho0)
                                    refine hK.out _ _ trivial (fun hHeld => ?_)
                                    clear hK K
                                    refine norm_ (a' := ?_) ?_ ?_
                                    rotate_left
                                    · show Act.put _ (some 47) _ = _
                                      simp only [Act.put, List.setIfInBounds_toArray, List.set_cons_zero, List.set_cons_succ, i64_w, i32_w]
                                      rfl
                                    refine one_ (i := 4) (N := some 48) #[true, true, true, true, true, true, true, true, false, true, true, true, true, false, false, false, false] rfl rfl (one_of HT_.out (by kernel_rfl)) (by decide) (fun K hK => ?_)
                                    refine Kd.R_lit_step (Kd.int .i64) _ 3 ?hg (N := 48) ?hd (xs := ([] : List Int)) (inner := []) (ok := fun _ => True) (okp := fun _ => True) ?hr ?hp (fun _ hk => hk) trivial (Below.refl _ _) (Nat.le_refl _) (by simp) ?_; (case hd => rfl); (case hg => rfl); (case hr => first | (go_simp; done) | (go_simp; rfl)); (case hp => exact (Reps.none _ _))
                                    intro v294 w55 ho56 hb hg_ hnew_
                                    clear hg_ hnew_
                                    (first | rw [← Ny293.out] at ho56 | (simp only [Int.reduceToNat] at ho56; rw [← Ny293.out] at ho56))
                                    have n0_ := Aside0.mk (Kd.N_elder' (by (with_reducible repeat (first | apply Kd.N_alloc | apply Kd.N_drewN | apply Kd.N_drew)); exact HO_5.out) (Kd.R_base ho56) hb)
                                    have n1_ := Aside0.mk (Kd.V_elder' (by (with_reducible repeat (first | apply Kd.V_alloc | apply Kd.V_drewN | apply Kd.V_drew)); exact HO_6.out) (Kd.R_base ho56) hb)
                                    have n2_ := Aside0.mk (Kd.V_elder' (by (with_reducible repeat (first | apply Kd.V_alloc | apply Kd.V_drewN | apply Kd.V_drew)); exact HO300.out) (Kd.R_base ho56) hb)
                                    have n3_ := Aside0.mk (Kd.V_elder' (by (with_reducible repeat (first | apply Kd.V_alloc | apply Kd.V_drewN | apply Kd.V_drew)); exact HO308.out) (Kd.R_base ho56) hb)
                                    have n4_ := Aside0.mk (Kd.V_elder' (by (with_reducible repeat (first | apply Kd.V_alloc | apply Kd.V_drewN | apply Kd.V_drew)); exact HO292.out) (Kd.R_base ho56) hb)
                                    have n5_ := Aside0.mk (Kd.R_lower ho56 (below_size (by repeat (first | (with_reducible first | exact HB.out | apply below_alloc | apply pw_below_drewN | apply below_drew1) | exact HB.out))))
                                    have n6_ := Aside0.mk (below_step (by repeat (first | (with_reducible first | exact HB.out | apply below_alloc | apply pw_below_drewN | apply below_drew1) | exact HB.out)) hb)
                                    clear HO_5
                                    clear HO_6
                                    clear HO300
                                    clear HO308
                                    clear HO292
                                    clear HB
                                    have HO_5 := n0_
                                    have HO_6 := n1_
                                    have HO300 := n2_
                                    have HO308 := n3_
                                    have HO292 := n4_
                                    have HO295 := n5_
                                    have HB := n6_
                                    clear n0_ n1_ n2_ n3_ n4_ n5_ n6_
                                    clear hb ho56
                                    refine hK.out _ _ trivial (fun hHeld => ?_)
                                    clear hK K
                                    refine norm_ (a' := ?_) ?_ ?_
                                    rotate_left
                                    · show Act.put _ (some 48) _ = _
                                      simp only [Act.put, List.setIfInBounds_toArray, List.set_cons_zero, List.set_cons_succ, i64_w, i32_w]
                                      rfl
                                    exact norm_ (by simp only [putAll, Act.put, List.setIfInBounds_toArray, List.set_cons_zero, List.set_cons_succ]) (hCont (v291, v294) _ ⟨(by (with_reducible repeat (first | apply Kd.V_alloc | apply Kd.V_drewN | apply Kd.V_drew)); exact Kd.V_mono HO292.out (fun _ hk => ⟨hk.2, hk.1⟩)), (by (with_reducible repeat (first | apply Kd.R_alloc | apply Kd.R_drewN | apply Kd.R_drew)); exact HO295.out), (by (with_reducible repeat (first | apply Kd.V_alloc | apply Kd.V_drewN | apply Kd.V_drew)); exact Kd.V_mono HO300.out (fun _ hk => ⟨hk.2, hk.1.2⟩)), (by (with_reducible repeat (first | apply Kd.V_alloc | apply Kd.V_drewN | apply Kd.V_drew)); exact Kd.V_mono HO308.out (fun _ hk => ⟨hk.2, hk.1.2⟩)), (by (with_reducible repeat (first | apply Kd.N_alloc | apply Kd.N_drewN | apply Kd.N_drew)); exact Kd.N_mono HO_5.out (fun _ hk => hk.2)), (by (with_reducible repeat (first | apply Kd.V_alloc | apply Kd.V_drewN | apply Kd.V_drew)); exact Kd.V_mono HO_6.out (fun _ hk => ⟨hk.2, hk.1.2⟩)), (by repeat (first | (with_reducible first | exact HB.out | apply below_alloc | apply pw_below_drewN | apply below_drew1) | exact HB.out))⟩)
                                  · skip
                                    refine Kd.R_lit_step (Kd.int .i64) _ 3 ?hg (N := 48) ?hd (xs := ([] : List Int)) (inner := []) (ok := fun _ => True) (okp := fun _ => True) ?hr ?hp (fun _ hk => hk) trivial (Below.refl _ _) (Nat.le_refl _) (by simp) ?_; (case hd => rfl); (case hg => rfl); (case hr => first | (go_simp; done) | (go_simp; rfl)); (case hp => exact (Reps.none _ _))
                                    intro v294 w54 ho55 hb hg_ hnew_
                                    clear hg_ hnew_
                                    (first | rw [← Ny293.out] at ho55 | (simp only [Int.reduceToNat] at ho55; rw [← Ny293.out] at ho55))
                                    have n0_ := Aside0.mk (Kd.N_elder' (by (with_reducible repeat (first | apply Kd.N_alloc | apply Kd.N_drewN | apply Kd.N_drew)); exact HO_5.out) (Kd.R_base ho55) hb)
                                    have n1_ := Aside0.mk (Kd.V_elder' (by (with_reducible repeat (first | apply Kd.V_alloc | apply Kd.V_drewN | apply Kd.V_drew)); exact HO_6.out) (Kd.R_base ho55) hb)
                                    have n2_ := Aside0.mk (Kd.V_elder' (by (with_reducible repeat (first | apply Kd.V_alloc | apply Kd.V_drewN | apply Kd.V_drew)); exact HO300.out) (Kd.R_base ho55) hb)
                                    have n3_ := Aside0.mk (Kd.V_elder' (by (with_reducible repeat (first | apply Kd.V_alloc | apply Kd.V_drewN | apply Kd.V_drew)); exact HO308.out) (Kd.R_base ho55) hb)
                                    have n4_ := Aside0.mk (Kd.R_lower ho55 (below_size (by repeat (first | (with_reducible first | exact HB.out | apply below_alloc | apply pw_below_drewN | apply below_drew1) | exact HB.out))))
                                    have n5_ := Aside0.mk (below_step (by repeat (first | (with_reducible first | exact HB.out | apply below_alloc | apply pw_below_drewN | apply below_drew1) | exact HB.out)) hb)
                                    clear HO_5
                                    clear HO_6
                                    clear HO300
                                    clear HO308
                                    clear HB
                                    have HO_5 := n0_
                                    have HO_6 := n1_
                                    have HO300 := n2_
                                    have HO308 := n3_
                                    have HO295 := n4_
                                    have HB := n5_
                                    clear n0_ n1_ n2_ n3_ n4_ n5_
                                    clear hb ho55
                                    refine hK.out _ _ trivial (fun hHeld => ?_)
                                    clear hK K
                                    refine norm_ (a' := ?_) ?_ ?_
                                    rotate_left
                                    · show Act.put _ (some 48) _ = _
                                      simp only [Act.put, List.setIfInBounds_toArray, List.set_cons_zero, List.set_cons_succ, i64_w, i32_w]
                                      rfl
                                    refine one_ (i := 3) (N := some 47) #[true, true, true, true, true, true, true, true, false, true, true, true, true, false, false, false, false] rfl rfl (one_of HT_.out (by kernel_rfl)) (by decide) (fun K hK => ?_)
                                    refine goes_ Try.func14 (by kernel_rfl) rfl #[.slice (some ⟨go36, 0, none⟩) y288.length co23] (by rfl) rfl rfl (by (try simp only [List.map_toArray, List.map_cons, List.map_nil]); first | done | (rw [show y288.length = y278.length from (Kd.N_reads' HO_5.out).1.symm] <;> rfl) | rfl | (simp only [List.length_drop, List.length_take]; rfl)) ?_
                                    with_reducible refine (order_Order.calls kj16 _ _ y288 t290 _ ?side1 ?side2 A39.out).mono ?_
                                    (case side1 => repeat (first | exact (Kd.N_reads' HO_5.out).2.2 | (with_reducible refine Kd.C_alloc ?_ _) | (with_reducible refine Kd.C_drewN ?_ _) | (with_reducible refine Kd.C_drew ?_)))
                                    (case side2 => rw [show y288.length = y278.length from (Kd.N_reads' HO_5.out).1.symm]; exact (Kd.N_reads' HO_5.out).2.1)
                                    rintro e w56 ⟨v291, rfl, ho0, hb⟩
                                    refine ⟨_, rfl, ?_⟩
                                    have n0_ := Aside0.mk (Kd.N_below (by (with_reducible repeat (first | apply Kd.N_alloc | apply Kd.N_drewN | apply Kd.N_drew)); exact HO_5.out) hb)
                                    have n1_ := Aside0.mk (Kd.V_below (by (with_reducible repeat (first | apply Kd.V_alloc | apply Kd.V_drewN | apply Kd.V_drew)); exact HO_6.out) hb)
                                    have n2_ := Aside0.mk (Kd.V_below (by (with_reducible repeat (first | apply Kd.V_alloc | apply Kd.V_drewN | apply Kd.V_drew)); exact HO300.out) hb)
                                    have n3_ := Aside0.mk (Kd.V_below (by (with_reducible repeat (first | apply Kd.V_alloc | apply Kd.V_drewN | apply Kd.V_drew)); exact HO308.out) hb)
                                    have n4_ := Aside0.mk (Kd.R_below (by (with_reducible repeat (first | apply Kd.R_alloc | apply Kd.R_drewN | apply Kd.R_drew)); exact HO295.out) hb)
                                    have n5_ := Aside0.mk (Kd.V_lower (Kd.V_mono (ok' := fun k_ => some k_ ≠ (.slice (some ⟨go36, 0, none⟩) y278.length co23 : Value).ownBlock ∧ some k_ ≠ (v294 : Value).ownBlock) ho0 (fun k_ hk_ => ⟨(Kd.fresh' (Kd.N_lt (by (with_reducible repeat (first | apply Kd.N_alloc | apply Kd.N_drewN | apply Kd.N_drew)); exact HO_5.out)) k_ hk_), (Kd.fresh' (Kd.R_lt (by (with_reducible repeat (first | apply Kd.R_alloc | apply Kd.R_drewN | apply Kd.R_drew)); exact HO295.out)) k_ hk_)⟩)) (below_size (by repeat (first | (with_reducible first | exact HB.out | apply below_alloc | apply pw_below_drewN | apply below_drew1) | exact HB.out))))
                                    have n6_ := Aside0.mk (below_step (by repeat (first | (with_reducible first | exact HB.out | apply below_alloc | apply pw_below_drewN | apply below_drew1) | exact HB.out)) hb)
                                    clear HO_5
                                    clear HO_6
                                    clear HO300
                                    clear HO308
                                    clear HO295
                                    clear HB
                                    have HO_5 := n0_
                                    have HO_6 := n1_
                                    have HO300 := n2_
                                    have HO308 := n3_
                                    have HO295 := n4_
                                    have HO292 := n5_
                                    have HB := n6_
                                    clear n0_ n1_ n2_ n3_ n4_ n5_ n6_
                                    (try clear hb)
                                    (try clear hb2)
                                    (try clear hk)
                                    (try clear hi)
                                    (try clear ho0)
                                    refine hK.out _ _ trivial (fun hHeld => ?_)
                                    clear hK K
                                    refine norm_ (a' := ?_) ?_ ?_
                                    rotate_left
                                    · show Act.put _ (some 47) _ = _
                                      simp only [Act.put, List.setIfInBounds_toArray, List.set_cons_zero, List.set_cons_succ, i64_w, i32_w]
                                      rfl
                                    exact norm_ (by simp only [putAll, Act.put, List.setIfInBounds_toArray, List.set_cons_zero, List.set_cons_succ]) (hCont (v291, v294) _ ⟨(by (with_reducible repeat (first | apply Kd.V_alloc | apply Kd.V_drewN | apply Kd.V_drew)); exact Kd.V_mono HO292.out (fun _ hk => ⟨hk.2, hk.1⟩)), (by (with_reducible repeat (first | apply Kd.R_alloc | apply Kd.R_drewN | apply Kd.R_drew)); exact HO295.out), (by (with_reducible repeat (first | apply Kd.V_alloc | apply Kd.V_drewN | apply Kd.V_drew)); exact Kd.V_mono HO300.out (fun _ hk => ⟨hk.2, hk.1.2⟩)), (by (with_reducible repeat (first | apply Kd.V_alloc | apply Kd.V_drewN | apply Kd.V_drew)); exact Kd.V_mono HO308.out (fun _ hk => ⟨hk.2, hk.1.2⟩)), (by (with_reducible repeat (first | apply Kd.N_alloc | apply Kd.N_drewN | apply Kd.N_drew)); exact Kd.N_mono HO_5.out (fun _ hk => hk.2)), (by (with_reducible repeat (first | apply Kd.V_alloc | apply Kd.V_drewN | apply Kd.V_drew)); exact Kd.V_mono HO_6.out (fun _ hk => ⟨hk.2, hk.1.2⟩)), (by repeat (first | (with_reducible first | exact HB.out | apply below_alloc | apply pw_below_drewN | apply below_drew1) | exact HB.out))⟩)
                                rintro ⟨v291, v294⟩ w57 ⟨h0_, h1_, h2_, h3_, h4_, h5_, h6_⟩
                                have n0_ : Aside0 (Kd.V (Kd.int .i64) 3 w57 w.heap.size (fun k_ => some k_ ≠ (v294 : Value).ownBlock ∧ some k_ ≠ (.slice (some ⟨go36, 0, none⟩) y278.length co23 : Value).ownBlock) v291 t290) := ⟨h0_⟩
                                have n1_ : Aside0 (Kd.R (Kd.int .i64) 3 w57 w.heap.size (fun _ => True) v294 y293) := ⟨h1_⟩
                                have n2_ : Aside0 (Kd.V (Kd.int .i64) 3 w57 w.heap.size (fun k_ => some k_ ≠ (v294 : Value).ownBlock ∧ some k_ ≠ (.slice (some ⟨go36, 0, none⟩) y278.length co23 : Value).ownBlock) (.slice (some ad287) y296.length co25) y296) := ⟨h2_⟩
                                have n3_ : Aside0 (Kd.V (Kd.int .i64) 3 w57 w.heap.size (fun k_ => some k_ ≠ (v294 : Value).ownBlock ∧ some k_ ≠ (.slice (some ⟨go36, 0, none⟩) y278.length co23 : Value).ownBlock) (.slice A53 y304.length c53) y304) := ⟨h3_⟩
                                have n4_ : Aside0 (Kd.N k32 32 w57 w.heap.size (fun k_ => some k_ ≠ (v294 : Value).ownBlock) (.slice (some ⟨go36, 0, none⟩) y278.length co23) y288) := ⟨h4_⟩
                                have n5_ : Aside0 (Kd.V (Kd.int .i64) 3 w57 w.heap.size (fun k_ => some k_ ≠ (v294 : Value).ownBlock ∧ some k_ ≠ (.slice (some ⟨go36, 0, none⟩) y278.length co23 : Value).ownBlock) (.slice (some ad287) t281.length co25) t281) := ⟨h5_⟩
                                have n6_ : Aside0 (Below w.heap.size w w57) := ⟨h6_⟩
                                clear HO_5
                                clear HO_6
                                clear HB
                                clear h0_ h1_ h2_ h3_ h4_ h5_ h6_
                                have HO292 := n0_
                                have HO295 := n1_
                                have HO300 := n2_
                                have HO308 := n3_
                                have HO_5 := n4_
                                have HO_6 := n5_
                                have HB := n6_
                                clear n0_ n1_ n2_ n3_ n4_ n5_ n6_
                                have hHeld := trivial
                                refine norm_ (a' := ?_) ?_ ?_
                                rotate_left
                                · simp only [putAll, Act.put, List.setIfInBounds_toArray, List.set_cons_zero, List.set_cons_succ]
                                  rfl
                                refine one_ (i := 8) (N := some 52) #[true, true, true, true, true, true, true, true, true, true, true, true, true, false, false, false, false] rfl rfl (one_of HT_.out (by kernel_rfl)) (by decide) (fun K hK => ?_)
                                refine Kd.R_append_rows_step (Kd.int .i64) (w0 := w) w.heap.size (by rfl) (.tmp 48) (.tmp 51) 24 3 (.int .i64 0) 8 rfl Try.underlying24 info3 rfl (by decide) (by omega) v294 y293 y296 _ _ _ (fun _ => True) (fun _ => False) rfl rfl ?aO ?aR (fun _ _ h => h) (fun _ h => h.elim) ?aF ?aB ?aS ?aL ?_
                                (case aR => repeat (first | exact (Kd.V_reads' HO300.out).2.2 | (with_reducible refine Kd.C_alloc ?_ _) | (with_reducible refine Kd.C_drewN ?_ _) | (with_reducible refine Kd.C_drew ?_)))
                                (case aB => exact (by repeat (first | (with_reducible first | exact HB.out | apply below_alloc | apply pw_below_drewN | apply below_drew1) | exact HB.out)))
                                (case aF => exact (fun _ _ => trivial))
                                (case aO => exact (by (with_reducible repeat (first | apply Kd.R_alloc | apply Kd.R_drewN | apply Kd.R_drew)); exact HO295.out))
                                (case aS => exact (below_size (by repeat (first | (with_reducible first | exact HB.out | apply below_alloc | apply pw_below_drewN | apply below_drew1) | exact HB.out))))
                                (case aL => have := LMc42.out; omega)
                                intro v302 w58 ho hb hg hat
                                rw [← Ny301.out] at ho
                                have n0_ := Aside0.mk (Kd.N_afterv (ok := (fun _ => True)) (by (with_reducible repeat (first | apply Kd.N_alloc | apply Kd.N_drewN | apply Kd.N_drew)); exact Kd.N_mono HO_5.out (fun _ hk => ⟨trivial, hk⟩)) hg hat)
                                have n1_ := Aside0.mk (Kd.V_afterv (ok := (fun k_ => some k_ ≠ (.slice (some ⟨go36, 0, none⟩) y278.length co23 : Value).ownBlock)) (by (with_reducible repeat (first | apply Kd.V_alloc | apply Kd.V_drewN | apply Kd.V_drew)); exact Kd.V_mono HO_6.out (fun _ hk => ⟨hk.2, hk.1⟩)) hg hat)
                                have n2_ := Aside0.mk (Kd.V_afterv (ok := (fun k_ => some k_ ≠ (.slice (some ⟨go36, 0, none⟩) y278.length co23 : Value).ownBlock)) (by (with_reducible repeat (first | apply Kd.V_alloc | apply Kd.V_drewN | apply Kd.V_drew)); exact Kd.V_mono HO300.out (fun _ hk => ⟨hk.2, hk.1⟩)) hg hat)
                                have n3_ := Aside0.mk (Kd.V_afterv (ok := (fun k_ => some k_ ≠ (.slice (some ⟨go36, 0, none⟩) y278.length co23 : Value).ownBlock)) (by (with_reducible repeat (first | apply Kd.V_alloc | apply Kd.V_drewN | apply Kd.V_drew)); exact Kd.V_mono HO308.out (fun _ hk => ⟨hk.2, hk.1⟩)) hg hat)
                                have n4_ := Aside0.mk (Kd.V_afterv (ok := (fun k_ => some k_ ≠ (.slice (some ⟨go36, 0, none⟩) y278.length co23 : Value).ownBlock)) (by (with_reducible repeat (first | apply Kd.V_alloc | apply Kd.V_drewN | apply Kd.V_drew)); exact Kd.V_mono HO292.out (fun _ hk => ⟨hk.2, hk.1⟩)) hg hat)
                                have n5_ := Aside0.mk (hb)
                                have n6_ := Aside0.mk (ho)
                                clear HO_5
                                clear HO_6
                                clear HO300
                                clear HO308
                                clear HO292
                                clear HB
                                clear HO295
                                have HO_5 := n0_
                                have HO_6 := n1_
                                have HO300 := n2_
                                have HO308 := n3_
                                have HO292 := n4_
                                have HB := n5_
                                have HO303 := n6_
                                clear n0_ n1_ n2_ n3_ n4_ n5_ n6_
                                clear ho hb hg hat
                                refine hK.out _ _ trivial (fun hHeld => ?_)
                                clear hK K
                                refine norm_ (a' := ?_) ?_ ?_
                                rotate_left
                                · show Act.put _ (some 52) _ = _
                                  simp only [Act.put, List.setIfInBounds_toArray, List.set_cons_zero, List.set_cons_succ, i64_w, i32_w]
                                  rfl
                                refine one_ (i := 13) (N := some 57) #[true, true, true, true, true, true, true, true, true, true, true, true, true, true, false, false, false] rfl rfl (one_of HT_.out (by kernel_rfl)) (by decide) (fun K hK => ?_)
                                refine Kd.R_append_rows_step (Kd.int .i64) (w0 := w) w.heap.size (by rfl) (.tmp 52) (.tmp 56) 24 3 (.int .i64 0) 8 rfl Try.underlying24 info3 rfl (by decide) (by omega) v302 y301 y304 _ _ _ (fun _ => True) (fun _ => False) rfl rfl ?aO ?aR (fun _ _ h => h) (fun _ h => h.elim) ?aF ?aB ?aS ?aL ?_
                                (case aR => repeat (first | exact (Kd.V_reads' HO308.out).2.2 | (with_reducible refine Kd.C_alloc ?_ _) | (with_reducible refine Kd.C_drewN ?_ _) | (with_reducible refine Kd.C_drew ?_)))
                                (case aB => exact (by repeat (first | (with_reducible first | exact HB.out | apply below_alloc | apply pw_below_drewN | apply below_drew1) | exact HB.out)))
                                (case aF => exact (fun _ _ => trivial))
                                (case aO => exact (by (with_reducible repeat (first | apply Kd.R_alloc | apply Kd.R_drewN | apply Kd.R_drew)); exact HO303.out))
                                (case aS => exact (below_size (by repeat (first | (with_reducible first | exact HB.out | apply below_alloc | apply pw_below_drewN | apply below_drew1) | exact HB.out))))
                                (case aL => have := LMc46.out; omega)
                                intro v310 w59 ho hb hg hat
                                rw [← Ny309.out] at ho
                                have n0_ := Aside0.mk (Kd.N_afterv (ok := (fun _ => True)) (by (with_reducible repeat (first | apply Kd.N_alloc | apply Kd.N_drewN | apply Kd.N_drew)); exact HO_5.out) hg hat)
                                have n1_ := Aside0.mk (Kd.V_afterv (ok := (fun k_ => some k_ ≠ (.slice (some ⟨go36, 0, none⟩) y278.length co23 : Value).ownBlock)) (by (with_reducible repeat (first | apply Kd.V_alloc | apply Kd.V_drewN | apply Kd.V_drew)); exact HO_6.out) hg hat)
                                have n2_ := Aside0.mk (Kd.V_afterv (ok := (fun k_ => some k_ ≠ (.slice (some ⟨go36, 0, none⟩) y278.length co23 : Value).ownBlock)) (by (with_reducible repeat (first | apply Kd.V_alloc | apply Kd.V_drewN | apply Kd.V_drew)); exact HO300.out) hg hat)
                                have n3_ := Aside0.mk (Kd.V_afterv (ok := (fun k_ => some k_ ≠ (.slice (some ⟨go36, 0, none⟩) y278.length co23 : Value).ownBlock)) (by (with_reducible repeat (first | apply Kd.V_alloc | apply Kd.V_drewN | apply Kd.V_drew)); exact HO308.out) hg hat)
                                have n4_ := Aside0.mk (Kd.V_afterv (ok := (fun k_ => some k_ ≠ (.slice (some ⟨go36, 0, none⟩) y278.length co23 : Value).ownBlock)) (by (with_reducible repeat (first | apply Kd.V_alloc | apply Kd.V_drewN | apply Kd.V_drew)); exact HO292.out) hg hat)
                                have n5_ := Aside0.mk (hb)
                                have n6_ := Aside0.mk (ho)
                                clear HO_5
                                clear HO_6
                                clear HO300
                                clear HO308
                                clear HO292
                                clear HB
                                clear HO303
                                have HO_5 := n0_
                                have HO_6 := n1_
                                have HO300 := n2_
                                have HO308 := n3_
                                have HO292 := n4_
                                have HB := n5_
                                have HO311 := n6_
                                clear n0_ n1_ n2_ n3_ n4_ n5_ n6_
                                clear ho hb hg hat
                                obtain ⟨Ao60, co60, eo60⟩ := Kd.V_slice HO292.out
                                (first | subst eo60 | (injection eo60 with f1_ f2_ f3_; have f4_ := f1_.symm; have f5_ := f3_.symm; clear f1_ f2_ f3_; subst f4_; subst f5_))
                                obtain ⟨Ao61, co61, eo61⟩ := Kd.R_slice HO311.out
                                (first | subst eo61 | (injection eo61 with f1_ f2_ f3_; have f4_ := f1_.symm; have f5_ := f3_.symm; clear f1_ f2_ f3_; subst f4_; subst f5_))
                                refine hK.out _ _ trivial (fun hHeld => ?_)
                                clear hK K
                                refine norm_ (a' := ?_) ?_ ?_
                                rotate_left
                                · show Act.put _ (some 57) _ = _
                                  simp only [Act.put, List.setIfInBounds_toArray, List.set_cons_zero, List.set_cons_succ, i64_w, i32_w]
                                  rfl
                                refine one_ (i := 14) (N := some 58) #[true, true, true, true, true, true, true, true, true, true, true, true, true, true, true, false, false] rfl rfl (one_of HT_.out (by kernel_rfl)) (by decide) (fun K hK => ?_)
                                refine goes_ Try.func13 (by kernel_rfl) rfl #[.slice Ao60 t290.length co60, .slice Ao61 y309.length co61] (by rfl) rfl rfl (by (try simp only [List.map_toArray, List.map_cons, List.map_nil]); first | done | rfl | (simp only [List.length_drop, List.length_take]; rfl)) ?_
                                with_reducible refine (prebendref01_Ints.calls kj16 _ _ t290 _ _ y309 t312 _ ?side1 ?side2 ?side3 ?side4 A47.out).mono ?_
                                (case side1 => repeat (first | exact (Kd.V_reads' HO292.out).2.2 | (with_reducible refine Kd.C_alloc ?_ _) | (with_reducible refine Kd.C_drewN ?_ _) | (with_reducible refine Kd.C_drew ?_)))
                                (case side2 => exact (Kd.V_reads' HO292.out).2.1)
                                (case side3 => repeat (first | exact (Kd.R_reads' HO311.out).2.2 | (with_reducible refine Kd.C_alloc ?_ _) | (with_reducible refine Kd.C_drewN ?_ _) | (with_reducible refine Kd.C_drew ?_)))
                                (case side4 => exact (Kd.R_reads' HO311.out).2.1)
                                rintro e w' ⟨rfl, ⟨nd, rfl⟩⟩
                                refine ⟨_, rfl, ?_⟩
                                refine hK.out _ _ trivial (fun hHeld => ?_)
                                clear hK K
                                refine norm_ (a' := ?_) ?_ ?_
                                rotate_left
                                · show Act.put _ (some 58) _ = _
                                  simp only [Act.put, List.setIfInBounds_toArray, List.set_cons_zero, List.set_cons_succ, i64_w, i32_w]
                                  rfl
                                refine pure_ (i := 15) (N := some 59) (v := ?_) (a' := ?_) #[true, true, true, true, true, true, true, true, true, true, true, true, true, true, true, true, false] rfl rfl (any_of HT_.out (by kernel_rfl)) (fun _ _ _ h => h) (Or.inl ⟨by rfl, ?_⟩) ?_ ?_
                                rotate_left
                                · intro w'
                                  go_simp
                                  with_reducible rfl
                                rotate_left
                                · simp only [Act.put, List.setIfInBounds_toArray, List.set_cons_zero, List.set_cons_succ, i64_w, i32_w]
                                  rfl
                                refine pure_ (i := 16) (N := some 4) (v := ?_) (a' := ?_) #[true, true, true, true, true, true, true, true, true, true, true, true, true, true, true, true, true] rfl rfl (any_of HT_.out (by kernel_rfl)) (fun _ _ _ h => h) (Or.inl ⟨by rfl, ?_⟩) ?_ ?_
                                rotate_left
                                · intro w'
                                  go_simp
                                  with_reducible rfl
                                rotate_left
                                · simp only [Act.put, List.setIfInBounds_toArray, List.set_cons_zero, List.set_cons_succ, i64_w, i32_w]
                                  rfl
                                refine done_ (done_of HT_.out (by kernel_rfl)) ?_
                                try go_wp2
                                go_ret
                                exact ⟨by first | rfl | (simp [errW_none, errW_some] <;> rfl) | (simp only [← hji31, ← hji43]; first | rfl | (simp [errW_none, errW_some] <;> rfl)) | (simp [*, errW_none, errW_some] <;> rfl), by repeat (first | (with_reducible first | exact HB.out | apply below_alloc | apply pw_below_drewN | apply below_drew1) | exact HB.out)⟩
                              · rw [if_neg c46] at H
                                exact absurd H (by simp)
                            · rw [if_neg c45] at H
                              exact absurd H (by simp)
                          · rw [if_neg c44] at H
                            exact absurd H (by simp)
                        · rw [if_neg c42] at H
                          exact absurd H (by simp)
                      · rw [if_neg c41] at H
                        exact absurd H (by simp)
                    · replace c38 := Bool.eq_false_iff.mpr c38
                      subst c38
                      have H1 : (some false) = some r := by rw [if_neg (show ¬ (false = true) by decide)] at H; exact H
                      clear H
                      have H := H1
                      clear H1
                      obtain rfl := Option.some.inj H
                      have p287 : 0 ≤ ((ji31) : Int) := of_decide_eq_true (by first | (with_reducible assumption) | assumption)
                      have q287 : (ji31) < (t281.length : Int) := of_decide_eq_true (by first | (with_reducible assumption) | assumption)
                      obtain ⟨ad287, e287, hx287_0⟩ := Kd.at_int (Kd.V_reads' HO_6.out).2.2 (ji31) p287 q287
                      cases e287
                      replace p287 := eq_true p287
                      replace q287 := eq_true q287
                      have p36 : 0 ≤ ((rd t281 (ji31)) : Int) := of_decide_eq_true (by first | (with_reducible assumption) | assumption)
                      have q36 : ((rd t281 (ji31)) : Int) < ((y278.length : Int) : Int) := of_decide_eq_true (by first | (with_reducible assumption) | assumption)
                      obtain ⟨go36, co36, eo36, gb36, gl36, cl36, HG36⟩ := Kd.N_form HO_5.out (by omega)
                      (first | cases eo36 | (injection eo36 with ea_ en_ ec_; (first | subst ea_ | (injection ea_ with ea_; subst ea_)); subst ec_; clear en_))
                      have GB36 := Aside0.mk gb36
                      have GG36 := Aside0.mk HG36
                      clear gb36 gl36 HG36
                      obtain ⟨ce36, hcl36, hM36, hcc36, hfr36⟩ := Kd.N_elem HO_5.out z32 ((rd t281 (ji31)) : Int) p36 q36
                      obtain ⟨ua36_11, uc36_11, rfl, ul36_11, ge36_11⟩ := k32_openF hM36
                      have hx36_0 : wc.cell? ⟨go36, ((rd t281 (ji31)) : Int).toNat * 12, none⟩ = some (.int .i64 ((rd_T32 y278 (rd t281 (ji31))).f0)) := hcc36 0 _ rfl
                      have hx36_1 : wc.cell? ⟨go36, ((rd t281 (ji31)) : Int).toNat * 12 + 1, none⟩ = some (.int .i64 ((rd_T32 y278 (rd t281 (ji31))).f1)) := hcc36 1 _ rfl
                      have hx36_2 : wc.cell? ⟨go36, ((rd t281 (ji31)) : Int).toNat * 12 + 2, none⟩ = some (.int .i64 ((rd_T32 y278 (rd t281 (ji31))).f2)) := hcc36 2 _ rfl
                      have hx36_3 : wc.cell? ⟨go36, ((rd t281 (ji31)) : Int).toNat * 12 + 3, none⟩ = some (.int .i64 ((rd_T32 y278 (rd t281 (ji31))).f3)) := hcc36 3 _ rfl
                      have hx36_4 : wc.cell? ⟨go36, ((rd t281 (ji31)) : Int).toNat * 12 + 4, none⟩ = some (.int .i64 ((rd_T32 y278 (rd t281 (ji31))).f4)) := hcc36 4 _ rfl
                      have hx36_5 : wc.cell? ⟨go36, ((rd t281 (ji31)) : Int).toNat * 12 + 5, none⟩ = some (.int .i64 ((rd_T32 y278 (rd t281 (ji31))).f5)) := hcc36 5 _ rfl
                      have hx36_6 : wc.cell? ⟨go36, ((rd t281 (ji31)) : Int).toNat * 12 + 6, none⟩ = some (.int .i64 ((rd_T32 y278 (rd t281 (ji31))).f6)) := hcc36 6 _ rfl
                      have hx36_7 : wc.cell? ⟨go36, ((rd t281 (ji31)) : Int).toNat * 12 + 7, none⟩ = some (.int .i64 ((rd_T32 y278 (rd t281 (ji31))).f7)) := hcc36 7 _ rfl
                      have hx36_8 : wc.cell? ⟨go36, ((rd t281 (ji31)) : Int).toNat * 12 + 8, none⟩ = some (.int .i64 ((rd_T32 y278 (rd t281 (ji31))).f8)) := hcc36 8 _ rfl
                      have hx36_9 : wc.cell? ⟨go36, ((rd t281 (ji31)) : Int).toNat * 12 + 9, none⟩ = some (.int .i64 ((rd_T32 y278 (rd t281 (ji31))).f9)) := hcc36 9 _ rfl
                      have hx36_10 : wc.cell? ⟨go36, ((rd t281 (ji31)) : Int).toNat * 12 + 10, none⟩ = some (.int .i64 ((rd_T32 y278 (rd t281 (ji31))).f10)) := hcc36 10 _ rfl
                      have hx36_11 : wc.cell? ⟨go36, ((rd t281 (ji31)) : Int).toNat * 12 + 11, none⟩ = some (.slice ua36_11 ((rd_T32 y278 (rd t281 (ji31))).f11).length uc36_11) := hcc36 11 _ rfl
                      have hf36_0 : wc.frozen? ⟨go36, ((rd t281 (ji31)) : Int).toNat * 12, none⟩ = false := hfr36 0
                      have hf36_1 : wc.frozen? ⟨go36, ((rd t281 (ji31)) : Int).toNat * 12 + 1, none⟩ = false := hfr36 1
                      have hf36_2 : wc.frozen? ⟨go36, ((rd t281 (ji31)) : Int).toNat * 12 + 2, none⟩ = false := hfr36 2
                      have hf36_3 : wc.frozen? ⟨go36, ((rd t281 (ji31)) : Int).toNat * 12 + 3, none⟩ = false := hfr36 3
                      have hf36_4 : wc.frozen? ⟨go36, ((rd t281 (ji31)) : Int).toNat * 12 + 4, none⟩ = false := hfr36 4
                      have hf36_5 : wc.frozen? ⟨go36, ((rd t281 (ji31)) : Int).toNat * 12 + 5, none⟩ = false := hfr36 5
                      have hf36_6 : wc.frozen? ⟨go36, ((rd t281 (ji31)) : Int).toNat * 12 + 6, none⟩ = false := hfr36 6
                      have hf36_7 : wc.frozen? ⟨go36, ((rd t281 (ji31)) : Int).toNat * 12 + 7, none⟩ = false := hfr36 7
                      have hf36_8 : wc.frozen? ⟨go36, ((rd t281 (ji31)) : Int).toNat * 12 + 8, none⟩ = false := hfr36 8
                      have hf36_9 : wc.frozen? ⟨go36, ((rd t281 (ji31)) : Int).toNat * 12 + 9, none⟩ = false := hfr36 9
                      have hf36_10 : wc.frozen? ⟨go36, ((rd t281 (ji31)) : Int).toNat * 12 + 10, none⟩ = false := hfr36 10
                      have hf36_11 : wc.frozen? ⟨go36, ((rd t281 (ji31)) : Int).toNat * 12 + 11, none⟩ = false := hfr36 11
                      clear hcl36 hcc36 hfr36 hM36
                      replace p36 := eq_true p36
                      replace q36 := eq_true q36
                      have HX62 := Aside0.mk (show Kd.N k32 32 wc w.heap.size (fun _ => True) (.slice (some ⟨go36, 0, none⟩) y278.length co23) y278 from (by (with_reducible repeat (first | apply Kd.N_alloc | apply Kd.N_drewN | apply Kd.N_drew)); exact HO_5.out))
                      obtain ⟨ce62, hcl62, hM62, hcc62, hfr62⟩ := Kd.N_elem HX62.out z32 ((rd t281 (ji31)) : Int) (of_decide_eq_true (by first | (with_reducible assumption) | assumption)) (by have h_ : ((rd t281 (ji31)) : Int) < ((y278.length : Int) : Int) := of_decide_eq_true (by first | (with_reducible assumption) | assumption); first | exact h_ | (have e_ := (Kd.N_reads' HO_5.out).1; omega) | simpa using h_)
                      obtain ⟨ua62_11, uc62_11, rfl, ul62_11, ge62_11⟩ := k32_openF hM62
                      have HP62 := Kd.N_seg HX62.out ((rd t281 (ji31)) : Int) (of_decide_eq_true (by first | (with_reducible assumption) | assumption)) (by have h_ : ((rd t281 (ji31)) : Int) < ((y278.length : Int) : Int) := of_decide_eq_true (by first | (with_reducible assumption) | assumption); first | exact h_ | (have e_ := (Kd.N_reads' HO_5.out).1; omega) | simpa using h_) (seg := [.int .i64 2]) (j := 7) hcl62 hcc62 (show 8 ≤ 12 from by decide) (x' := (⟨(rd_T32 y278 (rd t281 (ji31))).f0, (rd_T32 y278 (rd t281 (ji31))).f1, (rd_T32 y278 (rd t281 (ji31))).f2, (rd_T32 y278 (rd t281 (ji31))).f3, (rd_T32 y278 (rd t281 (ji31))).f4, (rd_T32 y278 (rd t281 (ji31))).f5, (rd_T32 y278 (rd t281 (ji31))).f6, 2, (rd_T32 y278 (rd t281 (ji31))).f8, (rd_T32 y278 (rd t281 (ji31))).f9, (rd_T32 y278 (rd t281 (ji31))).f10, (rd_T32 y278 (rd t281 (ji31))).f11⟩ : S32)) (k32_mkF _ _ (⟨(rd_T32 y278 (rd t281 (ji31))).f0, (rd_T32 y278 (rd t281 (ji31))).f1, (rd_T32 y278 (rd t281 (ji31))).f2, (rd_T32 y278 (rd t281 (ji31))).f3, (rd_T32 y278 (rd t281 (ji31))).f4, (rd_T32 y278 (rd t281 (ji31))).f5, (rd_T32 y278 (rd t281 (ji31))).f6, 2, (rd_T32 y278 (rd t281 (ji31))).f8, (rd_T32 y278 (rd t281 (ji31))).f9, (rd_T32 y278 (rd t281 (ji31))).f10, (rd_T32 y278 (rd t281 (ji31))).f11⟩ : S32) ul62_11 ge62_11) (fun _ hk => hk)
                      have hx62_7 := hcc62 7 _ rfl
                      (try simp only [show (k32).sz = 12 from rfl, Nat.mul_one, Nat.add_zero] at hx62_7)
                      have hf62_7 := hfr62 7
                      (try simp only [show (k32).sz = 12 from rfl, Nat.mul_one, Nat.add_zero] at hf62_7)
                      clear hcl62 hcc62 hfr62 hM62
                      try go_wp2_with (first | ((with_reducible refine gate_store (t := 3) (p := 43) rfl ?_); refine store_event (t := 3) (p := 43) (v := ?vo_w63) (w1 := (wc.setCell ⟨go36, ((rd t281 (ji31)) : Int).toNat * 12 + 7, none⟩ (.int .i64 2))) ?hg ?ho ?hn ?hr ?_; (case ho => rfl); (case hg => rfl); (case hn => rfl); (case hr => first | (go_simp; done) | (go_simp; rfl)); intro w63 hw; have hg : wc.grownBy w63 (some go36) := (by rw [hw]; exact HP62.2); have hp_ : Kd.N k32 32 w63 w.heap.size (fun _ => True) (.slice (some ⟨go36, 0, none⟩) y278.length co23) y288 := (by rw [hw, Ny288.out]; exact HP62.1); clear HP62; have n0_ := Aside0.mk (hp_); have n1_ := Aside0.mk (Kd.V_afterv (v := (.slice (some ⟨go36, 0, none⟩) y278.length co23)) (v1 := (.slice (some ⟨go36, 0, none⟩) y278.length co23)) (ok := (fun _ => True)) (by (with_reducible repeat (first | apply Kd.V_alloc | apply Kd.V_drewN | apply Kd.V_drew)); exact Kd.V_mono HO_6.out (fun _ hk => ⟨trivial, hk⟩)) hg (.inl rfl)); have n2_ := Aside0.mk ((by rw [hw]; exact below_set (HB.out) GB36.out : Below w.heap.size w w63)); clear HO_5; clear HO_6; clear HB; have HO_5 := n0_; have HO_6 := n1_; have HB := n2_; clear n0_ n1_ n2_; clear hg hw hp_))
                      have n0_ := Aside0.mk (Kd.N_drew HO_5.out)
                      have n1_ := Aside0.mk (Kd.V_drew HO_6.out)
                      have n2_ := Aside0.mk (below_drew1 HB.out)
                      clear HO_5
                      clear HO_6
                      clear HB
                      have HO_5 := n0_
                      have HO_6 := n1_
                      have HB := n2_
                      clear n0_ n1_ n2_
                      refine start_ (n := 17) (S := fun w' => True) (ds := []) #[false, false, false, false, false, false, false, false, false, false, false, false, false, false, false, false, false] (by kernel_rfl) rfl rfl trivial (fun hHeld => ?_); refine with_tabW prebendlaw15_OrderLess.tab9 prebendlaw15_OrderLess.bits9 (fun HT_ HW_ => ?_)
                      generalize w63.drew = w64 at HO_5 HO_6 HB hHeld ⊢
                      refine one_ (i := 0) (N := some 44) #[true, false, false, false, false, false, false, false, false, false, false, false, false, false, false, false, false] rfl rfl (one_of HT_.out (by kernel_rfl)) (by decide) (fun K hK => ?_)
                      refine goes_ Try.func12 (by kernel_rfl) rfl #[] (by rfl) rfl rfl (by (try simp only [List.map_toArray, List.map_cons, List.map_nil]); first | done | rfl | (simp only [List.length_drop, List.length_take]; rfl)) ?_
                      with_reducible refine (prebendlaw15_awake.calls kj16  false _ A37.out).mono ?_
                      rintro e w65 ⟨rfl, hb⟩
                      refine ⟨_, rfl, ?_⟩
                      have n0_ := Aside0.mk (Kd.N_below (by (with_reducible repeat (first | apply Kd.N_alloc | apply Kd.N_drewN | apply Kd.N_drew)); exact HO_5.out) hb)
                      have n1_ := Aside0.mk (Kd.V_below (by (with_reducible repeat (first | apply Kd.V_alloc | apply Kd.V_drewN | apply Kd.V_drew)); exact HO_6.out) hb)
                      have n2_ := Aside0.mk (below_step (by repeat (first | (with_reducible first | exact HB.out | apply below_alloc | apply pw_below_drewN | apply below_drew1) | exact HB.out)) hb)
                      clear HO_5
                      clear HO_6
                      clear HB
                      have HO_5 := n0_
                      have HO_6 := n1_
                      have HB := n2_
                      clear n0_ n1_ n2_
                      (try clear hb)
                      (try clear hb2)
                      (try clear hk)
                      (try clear hi)
                      refine hK.out _ _ trivial (fun hHeld => ?_)
                      clear hK K
                      refine norm_ (a' := ?_) ?_ ?_
                      rotate_left
                      · show Act.put _ (some 44) _ = _
                        simp only [Act.put, List.setIfInBounds_toArray, List.set_cons_zero, List.set_cons_succ, i64_w, i32_w]
                        rfl
                      refine pure_ (i := 1) (N := some 45) (v := ?_) (a' := ?_) #[true, true, false, false, false, false, false, false, false, false, false, false, false, false, false, false, false] rfl rfl (any_of HT_.out (by kernel_rfl)) (fun _ _ _ h => h) (Or.inl ⟨by rfl, ?_⟩) ?_ ?_
                      rotate_left
                      · intro w'
                        go_simp
                        with_reducible rfl
                      rotate_left
                      · simp only [Act.put, List.setIfInBounds_toArray, List.set_cons_zero, List.set_cons_succ, i64_w, i32_w]
                        rfl
                      refine pure_ (i := 2) (N := some 46) (v := undef) (a' := ?_) #[true, true, true, false, false, false, false, false, false, false, false, false, false, false, false, false, false] rfl rfl (any_of HT_.out (by kernel_rfl)) (fun _ _ _ h => h) (Or.inr ⟨by rfl, rfl⟩) ?_ ?_
                      rotate_left
                      · simp only [Act.put, List.setIfInBounds_toArray, List.set_cons_zero, List.set_cons_succ, i64_w, i32_w]
                        rfl
                      refine pure_ (i := 3) (N := some 47) (v := undef) (a' := ?_) #[true, true, true, true, false, false, false, false, false, false, false, false, false, false, false, false, false] rfl rfl (any_of HT_.out (by kernel_rfl)) (fun _ _ _ h => h) (Or.inr ⟨by rfl, rfl⟩) ?_ ?_
                      rotate_left
                      · simp only [Act.put, List.setIfInBounds_toArray, List.set_cons_zero, List.set_cons_succ, i64_w, i32_w]
                        rfl
                      refine pure_ (i := 4) (N := some 48) (v := undef) (a' := ?_) #[true, true, true, true, true, false, false, false, false, false, false, false, false, false, false, false, false] rfl rfl (any_of HT_.out (by kernel_rfl)) (fun _ _ _ h => h) (Or.inr ⟨by rfl, rfl⟩) ?_ ?_
                      rotate_left
                      · simp only [Act.put, List.setIfInBounds_toArray, List.set_cons_zero, List.set_cons_succ, i64_w, i32_w]
                        rfl
                      refine pure_ (i := 5) (N := some 49) (v := undef) (a' := ?_) #[true, true, true, true, true, true, false, false, false, false, false, false, false, false, false, false, false] rfl rfl (any_of HT_.out (by kernel_rfl)) (fun _ _ _ h => h) (Or.inr ⟨by rfl, rfl⟩) ?_ ?_
                      rotate_left
                      · simp only [Act.put, List.setIfInBounds_toArray, List.set_cons_zero, List.set_cons_succ, i64_w, i32_w]
                        rfl
                      refine pure_ (i := 6) (N := some 50) (v := undef) (a' := ?_) #[true, true, true, true, true, true, true, false, false, false, false, false, false, false, false, false, false] rfl rfl (any_of HT_.out (by kernel_rfl)) (fun _ _ _ h => h) (Or.inr ⟨by rfl, rfl⟩) ?_ ?_
                      rotate_left
                      · simp only [Act.put, List.setIfInBounds_toArray, List.set_cons_zero, List.set_cons_succ, i64_w, i32_w]
                        rfl
                      refine pure_ (i := 7) (N := some 51) (v := undef) (a' := ?_) #[true, true, true, true, true, true, true, true, false, false, false, false, false, false, false, false, false] rfl rfl (any_of HT_.out (by kernel_rfl)) (fun _ _ _ h => h) (Or.inr ⟨by rfl, rfl⟩) ?_ ?_
                      rotate_left
                      · simp only [Act.put, List.setIfInBounds_toArray, List.set_cons_zero, List.set_cons_succ, i64_w, i32_w]
                        rfl
                      refine pure_ (i := 8) (N := some 52) (v := undef) (a' := ?_) #[true, true, true, true, true, true, true, true, true, false, false, false, false, false, false, false, false] rfl rfl (any_of HT_.out (by kernel_rfl)) (fun _ _ _ h => h) (Or.inr ⟨by rfl, rfl⟩) ?_ ?_
                      rotate_left
                      · simp only [Act.put, List.setIfInBounds_toArray, List.set_cons_zero, List.set_cons_succ, i64_w, i32_w]
                        rfl
                      refine pure_ (i := 9) (N := some 53) (v := undef) (a' := ?_) #[true, true, true, true, true, true, true, true, true, true, false, false, false, false, false, false, false] rfl rfl (any_of HT_.out (by kernel_rfl)) (fun _ _ _ h => h) (Or.inr ⟨by rfl, rfl⟩) ?_ ?_
                      rotate_left
                      · simp only [Act.put, List.setIfInBounds_toArray, List.set_cons_zero, List.set_cons_succ, i64_w, i32_w]
                        rfl
                      refine pure_ (i := 10) (N := some 54) (v := undef) (a' := ?_) #[true, true, true, true, true, true, true, true, true, true, true, false, false, false, false, false, false] rfl rfl (any_of HT_.out (by kernel_rfl)) (fun _ _ _ h => h) (Or.inr ⟨by rfl, rfl⟩) ?_ ?_
                      rotate_left
                      · simp only [Act.put, List.setIfInBounds_toArray, List.set_cons_zero, List.set_cons_succ, i64_w, i32_w]
                        rfl
                      refine pure_ (i := 11) (N := some 55) (v := undef) (a' := ?_) #[true, true, true, true, true, true, true, true, true, true, true, true, false, false, false, false, false] rfl rfl (any_of HT_.out (by kernel_rfl)) (fun _ _ _ h => h) (Or.inr ⟨by rfl, rfl⟩) ?_ ?_
                      rotate_left
                      · simp only [Act.put, List.setIfInBounds_toArray, List.set_cons_zero, List.set_cons_succ, i64_w, i32_w]
                        rfl
                      refine pure_ (i := 12) (N := some 56) (v := undef) (a' := ?_) #[true, true, true, true, true, true, true, true, true, true, true, true, true, false, false, false, false] rfl rfl (any_of HT_.out (by kernel_rfl)) (fun _ _ _ h => h) (Or.inr ⟨by rfl, rfl⟩) ?_ ?_
                      rotate_left
                      · simp only [Act.put, List.setIfInBounds_toArray, List.set_cons_zero, List.set_cons_succ, i64_w, i32_w]
                        rfl
                      refine pure_ (i := 13) (N := some 57) (v := undef) (a' := ?_) #[true, true, true, true, true, true, true, true, true, true, true, true, true, true, false, false, false] rfl rfl (any_of HT_.out (by kernel_rfl)) (fun _ _ _ h => h) (Or.inr ⟨by rfl, rfl⟩) ?_ ?_
                      rotate_left
                      · simp only [Act.put, List.setIfInBounds_toArray, List.set_cons_zero, List.set_cons_succ, i64_w, i32_w]
                        rfl
                      refine pure_ (i := 14) (N := some 58) (v := undef) (a' := ?_) #[true, true, true, true, true, true, true, true, true, true, true, true, true, true, true, false, false] rfl rfl (any_of HT_.out (by kernel_rfl)) (fun _ _ _ h => h) (Or.inr ⟨by rfl, rfl⟩) ?_ ?_
                      rotate_left
                      · simp only [Act.put, List.setIfInBounds_toArray, List.set_cons_zero, List.set_cons_succ, i64_w, i32_w]
                        rfl
                      refine pure_ (i := 15) (N := some 59) (v := ?_) (a' := ?_) #[true, true, true, true, true, true, true, true, true, true, true, true, true, true, true, true, false] rfl rfl (any_of HT_.out (by kernel_rfl)) (fun _ _ _ h => h) (Or.inl ⟨by rfl, ?_⟩) ?_ ?_
                      rotate_left
                      · intro w'
                        go_simp
                        with_reducible rfl
                      rotate_left
                      · simp only [Act.put, List.setIfInBounds_toArray, List.set_cons_zero, List.set_cons_succ, i64_w, i32_w]
                        rfl
                      refine pure_ (i := 16) (N := some 4) (v := ?_) (a' := ?_) #[true, true, true, true, true, true, true, true, true, true, true, true, true, true, true, true, true] rfl rfl (any_of HT_.out (by kernel_rfl)) (fun _ _ _ h => h) (Or.inl ⟨by rfl, ?_⟩) ?_ ?_
                      rotate_left
                      · intro w'
                        go_simp
                        with_reducible rfl
                      rotate_left
                      · simp only [Act.put, List.setIfInBounds_toArray, List.set_cons_zero, List.set_cons_succ, i64_w, i32_w]
                        rfl
                      refine done_ (done_of HT_.out (by kernel_rfl)) ?_
                      try go_wp2
                      go_ret
                      exact ⟨by first | rfl | (simp [errW_none, errW_some] <;> rfl) | (simp only [← hji31]; first | rfl | (simp [errW_none, errW_some] <;> rfl)) | (simp [*, errW_none, errW_some] <;> rfl), by repeat (first | (with_reducible first | exact HB.out | apply below_alloc | apply pw_below_drewN | apply below_drew1) | exact HB.out)⟩
                  · rw [if_neg c35] at H
                    exact absurd H (by simp)
                · rw [if_neg c34] at H
                  exact absurd H (by simp)
              · rw [if_neg c33] at H
                exact absurd H (by simp)
            · rw [if_neg c32] at H
              exact absurd H (by simp)
  · rw [if_neg c4] at H
    exact absurd H (by simp)

def prebendlaw15_OrderLess.Pure : Prop := ∀ (l0 : List (S32)) (a1 : Int), (l0.length ≤ maxLen ∧ ∀ y ∈ l0, g32 y) → (Lit.int .u8 a1).wf = true → ∃ k, prebendlaw15_OrderLess.f k l0 a1 = some true
theorem prebendlaw15_OrderLess.walk (P : prebendlaw15_OrderLess.Pure) (A0 : Option Addr) (c0 : Nat) (l0 : List (S32)) (a1 : Int) (w : World) (hr0 : Kd.C k32 w A0 l0.length l0) (hc0 : l0.length ≤ c0) (h0_ : (l0.length ≤ maxLen ∧ ∀ y ∈ l0, g32 y)) (h1_ : (Lit.int .u8 a1).wf = true) :
    Calls Try.prog 5 #[.slice A0 l0.length c0, .int .u8 a1] w fun e w' => e = .returned (.bool true) ∧ Below w.heap.size w w' := by
  obtain ⟨k, h⟩ := P l0 a1 h0_ h1_
  refine (prebendlaw15_OrderLess.calls k A0 c0 l0 a1 true w hr0 hc0 h).mono ?_
  rintro e w' ⟨rfl, hd⟩
  exact ⟨rfl, hd⟩

end Go.Proofs.Ytkhfgflcanmefaa.PAll
end
