/- Words, plain functions and contracts of the functions that the law of this claim reaches; no conditions. -/
import Derived.Test.YtkhfgflcanmefaaBOrderQueues4
section
namespace Go.Proofs.Ytkhfgflcanmefaa.PAll
open Go.RowKit Go.Proofs.YtkhfgflcanmefaaW.PrintWords Go.Proofs.YtkhfgflcanmefaaW.PrintLast Go.Proofs.YtkhfgflcanmefaaW.PrintMore
attribute [local go_sem] max2_int min2_int max_two min_two max_three min_three max_four min_four   -- for this text's walks alone
set_option linter.unusedVariables false
set_option linter.unusedSimpArgs false

abbrev order_Order.sort (al : List S32) (k : Nat) (l : List Int) : Option (List Int) := @slices_SortStableFunc_int__order_Order_1.f ⟨al, fun _ _ => none⟩ k l
theorem order_Order.sortmono (al : List S32) (l : List Int) (k : Nat) : LeO (order_Order.sort al k l) (order_Order.sort al (k + 1) l) := @slices_SortStableFunc_int__order_Order_1.mono ⟨al, fun _ _ => none⟩ l k
def order_Order.l0 : Nat → List Int → List (S32) → Int → Int → Option (List Int)
  | 0, _, _, _, _ => none
  | k + 1, x3, x6, x7, x8 => if x8 < x7 then (if 0 ≤ x8 then (if x8 < (x6.length : Int) then (if ((rd_T32 x6 x8).f7) = 1 then (if x3.length < 17592186044416 then (order_Order.l0 k (x3 ++ [x8]) x6 x7 (wrap64 (x8 + 1))) else (none)) else (order_Order.l0 k x3 x6 x7 (wrap64 (x8 + 1)))) else (none)) else (none)) else ((order_Order.sort x6 k x3).bind fun t210 => ((slices_Clip_int.f t210).bind fun t211 => (some t211)))
def order_Order.f (k : Nat) (l0 : List (S32)) : Option (List Int) := order_Order.l0 k ([] : List Int) l0 (l0.length : Int) 0
theorem order_Order.mono_l : ∀ k, (∀ y0 y1 y2 y3, LeO (order_Order.l0 k y0 y1 y2 y3) (order_Order.l0 (k + 1) y0 y1 y2 y3))
  | 0 => fun _ _ _ _ r h => by simp [order_Order.l0] at h
  | k + 1 => by
    have ih0 := order_Order.mono_l k
    · intro y0 y1 y2 y3
      unfold order_Order.l0
      repeat' first
      | (with_reducible exact ih0 _ _ _ _)
      | (with_reducible exact order_Order.sortmono _ _ _)
      | (with_reducible exact LeO.refl _)
      | (with_reducible exact LeO.none _)
      | (with_reducible refine LeO.ite ?_ ?_)
      | (with_reducible refine LeO.bind ?_ (fun _ => ?_))
      | exact ih0 _ _ _ _
      | exact order_Order.sortmono _ _ _
      | exact LeO.none _
      | refine LeO.ite ?_ ?_
      | refine LeO.bind ?_ (fun _ => ?_)
theorem order_Order.mono : ∀ a0 k, LeO (order_Order.f k a0) (order_Order.f (k + 1) a0) := by
  intro a0 k
  have ih0 := order_Order.mono_l k
  unfold order_Order.f
  repeat' first
      | (with_reducible exact ih0 _ _ _ _)
      | (with_reducible exact order_Order.sortmono _ _ _)
      | (with_reducible exact LeO.refl _)
      | (with_reducible exact LeO.none _)
      | (with_reducible refine LeO.ite ?_ ?_)
      | (with_reducible refine LeO.bind ?_ (fun _ => ?_))
      | exact ih0 _ _ _ _
      | exact order_Order.sortmono _ _ _
      | exact LeO.none _
      | refine LeO.ite ?_ ?_
      | refine LeO.bind ?_ (fun _ => ?_)
set_option maxHeartbeats 8000000 in
set_option maxRecDepth 100000 in
theorem order_Order.calls (k : Nat) (A0 : Option Addr) (c0 : Nat) (l0 : List (S32)) (r : List Int) (w : World) (hr0 : Kd.C k32 w A0 l0.length l0) (hc0 : l0.length ≤ c0) (h : order_Order.f k l0 = some r) :
    Calls Try.prog 14 #[.slice A0 l0.length c0] w fun e w' => ∃ v0_ : Value, e = .returned (v0_) ∧ Kd.V (Kd.int .i64) 3 w' w.heap.size (fun k_ => (w.heap.size ≤ k_)) v0_ r ∧ Below w.heap.size w w' := by
  have hu32 := Try.underlying32
  have HR0 := Aside0.mk hr0
  have HC0 := Aside0.mk hc0
  clear hr0 hc0
  have HB := Aside0.mk (Below.refl w.heap.size w)
  have H : (order_Order.l0 k ([] : List Int) l0 (l0.length : Int) 0) = some r := h
  clear h
  have H' := Aside0.mk H
  clear H
  go_enter Try.func14, Try.ntmps14
  go_wp2
  obtain ⟨W1, hW1⟩ : ∃ W1, W1 = w.alloc (.cells #[.slice A0 l0.length c0] 22 (0, 0)) := ⟨_, rfl⟩
  rw [← hW1]
  have HS1 : Aside0 (w.heap.size ≤ W1.heap.size ∧ Below w.heap.size w W1) := ⟨by rw [hW1]; exact ⟨by simp, below_alloc (Below.refl _ _) _⟩⟩
  letI : Cap := ⟨l0, fun _ _ => none⟩
  have HCAP : Aside0 (CapAt w.heap.size A0 c0 W1) := ⟨⟨by rw [hW1]; exact (blk_cell (heap_alloc_new w _) 0).trans rfl, Kd.C_below HR0.out HS1.out.2, fun _ _ => rfl⟩⟩
  have HR1 := Aside0.mk (Kd.C_below HR0.out HS1.out.2)
  have HBX : Aside0 (W1.cell? ⟨w.heap.size, 0, none⟩ = some (.slice A0 l0.length c0)) := ⟨HCAP.out.hg⟩
  clear HR0 HB hW1
  have HR0 := HR1
  clear HR1
  have HB := Aside0.mk (Below.refl W1.heap.size W1)
  go_loopg [3, 8] k (fun kq v3 v8 w' => ∃ (x3_1 : List Int) (x8_1 : Int), v8 = .int .i64 x8_1 ∧ Aside0 (order_Order.l0 kq x3_1 l0 (l0.length : Int) x8_1 = some r) ∧ Aside0 (kq ≤ k) ∧ Aside0 (Kd.R (Kd.int .i64) 3 w' W1.heap.size (fun k_ => (W1.heap.size ≤ k_)) v3 x3_1) ∧ Aside0 (Below W1.heap.size W1 w'))
  case atStart => exact ⟨(([] : List Int)), (0), (by first | rfl | (simp; done) | (simp [*]; done)), H', ⟨Nat.le_refl _⟩, ⟨by first | exact Kd.R_nil _ _ _ _ _ | exact Kd.N_nil _ _ _ _ _ | exact Kd.V_nil _ _ _ _ _ | exact Kd.Q_nil _ _ _ _ _ | exact Kd.S_nil _ _ _ _ _⟩, ⟨by repeat (first | (with_reducible first | exact HB.out | apply below_alloc | apply pw_below_drewN | apply below_drew1) | exact HB.out)⟩⟩
  case round =>
    clear H'
    try clear c1
    obtain ⟨x3_1, x8_1, rfl, HA, HK1, HO_3, HB⟩ := hrel
    cases gk with
    | zero => exact absurd HA.out (by simp [order_Order.l0])
    | succ k1 =>
      have H := HA.out
      clear HA
      simp only [order_Order.l0] at H
      by_cases c2 : x8_1 < (l0.length : Int)
      · rw [if_pos c2] at H
        have c2b0 : decide (x8_1 < (l0.length : Int)) = true := decide_eq_true c2
        clear c2
        by_cases c3 : 0 ≤ x8_1
        · rw [if_pos c3] at H
          have c3b0 : decide (0 ≤ x8_1) = true := decide_eq_true c3
          clear c3
          by_cases c4 : x8_1 < (l0.length : Int)
          · rw [if_pos c4] at H
            have c4b0 : decide (x8_1 < (l0.length : Int)) = true := decide_eq_true c4
            clear c4
            by_cases c5 : ((rd_T32 l0 x8_1).f7) = 1
            · rw [if_pos c5] at H
              have c5b0 : (((rd_T32 l0 x8_1).f7) == 1) = true := beq_iff_eq.mpr c5
              have c5b1 : (((rd_T32 l0 x8_1).f7) != 1) = false := bne_eq_false_iff_eq.mpr c5
              clear c5
              by_cases c6 : x3_1.length < 17592186044416
              · rw [if_pos c6] at H
                have LMc6 := Aside0.mk c6
                clear c6
                obtain ⟨y207, hy207⟩ : ∃ y_ : List Int, y_ = (x3_1 ++ [x8_1]) := ⟨_, rfl⟩
                replace H : (order_Order.l0 k1 y207 l0 (l0.length : Int) (wrap64 (x8_1 + 1))) = some r := by first | (rw [hy207]; with_reducible exact H) | (have H2_ := (Option.bind_some _ _).symm.trans H; rw [hy207]; with_reducible exact H2_) | (have H2_ := (Option.bind_some _ _).symm.trans H; with_reducible exact H2_) | with_reducible exact H | (rw [hy207]; exact H) | exact H
                have Ny207 := Aside0.mk hy207
                clear hy207
                have H' := Aside0.mk H
                clear H
                have p205 : 0 ≤ (x8_1 : Int) := of_decide_eq_true (by first | (with_reducible assumption) | assumption)
                have q205 : x8_1 < (l0.length : Int) := of_decide_eq_true (by first | (with_reducible assumption) | assumption)
                obtain ⟨ad205, A205_11, c205_11, e205, hx205_0, hx205_1, hx205_2, hx205_3, hx205_4, hx205_5, hx205_6, hx205_7, hx205_8, hx205_9, hx205_10, hx205_11, hl205_11, hi205_11⟩ := at_T32 HR0.out x8_1 p205 q205
                cases e205
                replace hx205_0 := (HB.out.cell (World.block_lt_of_cell? W1 _ hx205_0)).trans hx205_0
                replace hx205_1 := (HB.out.cell (World.block_lt_of_cell? W1 _ hx205_1)).trans hx205_1
                replace hx205_2 := (HB.out.cell (World.block_lt_of_cell? W1 _ hx205_2)).trans hx205_2
                replace hx205_3 := (HB.out.cell (World.block_lt_of_cell? W1 _ hx205_3)).trans hx205_3
                replace hx205_4 := (HB.out.cell (World.block_lt_of_cell? W1 _ hx205_4)).trans hx205_4
                replace hx205_5 := (HB.out.cell (World.block_lt_of_cell? W1 _ hx205_5)).trans hx205_5
                replace hx205_6 := (HB.out.cell (World.block_lt_of_cell? W1 _ hx205_6)).trans hx205_6
                replace hx205_7 := (HB.out.cell (World.block_lt_of_cell? W1 _ hx205_7)).trans hx205_7
                replace hx205_8 := (HB.out.cell (World.block_lt_of_cell? W1 _ hx205_8)).trans hx205_8
                replace hx205_9 := (HB.out.cell (World.block_lt_of_cell? W1 _ hx205_9)).trans hx205_9
                replace hx205_10 := (HB.out.cell (World.block_lt_of_cell? W1 _ hx205_10)).trans hx205_10
                replace hx205_11 := (HB.out.cell (World.block_lt_of_cell? W1 _ hx205_11)).trans hx205_11
                have HR205_11 := Aside0.mk hi205_11
                have HC205_11 := Aside0.mk hl205_11
                clear hi205_11 hl205_11
                replace p205 := eq_true p205
                replace q205 := eq_true q205
                go_wp2_with (first | ((with_reducible refine gate_dst (N := 5) rfl ?_); refine box_event ?hg (N := 5) ?hd (cs := #[.int .i64 0, .int .i64 0, .int .i64 0, .int .i64 0, .int .i64 0, .int .i64 0, .int .i64 0, .int .i64 0, .int .i64 0, .int .i64 0, .int .i64 0, .slice none 0 0]) (t := 32) ?hr ?_; (case hd => rfl); (case hg => rfl); (case hr => first | (go_simp; done) | (go_simp; rfl)); intro gb206 hg w7 hbox hb; have n0_ := Aside0.mk (Kd.R_below (by (with_reducible repeat (first | apply Kd.R_alloc | apply Kd.R_drewN | apply Kd.R_drew)); exact HO_3.out) hb); have n1_ := Aside0.mk (below_step (by repeat (first | (with_reducible first | exact HB.out | apply below_alloc | apply pw_below_drewN | apply below_drew1) | exact HB.out)) hb); have n2_ := Aside0.mk (hbox); have n3_ := Aside0.mk ((by rw [hg]; exact (below_size (by repeat (first | (with_reducible first | exact HB.out | apply below_alloc | apply pw_below_drewN | apply below_drew1) | exact HB.out))) : W1.heap.size ≤ gb206)); have n4_ := Aside0.mk ((by rw [hg]; exact (below_size (by repeat (first | (with_reducible first | exact HB.out | apply below_alloc | apply pw_below_drewN | apply below_drew1) | exact HB.out))) : W1.heap.size ≤ gb206)); clear HO_3; clear HB; have HO_3 := n0_; have HB := n1_; have BK206 := n2_; have GW206 := n3_; have GE206 := n4_; clear n0_ n1_ n2_ n3_ n4_; clear hb hbox hg; have hcz8_0 : w7.cell? ⟨gb206, 0, none⟩ = some (.int .i64 0) := (blk_cell BK206.out 0).trans rfl; have hcz8_1 : w7.cell? ⟨gb206, 1, none⟩ = some (.int .i64 0) := (blk_cell BK206.out 1).trans rfl; have hcz8_2 : w7.cell? ⟨gb206, 2, none⟩ = some (.int .i64 0) := (blk_cell BK206.out 2).trans rfl; have hcz8_3 : w7.cell? ⟨gb206, 3, none⟩ = some (.int .i64 0) := (blk_cell BK206.out 3).trans rfl; have hcz8_4 : w7.cell? ⟨gb206, 4, none⟩ = some (.int .i64 0) := (blk_cell BK206.out 4).trans rfl; have hcz8_5 : w7.cell? ⟨gb206, 5, none⟩ = some (.int .i64 0) := (blk_cell BK206.out 5).trans rfl; have hcz8_6 : w7.cell? ⟨gb206, 6, none⟩ = some (.int .i64 0) := (blk_cell BK206.out 6).trans rfl; have hcz8_7 : w7.cell? ⟨gb206, 7, none⟩ = some (.int .i64 0) := (blk_cell BK206.out 7).trans rfl; have hcz8_8 : w7.cell? ⟨gb206, 8, none⟩ = some (.int .i64 0) := (blk_cell BK206.out 8).trans rfl; have hcz8_9 : w7.cell? ⟨gb206, 9, none⟩ = some (.int .i64 0) := (blk_cell BK206.out 9).trans rfl; have hcz8_10 : w7.cell? ⟨gb206, 10, none⟩ = some (.int .i64 0) := (blk_cell BK206.out 10).trans rfl; have hcz8_11 : w7.cell? ⟨gb206, 11, none⟩ = some (.slice none 0 0) := (blk_cell BK206.out 11).trans rfl; have hfz8_0 := blk_frozen BK206.out 0; have hfz8_1 := blk_frozen BK206.out 1; have hfz8_2 := blk_frozen BK206.out 2; have hfz8_3 := blk_frozen BK206.out 3; have hfz8_4 := blk_frozen BK206.out 4; have hfz8_5 := blk_frozen BK206.out 5; have hfz8_6 := blk_frozen BK206.out 6; have hfz8_7 := blk_frozen BK206.out 7; have hfz8_8 := blk_frozen BK206.out 8; have hfz8_9 := blk_frozen BK206.out 9; have hfz8_10 := blk_frozen BK206.out 10; have hfz8_11 := blk_frozen BK206.out 11) | ((with_reducible refine gate_builtin (b := .append) (xs := #[.tmp 16, .tmp 18]) rfl ?_); at_builtin; refine Kd.R_append (Kd.int .i64) (w0 := W1) W1.heap.size rfl (.tmp 16) (.tmp 18) 24 3 (.int .i64 0) 8 rfl Try.underlying24 info3 rfl (by decide) (by omega) u3 x3_1 x8_1 [.int .i64 x8_1] (fun k_ => (W1.heap.size ≤ k_)) (fun _ => False) rfl (by first | (go_simp; done) | (go_simp; rfl)) ?aP (fun _ hk => hk.elim) ?aF ?aO ?aB ?aS ?aL ?_; (case aP => exact rfl); (case aB => exact (by repeat (first | (with_reducible first | exact HB.out | apply below_alloc | apply pw_below_drewN | apply below_drew1 | refine below_set ?_ GE206.out) | exact HB.out))); (case aF => exact (fun k_ hk => (Nat.le_trans (below_size (by repeat (first | (with_reducible first | exact HB.out | apply below_alloc | apply pw_below_drewN | apply below_drew1 | refine below_set ?_ GE206.out) | exact HB.out))) hk))); (case aO => exact (by (with_reducible repeat (first | apply Kd.R_alloc | apply Kd.R_drewN | apply Kd.R_drew)); exact Kd.R_mono (Kd.R_fa gb206 11 (Kd.R_fa gb206 10 (Kd.R_fa gb206 9 (Kd.R_fa gb206 8 (Kd.R_fa gb206 7 (Kd.R_fa gb206 6 (Kd.R_fa gb206 5 (Kd.R_fa gb206 4 (Kd.R_fa gb206 3 (Kd.R_fa gb206 2 (Kd.R_fa gb206 1 (Kd.R_fa gb206 0 (Kd.R_types HO_3.out BK206.out (by decide)) (.int .i64 ((rd_T32 l0 x8_1).f0))) (.int .i64 ((rd_T32 l0 x8_1).f1))) (.int .i64 ((rd_T32 l0 x8_1).f2))) (.int .i64 ((rd_T32 l0 x8_1).f3))) (.int .i64 ((rd_T32 l0 x8_1).f4))) (.int .i64 ((rd_T32 l0 x8_1).f5))) (.int .i64 ((rd_T32 l0 x8_1).f6))) (.int .i64 ((rd_T32 l0 x8_1).f7))) (.int .i64 ((rd_T32 l0 x8_1).f8))) (.int .i64 ((rd_T32 l0 x8_1).f9))) (.int .i64 ((rd_T32 l0 x8_1).f10))) (.slice A205_11 ((rd_T32 l0 x8_1).f11).length c205_11)) (fun _ hk => hk.1))); (case aS => exact (below_size (by repeat (first | (with_reducible first | exact HB.out | apply below_alloc | apply pw_below_drewN | apply below_drew1 | refine below_set ?_ GE206.out) | exact HB.out)))); (case aL => have := LMc6.out; omega); intro v208 w9 ho hb hg hat; rw [← Ny207.out] at ho; have n0_ := Aside0.mk (blk_grown (g := gb206) (o := .cells #[.int .i64 ((rd_T32 l0 x8_1).f0), .int .i64 ((rd_T32 l0 x8_1).f1), .int .i64 ((rd_T32 l0 x8_1).f2), .int .i64 ((rd_T32 l0 x8_1).f3), .int .i64 ((rd_T32 l0 x8_1).f4), .int .i64 ((rd_T32 l0 x8_1).f5), .int .i64 ((rd_T32 l0 x8_1).f6), .int .i64 ((rd_T32 l0 x8_1).f7), .int .i64 ((rd_T32 l0 x8_1).f8), .int .i64 ((rd_T32 l0 x8_1).f9), .int .i64 ((rd_T32 l0 x8_1).f10), .slice A205_11 ((rd_T32 l0 x8_1).f11).length c205_11] 32 (0, 0)) (by (with_reducible repeat first | apply blk_drewN | apply blk_drew | apply blk_alloc); refine blk_put (cs := #[.int .i64 ((rd_T32 l0 x8_1).f0), .int .i64 ((rd_T32 l0 x8_1).f1), .int .i64 ((rd_T32 l0 x8_1).f2), .int .i64 ((rd_T32 l0 x8_1).f3), .int .i64 ((rd_T32 l0 x8_1).f4), .int .i64 ((rd_T32 l0 x8_1).f5), .int .i64 ((rd_T32 l0 x8_1).f6), .int .i64 ((rd_T32 l0 x8_1).f7), .int .i64 ((rd_T32 l0 x8_1).f8), .int .i64 ((rd_T32 l0 x8_1).f9), .int .i64 ((rd_T32 l0 x8_1).f10), .slice none 0 0]) ?_ 11 _ rfl; (with_reducible repeat first | apply blk_drewN | apply blk_drew | apply blk_alloc); refine blk_put (cs := #[.int .i64 ((rd_T32 l0 x8_1).f0), .int .i64 ((rd_T32 l0 x8_1).f1), .int .i64 ((rd_T32 l0 x8_1).f2), .int .i64 ((rd_T32 l0 x8_1).f3), .int .i64 ((rd_T32 l0 x8_1).f4), .int .i64 ((rd_T32 l0 x8_1).f5), .int .i64 ((rd_T32 l0 x8_1).f6), .int .i64 ((rd_T32 l0 x8_1).f7), .int .i64 ((rd_T32 l0 x8_1).f8), .int .i64 ((rd_T32 l0 x8_1).f9), .int .i64 0, .slice none 0 0]) ?_ 10 _ rfl; (with_reducible repeat first | apply blk_drewN | apply blk_drew | apply blk_alloc); refine blk_put (cs := #[.int .i64 ((rd_T32 l0 x8_1).f0), .int .i64 ((rd_T32 l0 x8_1).f1), .int .i64 ((rd_T32 l0 x8_1).f2), .int .i64 ((rd_T32 l0 x8_1).f3), .int .i64 ((rd_T32 l0 x8_1).f4), .int .i64 ((rd_T32 l0 x8_1).f5), .int .i64 ((rd_T32 l0 x8_1).f6), .int .i64 ((rd_T32 l0 x8_1).f7), .int .i64 ((rd_T32 l0 x8_1).f8), .int .i64 0, .int .i64 0, .slice none 0 0]) ?_ 9 _ rfl; (with_reducible repeat first | apply blk_drewN | apply blk_drew | apply blk_alloc); refine blk_put (cs := #[.int .i64 ((rd_T32 l0 x8_1).f0), .int .i64 ((rd_T32 l0 x8_1).f1), .int .i64 ((rd_T32 l0 x8_1).f2), .int .i64 ((rd_T32 l0 x8_1).f3), .int .i64 ((rd_T32 l0 x8_1).f4), .int .i64 ((rd_T32 l0 x8_1).f5), .int .i64 ((rd_T32 l0 x8_1).f6), .int .i64 ((rd_T32 l0 x8_1).f7), .int .i64 0, .int .i64 0, .int .i64 0, .slice none 0 0]) ?_ 8 _ rfl; (with_reducible repeat first | apply blk_drewN | apply blk_drew | apply blk_alloc); refine blk_put (cs := #[.int .i64 ((rd_T32 l0 x8_1).f0), .int .i64 ((rd_T32 l0 x8_1).f1), .int .i64 ((rd_T32 l0 x8_1).f2), .int .i64 ((rd_T32 l0 x8_1).f3), .int .i64 ((rd_T32 l0 x8_1).f4), .int .i64 ((rd_T32 l0 x8_1).f5), .int .i64 ((rd_T32 l0 x8_1).f6), .int .i64 0, .int .i64 0, .int .i64 0, .int .i64 0, .slice none 0 0]) ?_ 7 _ rfl; (with_reducible repeat first | apply blk_drewN | apply blk_drew | apply blk_alloc); refine blk_put (cs := #[.int .i64 ((rd_T32 l0 x8_1).f0), .int .i64 ((rd_T32 l0 x8_1).f1), .int .i64 ((rd_T32 l0 x8_1).f2), .int .i64 ((rd_T32 l0 x8_1).f3), .int .i64 ((rd_T32 l0 x8_1).f4), .int .i64 ((rd_T32 l0 x8_1).f5), .int .i64 0, .int .i64 0, .int .i64 0, .int .i64 0, .int .i64 0, .slice none 0 0]) ?_ 6 _ rfl; (with_reducible repeat first | apply blk_drewN | apply blk_drew | apply blk_alloc); refine blk_put (cs := #[.int .i64 ((rd_T32 l0 x8_1).f0), .int .i64 ((rd_T32 l0 x8_1).f1), .int .i64 ((rd_T32 l0 x8_1).f2), .int .i64 ((rd_T32 l0 x8_1).f3), .int .i64 ((rd_T32 l0 x8_1).f4), .int .i64 0, .int .i64 0, .int .i64 0, .int .i64 0, .int .i64 0, .int .i64 0, .slice none 0 0]) ?_ 5 _ rfl; (with_reducible repeat first | apply blk_drewN | apply blk_drew | apply blk_alloc); refine blk_put (cs := #[.int .i64 ((rd_T32 l0 x8_1).f0), .int .i64 ((rd_T32 l0 x8_1).f1), .int .i64 ((rd_T32 l0 x8_1).f2), .int .i64 ((rd_T32 l0 x8_1).f3), .int .i64 0, .int .i64 0, .int .i64 0, .int .i64 0, .int .i64 0, .int .i64 0, .int .i64 0, .slice none 0 0]) ?_ 4 _ rfl; (with_reducible repeat first | apply blk_drewN | apply blk_drew | apply blk_alloc); refine blk_put (cs := #[.int .i64 ((rd_T32 l0 x8_1).f0), .int .i64 ((rd_T32 l0 x8_1).f1), .int .i64 ((rd_T32 l0 x8_1).f2), .int .i64 0, .int .i64 0, .int .i64 0, .int .i64 0, .int .i64 0, .int .i64 0, .int .i64 0, .int .i64 0, .slice none 0 0]) ?_ 3 _ rfl; (with_reducible repeat first | apply blk_drewN | apply blk_drew | apply blk_alloc); refine blk_put (cs := #[.int .i64 ((rd_T32 l0 x8_1).f0), .int .i64 ((rd_T32 l0 x8_1).f1), .int .i64 0, .int .i64 0, .int .i64 0, .int .i64 0, .int .i64 0, .int .i64 0, .int .i64 0, .int .i64 0, .int .i64 0, .slice none 0 0]) ?_ 2 _ rfl; (with_reducible repeat first | apply blk_drewN | apply blk_drew | apply blk_alloc); refine blk_put (cs := #[.int .i64 ((rd_T32 l0 x8_1).f0), .int .i64 0, .int .i64 0, .int .i64 0, .int .i64 0, .int .i64 0, .int .i64 0, .int .i64 0, .int .i64 0, .int .i64 0, .int .i64 0, .slice none 0 0]) ?_ 1 _ rfl; (with_reducible repeat first | apply blk_drewN | apply blk_drew | apply blk_alloc); refine blk_put (cs := #[.int .i64 0, .int .i64 0, .int .i64 0, .int .i64 0, .int .i64 0, .int .i64 0, .int .i64 0, .int .i64 0, .int .i64 0, .int .i64 0, .int .i64 0, .slice none 0 0]) ?_ 0 _ rfl; (with_reducible repeat first | apply blk_drewN | apply blk_drew | apply blk_alloc); exact BK206.out) hg (Kd.R_ne HO_3.out BK206.out (by decide))); have n1_ := Aside0.mk (hb); have n2_ := Aside0.mk (ho); clear BK206; clear HB; clear HO_3; have BK206 := n0_; have HB := n1_; have HO209 := n2_; clear n0_ n1_ n2_; clear ho hb hg hat))
                go_roundg k1
                case measure => have := HK1.out; omega
                case rel => exact ⟨(y207), (wrap64 (x8_1 + 1)), (by first | rfl | (simp; done) | (simp [*]; done)), H', ⟨by have := HK1.out; omega⟩, ⟨by (with_reducible repeat (first | apply Kd.R_alloc | apply Kd.R_drewN | apply Kd.R_drew)); exact HO209.out⟩, ⟨by repeat (first | (with_reducible first | exact HB.out | apply below_alloc | apply pw_below_drewN | apply below_drew1 | refine below_set ?_ GE206.out) | exact HB.out)⟩⟩
              · rw [if_neg c6] at H
                exact absurd H (by simp)
            · rw [if_neg c5] at H
              have c5b0 : (((rd_T32 l0 x8_1).f7) == 1) = false := beq_eq_false_iff_ne.mpr c5
              have c5b1 : (((rd_T32 l0 x8_1).f7) != 1) = true := bne_iff_ne.mpr c5
              have H' := Aside0.mk H
              clear H
              have p205 : 0 ≤ (x8_1 : Int) := of_decide_eq_true (by first | (with_reducible assumption) | assumption)
              have q205 : x8_1 < (l0.length : Int) := of_decide_eq_true (by first | (with_reducible assumption) | assumption)
              obtain ⟨ad205, A205_11, c205_11, e205, hx205_0, hx205_1, hx205_2, hx205_3, hx205_4, hx205_5, hx205_6, hx205_7, hx205_8, hx205_9, hx205_10, hx205_11, hl205_11, hi205_11⟩ := at_T32 HR0.out x8_1 p205 q205
              cases e205
              replace hx205_0 := (HB.out.cell (World.block_lt_of_cell? W1 _ hx205_0)).trans hx205_0
              replace hx205_1 := (HB.out.cell (World.block_lt_of_cell? W1 _ hx205_1)).trans hx205_1
              replace hx205_2 := (HB.out.cell (World.block_lt_of_cell? W1 _ hx205_2)).trans hx205_2
              replace hx205_3 := (HB.out.cell (World.block_lt_of_cell? W1 _ hx205_3)).trans hx205_3
              replace hx205_4 := (HB.out.cell (World.block_lt_of_cell? W1 _ hx205_4)).trans hx205_4
              replace hx205_5 := (HB.out.cell (World.block_lt_of_cell? W1 _ hx205_5)).trans hx205_5
              replace hx205_6 := (HB.out.cell (World.block_lt_of_cell? W1 _ hx205_6)).trans hx205_6
              replace hx205_7 := (HB.out.cell (World.block_lt_of_cell? W1 _ hx205_7)).trans hx205_7
              replace hx205_8 := (HB.out.cell (World.block_lt_of_cell? W1 _ hx205_8)).trans hx205_8
              replace hx205_9 := (HB.out.cell (World.block_lt_of_cell? W1 _ hx205_9)).trans hx205_9
              replace hx205_10 := (HB.out.cell (World.block_lt_of_cell? W1 _ hx205_10)).trans hx205_10
              replace hx205_11 := (HB.out.cell (World.block_lt_of_cell? W1 _ hx205_11)).trans hx205_11
              have HR205_11 := Aside0.mk hi205_11
              have HC205_11 := Aside0.mk hl205_11
              clear hi205_11 hl205_11
              replace p205 := eq_true p205
              replace q205 := eq_true q205
              go_wp2_with (first | ((with_reducible refine gate_dst (N := 5) rfl ?_); refine box_event ?hg (N := 5) ?hd (cs := #[.int .i64 0, .int .i64 0, .int .i64 0, .int .i64 0, .int .i64 0, .int .i64 0, .int .i64 0, .int .i64 0, .int .i64 0, .int .i64 0, .int .i64 0, .slice none 0 0]) (t := 32) ?hr ?_; (case hd => rfl); (case hg => rfl); (case hr => first | (go_simp; done) | (go_simp; rfl)); intro gb206 hg w10 hbox hb; have n0_ := Aside0.mk (Kd.R_below (by (with_reducible repeat (first | apply Kd.R_alloc | apply Kd.R_drewN | apply Kd.R_drew)); exact HO_3.out) hb); have n1_ := Aside0.mk (below_step (by repeat (first | (with_reducible first | exact HB.out | apply below_alloc | apply pw_below_drewN | apply below_drew1) | exact HB.out)) hb); have n2_ := Aside0.mk (hbox); have n3_ := Aside0.mk ((by rw [hg]; exact (below_size (by repeat (first | (with_reducible first | exact HB.out | apply below_alloc | apply pw_below_drewN | apply below_drew1) | exact HB.out))) : W1.heap.size ≤ gb206)); have n4_ := Aside0.mk ((by rw [hg]; exact (below_size (by repeat (first | (with_reducible first | exact HB.out | apply below_alloc | apply pw_below_drewN | apply below_drew1) | exact HB.out))) : W1.heap.size ≤ gb206)); clear HO_3; clear HB; have HO_3 := n0_; have HB := n1_; have BK206 := n2_; have GW206 := n3_; have GE206 := n4_; clear n0_ n1_ n2_ n3_ n4_; clear hb hbox hg; have hcz11_0 : w10.cell? ⟨gb206, 0, none⟩ = some (.int .i64 0) := (blk_cell BK206.out 0).trans rfl; have hcz11_1 : w10.cell? ⟨gb206, 1, none⟩ = some (.int .i64 0) := (blk_cell BK206.out 1).trans rfl; have hcz11_2 : w10.cell? ⟨gb206, 2, none⟩ = some (.int .i64 0) := (blk_cell BK206.out 2).trans rfl; have hcz11_3 : w10.cell? ⟨gb206, 3, none⟩ = some (.int .i64 0) := (blk_cell BK206.out 3).trans rfl; have hcz11_4 : w10.cell? ⟨gb206, 4, none⟩ = some (.int .i64 0) := (blk_cell BK206.out 4).trans rfl; have hcz11_5 : w10.cell? ⟨gb206, 5, none⟩ = some (.int .i64 0) := (blk_cell BK206.out 5).trans rfl; have hcz11_6 : w10.cell? ⟨gb206, 6, none⟩ = some (.int .i64 0) := (blk_cell BK206.out 6).trans rfl; have hcz11_7 : w10.cell? ⟨gb206, 7, none⟩ = some (.int .i64 0) := (blk_cell BK206.out 7).trans rfl; have hcz11_8 : w10.cell? ⟨gb206, 8, none⟩ = some (.int .i64 0) := (blk_cell BK206.out 8).trans rfl; have hcz11_9 : w10.cell? ⟨gb206, 9, none⟩ = some (.int .i64 0) := (blk_cell BK206.out 9).trans rfl; have hcz11_10 : w10.cell? ⟨gb206, 10, none⟩ = some (.int .i64 0) := (blk_cell BK206.out 10).trans rfl; have hcz11_11 : w10.cell? ⟨gb206, 11, none⟩ = some (.slice none 0 0) := (blk_cell BK206.out 11).trans rfl; have hfz11_0 := blk_frozen BK206.out 0; have hfz11_1 := blk_frozen BK206.out 1; have hfz11_2 := blk_frozen BK206.out 2; have hfz11_3 := blk_frozen BK206.out 3; have hfz11_4 := blk_frozen BK206.out 4; have hfz11_5 := blk_frozen BK206.out 5; have hfz11_6 := blk_frozen BK206.out 6; have hfz11_7 := blk_frozen BK206.out 7; have hfz11_8 := blk_frozen BK206.out 8; have hfz11_9 := blk_frozen BK206.out 9; have hfz11_10 := blk_frozen BK206.out 10; have hfz11_11 := blk_frozen BK206.out 11))
              go_roundg k1
              case measure => have := HK1.out; omega
              case rel => exact ⟨(x3_1), (wrap64 (x8_1 + 1)), (by first | rfl | (simp; done) | (simp [*]; done)), H', ⟨by have := HK1.out; omega⟩, ⟨by (with_reducible repeat (first | apply Kd.R_alloc | apply Kd.R_drewN | apply Kd.R_drew)); exact Kd.R_mono (Kd.R_fa gb206 11 (Kd.R_fa gb206 10 (Kd.R_fa gb206 9 (Kd.R_fa gb206 8 (Kd.R_fa gb206 7 (Kd.R_fa gb206 6 (Kd.R_fa gb206 5 (Kd.R_fa gb206 4 (Kd.R_fa gb206 3 (Kd.R_fa gb206 2 (Kd.R_fa gb206 1 (Kd.R_fa gb206 0 (Kd.R_types HO_3.out BK206.out (by decide)) (.int .i64 ((rd_T32 l0 x8_1).f0))) (.int .i64 ((rd_T32 l0 x8_1).f1))) (.int .i64 ((rd_T32 l0 x8_1).f2))) (.int .i64 ((rd_T32 l0 x8_1).f3))) (.int .i64 ((rd_T32 l0 x8_1).f4))) (.int .i64 ((rd_T32 l0 x8_1).f5))) (.int .i64 ((rd_T32 l0 x8_1).f6))) (.int .i64 ((rd_T32 l0 x8_1).f7))) (.int .i64 ((rd_T32 l0 x8_1).f8))) (.int .i64 ((rd_T32 l0 x8_1).f9))) (.int .i64 ((rd_T32 l0 x8_1).f10))) (.slice A205_11 ((rd_T32 l0 x8_1).f11).length c205_11)) (fun _ hk => hk.1)⟩, ⟨by repeat (first | (with_reducible first | exact HB.out | apply below_alloc | apply pw_below_drewN | apply below_drew1 | refine below_set ?_ GE206.out) | exact HB.out)⟩⟩
          · rw [if_neg c4] at H
            exact absurd H (by simp)
        · rw [if_neg c3] at H
          exact absurd H (by simp)
      · rw [if_neg c2] at H
        have c2b0 : decide (x8_1 < (l0.length : Int)) = false := decide_eq_false c2
        clear c2
        replace H := Option.bind_eq_some_iff.mp H
        obtain ⟨t210, A120, H⟩ := H
        replace H : ((slices_Clip_int.f t210).bind fun t211 => (some t211)) = some r := H
        have A12 := Aside0.mk A120
        clear A120
        replace H := Option.bind_eq_some_iff.mp H
        obtain ⟨t211, A130, H⟩ := H
        replace H : (some t211) = some r := H
        have A13 := Aside0.mk A130
        clear A130
        obtain rfl := Option.some.inj H
        obtain ⟨Ao14, co14, eo14⟩ := Kd.R_slice HO_3.out
        subst eo14
        go_wp2_with (first | ((with_reducible refine gate_callee (f := 33) rfl ?_); refine goesL_ (some 23) rfl rfl Try.func33 (by kernel_rfl) rfl #[.slice Ao14 x3_1.length co14, .func (.func 34) #[] #[.pointer (some ⟨w.heap.size, 0, none⟩)]] rfl (by (try simp only [List.map_toArray, List.map_cons, List.map_nil]); first | done | rfl | (simp only [List.length_drop, List.length_take]; rfl)) ?_; (with_reducible refine (slices_SortStableFunc_int__order_Order_1.calls k1 (fun k_ => some k_ = (.slice Ao14 x3_1.length co14 : Value).ownBlock) (.slice Ao14 x3_1.length co14) x3_1  t210 W1 _ HCAP.out ?side1 ?side2 A12.out).mono ?_); (case side1 => repeat (first | (with_reducible first | exact HB.out | apply below_alloc | apply pw_below_drewN | apply below_drew1) | exact HB.out)); (case side2 => exact Kd.R_tight rfl HO_3.out); rintro e w15 ⟨rfl, hy0, hb, hkp⟩; refine ⟨_, rfl, ?_⟩; have n0_ := Aside0.mk (Kd.R_reok rfl hy0 (fun k_ e_ => HO_3.out.1 k_ e_)); have n1_ := Aside0.mk (hb); clear HO_3; clear HB; have HO_3 := n0_; have HB := n1_; clear n0_ n1_; (try clear hb); (try clear hkp); (try clear hy0)) | ((with_reducible refine gate_callee (f := 37) rfl ?_); refine goesL_ (some 25) rfl rfl Try.func37 (by kernel_rfl) rfl #[.slice Ao14 t210.length co14] rfl (by (try simp only [List.map_toArray, List.map_cons, List.map_nil]); first | done | (rw [show t210.length = x3_1.length from (Kd.R_reads' HO_3.out).1.symm] <;> rfl) | rfl | (simp only [List.length_drop, List.length_take]; rfl)) ?_; (with_reducible refine (slices_Clip_int.calls (fun k_ => some k_ = (.slice Ao14 x3_1.length co14 : Value).ownBlock) _ _ t210 t211 _ ?side1 A13.out).mono ?_); (case side1 => rw [show t210.length = x3_1.length from (Kd.R_reads' HO_3.out).1.symm]; exact Kd.R_V (Kd.R_tight rfl (HO_3.out))); rintro e w16 ⟨v212, rfl, ho0, hb⟩; refine ⟨_, rfl, ?_⟩; have n0_ := Aside0.mk (Kd.R_below (by (with_reducible repeat (first | apply Kd.R_alloc | apply Kd.R_drewN | apply Kd.R_drew)); exact HO_3.out) hb); have n1_ := Aside0.mk (Kd.V_lower (Kd.V_mono (ok' := fun k_ => (W1.heap.size ≤ k_)) ho0 (fun k_ hk_ => Or.elim hk_ (fun hs_ => ((HO_3.out).1 k_ hs_.symm)) (fun hn_ => (Nat.le_trans (below_size (by repeat (first | (with_reducible first | exact HB.out | apply below_alloc | apply pw_below_drewN | apply below_drew1) | exact HB.out))) hn_)))) (below_size (by repeat (first | (with_reducible first | exact HB.out | apply below_alloc | apply pw_below_drewN | apply below_drew1) | exact HB.out)))); have n2_ := Aside0.mk (below_step (by repeat (first | (with_reducible first | exact HB.out | apply below_alloc | apply pw_below_drewN | apply below_drew1) | exact HB.out)) hb); clear HO_3; clear HB; have HO_3 := n0_; have HO213 := n1_; have HB := n2_; clear n0_ n1_ n2_; (try clear hb); (try clear hb2); (try clear hk); (try clear hi); (try clear ho0)))
        go_ret
        exact ⟨_, by first | rfl | (simp [errW_none, errW_some] <;> rfl) | (simp [*, errW_none, errW_some] <;> rfl), Kd.V_mono (Kd.V_lower HO213.out HS1.out.1) (fun k_ hk => Nat.le_trans HS1.out.1 hk), HS1.out.2.trans (HB.out.mono HS1.out.1)⟩
end Go.Proofs.Ytkhfgflcanmefaa.PAll
end
section
namespace Go.Proofs.Ytkhfgflcanmefaa.PAll
open Go.RowKit Go.Proofs.YtkhfgflcanmefaaW.PrintWords Go.Proofs.YtkhfgflcanmefaaW.PrintLast Go.Proofs.YtkhfgflcanmefaaW.PrintMore
attribute [local go_sem] max2_int min2_int max_two min_two max_three min_three max_four min_four   -- for this text's walks alone
set_option linter.unusedVariables false
set_option linter.unusedSimpArgs false

def slices_Clip_Ask.f (l0 : List (S29)) : Option (List (S29)) := some l0
theorem slices_Clip_Ask.cut (A : Option Addr) (n c : Nat) (hm : n ≤ c) : ∀ W : World, (Instr.slice 26 (.slice A n c) none (some (.int .i64 (n : Int))) (some (.int .i64 (n : Int)))).run Try.prog W = .ok (.slice A n n) W := by
  intro W
  obtain ⟨i0, hi, _, hsz, _⟩ := info_parts info29
  have ha : (A.map fun x => x.add 0) = A := by cases A <;> simp [Addr.add]
  have hn : (n : Int) ≤ (c : Int) := by omega
  simp [Instr.slice, run_underlying Try.underlying26, Instr.sliceBounds, run_sliceBound, sizeOf, typeInfo, hi, Result.andThen, ha, hn]
set_option maxHeartbeats 8000000 in
set_option maxRecDepth 100000 in
theorem slices_Clip_Ask.calls (P0_ : Nat → Prop) (A0 : Option Addr) (c0 : Nat) (l0 : List (S29)) (r : List (S29)) (w : World) (hs0 : Kd.V k29 29 w w.heap.size (fun k_ => P0_ k_) (.slice A0 l0.length c0) l0) (h : slices_Clip_Ask.f l0 = some r) :
    Calls Try.prog 32 #[.slice A0 l0.length c0] w fun e w' => ∃ v0_ : Value, e = .returned (v0_) ∧ Kd.V k29 29 w' w.heap.size (fun k_ => (P0_ k_ ∨ w.heap.size ≤ k_)) v0_ r ∧ Below w.heap.size w w' := by
  obtain rfl := Option.some.inj h
  have HO0 := Aside0.mk (show Kd.V k29 29 w w.heap.size (fun k_ => (P0_ k_ ∨ w.heap.size ≤ k_)) (.slice A0 l0.length l0.length) l0 from Kd.V_mk (Nat.le_refl _) (Kd.F_mono (Kd.V_F hs0) (fun k_ hk => .inl hk)))
  have hc := (Kd.V_reads' hs0).2.1
  have hcut := slices_Clip_Ask.cut A0 l0.length c0 hc
  clear hs0 hc
  go_enter Try.func32, Try.ntmps32
  go_wp2
  go_ret
  exact ⟨_, rfl, HO0.out, Below.refl _ _⟩
end Go.Proofs.Ytkhfgflcanmefaa.PAll
end
section
namespace Go.Proofs.Ytkhfgflcanmefaa.PAll
open Go.RowKit Go.Proofs.YtkhfgflcanmefaaW.PrintWords Go.Proofs.YtkhfgflcanmefaaW.PrintLast Go.Proofs.YtkhfgflcanmefaaW.PrintMore
attribute [local go_sem] max2_int min2_int max_two min_two max_three min_three max_four min_four   -- for this text's walks alone
set_option linter.unusedVariables false
set_option linter.unusedSimpArgs false

def order_Asks.l0 : Nat → List (S32) → List (S29) → List Int → Int → Int → Option ((List (S29)))
  | 0, _, _, _, _, _ => none
  | k + 1, x0, x3, x7, x8, x9 => if x9 < x8 then (if 0 ≤ x9 then (if x9 < (x7.length : Int) then (if 0 ≤ (rd x7 x9) then (if (rd x7 x9) < (x0.length : Int) then (if x3.length < 8796093022208 then (order_Asks.l0 k x0 (x3 ++ [(⟨(rd_T32 x0 (rd x7 x9)).f2, (rd_T32 x0 (rd x7 x9)).f3⟩ : S29)]) x7 x8 (wrap64 (x9 + 1))) else (none)) else (none)) else (none)) else (none)) else (none)) else ((slices_Clip_Ask.f x3).bind fun t223 => (some t223))
def order_Asks.f (k : Nat) (l0 : List (S32)) : Option ((List (S29))) := (order_Order.f k l0).bind fun t214 => (order_Asks.l0 k l0 ([] : List (S29)) t214 (t214.length : Int) 0)
theorem order_Asks.mono_l : ∀ k, (∀ y0 y1 y2 y3 y4, LeO (order_Asks.l0 k y0 y1 y2 y3 y4) (order_Asks.l0 (k + 1) y0 y1 y2 y3 y4))
  | 0 => fun _ _ _ _ _ r h => by simp [order_Asks.l0] at h
  | k + 1 => by
    have ih0 := order_Asks.mono_l k
    · intro y0 y1 y2 y3 y4
      unfold order_Asks.l0
      repeat' first
      | (with_reducible exact ih0 _ _ _ _ _)
      | (with_reducible exact order_Order.mono _ _)
      | (with_reducible exact LeO.refl _)
      | (with_reducible exact LeO.none _)
      | (with_reducible refine LeO.ite ?_ ?_)
      | (with_reducible refine LeO.bind ?_ (fun _ => ?_))
      | exact ih0 _ _ _ _ _
      | exact order_Order.mono _ _
      | exact LeO.none _
      | refine LeO.ite ?_ ?_
      | refine LeO.bind ?_ (fun _ => ?_)
theorem order_Asks.mono : ∀ a0 k, LeO (order_Asks.f k a0) (order_Asks.f (k + 1) a0) := by
  intro a0 k
  have ih0 := order_Asks.mono_l k
  unfold order_Asks.f
  repeat' first
      | (with_reducible exact ih0 _ _ _ _ _)
      | (with_reducible exact order_Order.mono _ _)
      | (with_reducible exact LeO.refl _)
      | (with_reducible exact LeO.none _)
      | (with_reducible refine LeO.ite ?_ ?_)
      | (with_reducible refine LeO.bind ?_ (fun _ => ?_))
      | exact ih0 _ _ _ _ _
      | exact order_Order.mono _ _
      | exact LeO.none _
      | refine LeO.ite ?_ ?_
      | refine LeO.bind ?_ (fun _ => ?_)
def order_Asks.T5 : Bool × List (List Nat × List Nat) := (true, [([], []), ([], []), ([], []), ([1, 2], [1, 2]), ([3], [3]), ([4], [4]), ([], []), ([], []), ([6, 7], [6, 7]), ([8], [8]), ([9], [9]), ([5, 10], [5, 10]), ([11], [11]), ([0, 12], [0, 12]), ([13, 13, 0, 1, 2, 3, 4, 5, 6, 7, 8, 9, 10, 11, 12, 13], [0, 13])])
def order_Asks.B5 : List Nat := [0, 0, 0, 6, 14, 30, 0, 0, 192, 448, 960, 2046, 4094, 8191, 16383]
theorem order_Asks.tab5 : rtab .any (opsOf Try.f11 5) = order_Asks.T5 := by kernel_rfl
theorem order_Asks.bits5 : waitsOk order_Asks.T5.2 order_Asks.B5 = true := by kernel_rfl
set_option maxHeartbeats 8000000 in
set_option maxRecDepth 100000 in
theorem order_Asks.calls (k : Nat) (A0 : Option Addr) (c0 : Nat) (l0 : List (S32)) (r : List (S29)) (w : World) (hr0 : Kd.C k32 w A0 l0.length l0) (hc0 : l0.length ≤ c0) (h : order_Asks.f k l0 = some r) :
    Calls Try.prog 11 #[.slice A0 l0.length c0] w fun e w' => ∃ v0_ : Value, e = .returned (v0_) ∧ Kd.V k29 29 w' w.heap.size (fun k_ => (w.heap.size ≤ k_)) v0_ r ∧ Below w.heap.size w w' := by
  have hu29 := Try.underlying29
  have HR0 := Aside0.mk hr0
  have HC0 := Aside0.mk hc0
  clear hr0 hc0
  have HB := Aside0.mk (Below.refl w.heap.size w)
  have H : ((order_Order.f k l0).bind fun t214 => (order_Asks.l0 k l0 ([] : List (S29)) t214 (t214.length : Int) 0)) = some r := h
  clear h
  replace H := Option.bind_eq_some_iff.mp H
  obtain ⟨t214, A20, H⟩ := H
  replace H : (order_Asks.l0 k l0 ([] : List (S29)) t214 (t214.length : Int) 0) = some r := H
  have A2 := Aside0.mk A20
  clear A20
  have H' := Aside0.mk H
  clear H
  go_enter Try.func11, Try.ntmps11
  go_wp2_with (first | ((with_reducible refine gate_callee (f := 14) rfl ?_); refine goesL_ (some 7) rfl rfl Try.func14 (by kernel_rfl) rfl #[.slice A0 l0.length c0] rfl (by (try simp only [List.map_toArray, List.map_cons, List.map_nil]); first | done | rfl | (simp only [List.length_drop, List.length_take]; rfl)) ?_; (with_reducible refine (order_Order.calls k _ _ l0 t214 _ ?side1 ?side2 A2.out).mono ?_); (case side1 => repeat (first | exact HR0.out | (with_reducible refine Kd.C_alloc ?_ _) | (with_reducible refine Kd.C_drewN ?_ _) | (with_reducible refine Kd.C_drew ?_))); (case side2 => exact HC0.out); rintro e w3 ⟨v215, rfl, ho0, hb⟩; refine ⟨_, rfl, ?_⟩; have n0_ := Aside0.mk (Kd.V_lower (Kd.V_mono (ok' := fun k_ => (w.heap.size ≤ k_)) ho0 (fun k_ hk_ => (Nat.le_trans (below_size (by repeat (first | (with_reducible first | exact HB.out | apply below_alloc | apply pw_below_drewN | apply below_drew1) | exact HB.out))) hk_))) (below_size (by repeat (first | (with_reducible first | exact HB.out | apply below_alloc | apply pw_below_drewN | apply below_drew1) | exact HB.out)))); have n1_ := Aside0.mk (below_step (by repeat (first | (with_reducible first | exact HB.out | apply below_alloc | apply pw_below_drewN | apply below_drew1) | exact HB.out)) hb); clear HB; have HO216 := n0_; have HB := n1_; clear n0_ n1_; (try clear hb); (try clear hb2); (try clear hk); (try clear hi); (try clear ho0); obtain ⟨Ao4, co4, eo4⟩ := Kd.V_slice HO216.out; subst eo4))
  (try simp only [Act.put, List.setIfInBounds_toArray, List.set_cons_zero, List.set_cons_succ])
  go_loopg [3, 9] k (fun kq v3 v9 w' => ∃ (x3_1 : List (S29)) (x9_1 : Int), v9 = .int .i64 x9_1 ∧ Aside0 (order_Asks.l0 kq l0 x3_1 t214 (t214.length : Int) x9_1 = some r) ∧ Aside0 (kq ≤ k) ∧ Aside0 (Kd.R k29 29 w' w.heap.size (fun k_ => (w.heap.size ≤ k_)) v3 x3_1) ∧ Aside0 (Kd.V (Kd.int .i64) 3 w' w.heap.size (fun k_ => (w.heap.size ≤ k_) ∧ some k_ ≠ (v3 : Value).ownBlock) (.slice Ao4 t214.length co4) t214) ∧ Aside0 (Below w.heap.size w w'))
  case atStart => exact ⟨(([] : List (S29))), (0), (by first | rfl | (simp; done) | (simp [*]; done)), H', ⟨Nat.le_refl _⟩, ⟨by first | exact Kd.R_nil _ _ _ _ _ | exact Kd.N_nil _ _ _ _ _ | exact Kd.V_nil _ _ _ _ _ | exact Kd.Q_nil _ _ _ _ _ | exact Kd.S_nil _ _ _ _ _⟩, ⟨by (with_reducible repeat (first | apply Kd.V_alloc | apply Kd.V_drewN | apply Kd.V_drew)); exact Kd.V_mono HO216.out (fun _ hk => ⟨hk, (by simp [Value.ownBlock])⟩)⟩, ⟨by repeat (first | (with_reducible first | exact HB.out | apply below_alloc | apply pw_below_drewN | apply below_drew1) | exact HB.out)⟩⟩
  case round =>
    clear H'
    try clear c1
    try clear p2
    obtain ⟨x3_1, x9_1, rfl, HA, HK1, HO_3, HO_7, HB⟩ := hrel
    cases gk with
    | zero => exact absurd HA.out (by simp [order_Asks.l0])
    | succ k1 =>
      have H := HA.out
      clear HA
      simp only [order_Asks.l0] at H
      by_cases c5 : x9_1 < (t214.length : Int)
      · rw [if_pos c5] at H
        have c5b0 : decide (x9_1 < (t214.length : Int)) = true := decide_eq_true c5
        clear c5
        by_cases c6 : 0 ≤ x9_1
        · rw [if_pos c6] at H
          have c6b0 : decide (0 ≤ x9_1) = true := decide_eq_true c6
          clear c6
          by_cases c7 : x9_1 < (t214.length : Int)
          · rw [if_pos c7] at H
            have c7b0 : decide (x9_1 < (t214.length : Int)) = true := decide_eq_true c7
            clear c7
            by_cases c8 : 0 ≤ (rd t214 x9_1)
            · rw [if_pos c8] at H
              have c8b0 : decide (0 ≤ (rd t214 x9_1)) = true := decide_eq_true c8
              clear c8
              by_cases c9 : (rd t214 x9_1) < (l0.length : Int)
              · rw [if_pos c9] at H
                have c9b0 : decide ((rd t214 x9_1) < (l0.length : Int)) = true := decide_eq_true c9
                clear c9
                by_cases c10 : x3_1.length < 8796093022208
                · rw [if_pos c10] at H
                  have LMc10 := Aside0.mk c10
                  clear c10
                  obtain ⟨y220, hy220⟩ : ∃ y_ : List (S29), y_ = (x3_1 ++ [(⟨(rd_T32 l0 (rd t214 x9_1)).f2, (rd_T32 l0 (rd t214 x9_1)).f3⟩ : S29)]) := ⟨_, rfl⟩
                  replace H : (order_Asks.l0 k1 l0 y220 t214 (t214.length : Int) (wrap64 (x9_1 + 1))) = some r := by first | (rw [hy220]; with_reducible exact H) | (have H2_ := (Option.bind_some _ _).symm.trans H; rw [hy220]; with_reducible exact H2_) | (have H2_ := (Option.bind_some _ _).symm.trans H; with_reducible exact H2_) | with_reducible exact H | (rw [hy220]; exact H) | exact H
                  have Ny220 := Aside0.mk hy220
                  clear hy220
                  have H' := Aside0.mk H
                  clear H
                  have p217 : 0 ≤ (x9_1 : Int) := of_decide_eq_true (by first | (with_reducible assumption) | assumption)
                  have q217 : x9_1 < (t214.length : Int) := of_decide_eq_true (by first | (with_reducible assumption) | assumption)
                  obtain ⟨ad217, e217, hx217_0⟩ := Kd.at_int (Kd.V_reads' HO_7.out).2.2 x9_1 p217 q217
                  cases e217
                  replace p217 := eq_true p217
                  replace q217 := eq_true q217
                  try go_wp2
                  have n0_ := Aside0.mk (Kd.R_drew HO_3.out)
                  have n1_ := Aside0.mk (Kd.V_drew HO_7.out)
                  have n2_ := Aside0.mk (below_drew1 HB.out)
                  clear HO_3
                  clear HO_7
                  clear HB
                  have HO_3 := n0_
                  have HO_7 := n1_
                  have HB := n2_
                  clear n0_ n1_ n2_
                  have p218 : 0 ≤ ((rd t214 x9_1) : Int) := of_decide_eq_true (by first | (with_reducible assumption) | assumption)
                  have q218 : (rd t214 x9_1) < (l0.length : Int) := of_decide_eq_true (by first | (with_reducible assumption) | assumption)
                  obtain ⟨ad218, A218_11, c218_11, e218, hx218_0, hx218_1, hx218_2, hx218_3, hx218_4, hx218_5, hx218_6, hx218_7, hx218_8, hx218_9, hx218_10, hx218_11, hl218_11, hi218_11⟩ := at_T32 HR0.out (rd t214 x9_1) p218 q218
                  have hw218_11 := hx218_11
                  have hw218_10 := hx218_10
                  have hw218_9 := hx218_9
                  have hw218_8 := hx218_8
                  have hw218_7 := hx218_7
                  have hw218_6 := hx218_6
                  have hw218_5 := hx218_5
                  have hw218_4 := hx218_4
                  have hw218_3 := hx218_3
                  have hw218_2 := hx218_2
                  have hw218_1 := hx218_1
                  have hw218_0 := hx218_0
                  cases e218
                  replace hx218_0 := (HB.out.cell (World.block_lt_of_cell? w _ hx218_0)).trans hx218_0
                  replace hx218_1 := (HB.out.cell (World.block_lt_of_cell? w _ hx218_1)).trans hx218_1
                  replace hx218_2 := (HB.out.cell (World.block_lt_of_cell? w _ hx218_2)).trans hx218_2
                  replace hx218_3 := (HB.out.cell (World.block_lt_of_cell? w _ hx218_3)).trans hx218_3
                  replace hx218_4 := (HB.out.cell (World.block_lt_of_cell? w _ hx218_4)).trans hx218_4
                  replace hx218_5 := (HB.out.cell (World.block_lt_of_cell? w _ hx218_5)).trans hx218_5
                  replace hx218_6 := (HB.out.cell (World.block_lt_of_cell? w _ hx218_6)).trans hx218_6
                  replace hx218_7 := (HB.out.cell (World.block_lt_of_cell? w _ hx218_7)).trans hx218_7
                  replace hx218_8 := (HB.out.cell (World.block_lt_of_cell? w _ hx218_8)).trans hx218_8
                  replace hx218_9 := (HB.out.cell (World.block_lt_of_cell? w _ hx218_9)).trans hx218_9
                  replace hx218_10 := (HB.out.cell (World.block_lt_of_cell? w _ hx218_10)).trans hx218_10
                  replace hx218_11 := (HB.out.cell (World.block_lt_of_cell? w _ hx218_11)).trans hx218_11
                  have HR218_11 := Aside0.mk hi218_11
                  have HC218_11 := Aside0.mk hl218_11
                  clear hi218_11 hl218_11
                  replace p218 := eq_true p218
                  replace q218 := eq_true q218
                  have p219 : 0 ≤ ((rd t214 x9_1) : Int) := of_decide_eq_true (by first | (with_reducible assumption) | assumption)
                  have q219 : (rd t214 x9_1) < (l0.length : Int) := of_decide_eq_true (by first | (with_reducible assumption) | assumption)
                  obtain ⟨ad219, A219_11, c219_11, e219, hx219_0, hx219_1, hx219_2, hx219_3, hx219_4, hx219_5, hx219_6, hx219_7, hx219_8, hx219_9, hx219_10, hx219_11, hl219_11, hi219_11⟩ := at_T32 HR0.out (rd t214 x9_1) p219 q219
                  have hw219_11 := hx219_11
                  have hw219_10 := hx219_10
                  have hw219_9 := hx219_9
                  have hw219_8 := hx219_8
                  have hw219_7 := hx219_7
                  have hw219_6 := hx219_6
                  have hw219_5 := hx219_5
                  have hw219_4 := hx219_4
                  have hw219_3 := hx219_3
                  have hw219_2 := hx219_2
                  have hw219_1 := hx219_1
                  have hw219_0 := hx219_0
                  obtain rfl : ad218 = ad219 := (by injection e219)
                  replace hx219_0 := (HB.out.cell (World.block_lt_of_cell? w _ hx219_0)).trans hx219_0
                  replace hx219_1 := (HB.out.cell (World.block_lt_of_cell? w _ hx219_1)).trans hx219_1
                  replace hx219_2 := (HB.out.cell (World.block_lt_of_cell? w _ hx219_2)).trans hx219_2
                  replace hx219_3 := (HB.out.cell (World.block_lt_of_cell? w _ hx219_3)).trans hx219_3
                  replace hx219_4 := (HB.out.cell (World.block_lt_of_cell? w _ hx219_4)).trans hx219_4
                  replace hx219_5 := (HB.out.cell (World.block_lt_of_cell? w _ hx219_5)).trans hx219_5
                  replace hx219_6 := (HB.out.cell (World.block_lt_of_cell? w _ hx219_6)).trans hx219_6
                  replace hx219_7 := (HB.out.cell (World.block_lt_of_cell? w _ hx219_7)).trans hx219_7
                  replace hx219_8 := (HB.out.cell (World.block_lt_of_cell? w _ hx219_8)).trans hx219_8
                  replace hx219_9 := (HB.out.cell (World.block_lt_of_cell? w _ hx219_9)).trans hx219_9
                  replace hx219_10 := (HB.out.cell (World.block_lt_of_cell? w _ hx219_10)).trans hx219_10
                  replace hx219_11 := (HB.out.cell (World.block_lt_of_cell? w _ hx219_11)).trans hx219_11
                  have HR219_11 := Aside0.mk hi219_11
                  have HC219_11 := Aside0.mk hl219_11
                  clear hi219_11 hl219_11
                  replace p219 := eq_true p219
                  replace q219 := eq_true q219
                  have ea_ := Option.some.inj (hx218_11.symm.trans hx219_11)
                  injection ea_ with ea_ en_ ec_
                  subst ea_
                  subst ec_
                  clear en_
                  refine start_ (n := 15) (S := fun w' => w'.cell? (ad218.add (((rd t214 x9_1)).toNat * 12)) = some (.int .i64 ((rd_T32 l0 (rd t214 x9_1)).f0)) ∧ w'.cell? ⟨(ad218.add (((rd t214 x9_1)).toNat * 12)).block, (ad218.add (((rd t214 x9_1)).toNat * 12)).off + 1, none⟩ = some (.int .i64 ((rd_T32 l0 (rd t214 x9_1)).f1)) ∧ w'.cell? ⟨(ad218.add (((rd t214 x9_1)).toNat * 12)).block, (ad218.add (((rd t214 x9_1)).toNat * 12)).off + 2, none⟩ = some (.int .i64 ((rd_T32 l0 (rd t214 x9_1)).f2)) ∧ w'.cell? ⟨(ad218.add (((rd t214 x9_1)).toNat * 12)).block, (ad218.add (((rd t214 x9_1)).toNat * 12)).off + 3, none⟩ = some (.int .i64 ((rd_T32 l0 (rd t214 x9_1)).f3)) ∧ w'.cell? ⟨(ad218.add (((rd t214 x9_1)).toNat * 12)).block, (ad218.add (((rd t214 x9_1)).toNat * 12)).off + 4, none⟩ = some (.int .i64 ((rd_T32 l0 (rd t214 x9_1)).f4)) ∧ w'.cell? ⟨(ad218.add (((rd t214 x9_1)).toNat * 12)).block, (ad218.add (((rd t214 x9_1)).toNat * 12)).off + 5, none⟩ = some (.int .i64 ((rd_T32 l0 (rd t214 x9_1)).f5)) ∧ w'.cell? ⟨(ad218.add (((rd t214 x9_1)).toNat * 12)).block, (ad218.add (((rd t214 x9_1)).toNat * 12)).off + 6, none⟩ = some (.int .i64 ((rd_T32 l0 (rd t214 x9_1)).f6)) ∧ w'.cell? ⟨(ad218.add (((rd t214 x9_1)).toNat * 12)).block, (ad218.add (((rd t214 x9_1)).toNat * 12)).off + 7, none⟩ = some (.int .i64 ((rd_T32 l0 (rd t214 x9_1)).f7)) ∧ w'.cell? ⟨(ad218.add (((rd t214 x9_1)).toNat * 12)).block, (ad218.add (((rd t214 x9_1)).toNat * 12)).off + 8, none⟩ = some (.int .i64 ((rd_T32 l0 (rd t214 x9_1)).f8)) ∧ w'.cell? ⟨(ad218.add (((rd t214 x9_1)).toNat * 12)).block, (ad218.add (((rd t214 x9_1)).toNat * 12)).off + 9, none⟩ = some (.int .i64 ((rd_T32 l0 (rd t214 x9_1)).f9)) ∧ w'.cell? ⟨(ad218.add (((rd t214 x9_1)).toNat * 12)).block, (ad218.add (((rd t214 x9_1)).toNat * 12)).off + 10, none⟩ = some (.int .i64 ((rd_T32 l0 (rd t214 x9_1)).f10)) ∧ w'.cell? ⟨(ad218.add (((rd t214 x9_1)).toNat * 12)).block, (ad218.add (((rd t214 x9_1)).toNat * 12)).off + 11, none⟩ = some (.slice A218_11 ((rd_T32 l0 (rd t214 x9_1)).f11).length c218_11) ∧ w'.cell? (ad218.add (((rd t214 x9_1)).toNat * 12)) = some (.int .i64 ((rd_T32 l0 (rd t214 x9_1)).f0)) ∧ w'.cell? ⟨(ad218.add (((rd t214 x9_1)).toNat * 12)).block, (ad218.add (((rd t214 x9_1)).toNat * 12)).off + 1, none⟩ = some (.int .i64 ((rd_T32 l0 (rd t214 x9_1)).f1)) ∧ w'.cell? ⟨(ad218.add (((rd t214 x9_1)).toNat * 12)).block, (ad218.add (((rd t214 x9_1)).toNat * 12)).off + 2, none⟩ = some (.int .i64 ((rd_T32 l0 (rd t214 x9_1)).f2)) ∧ w'.cell? ⟨(ad218.add (((rd t214 x9_1)).toNat * 12)).block, (ad218.add (((rd t214 x9_1)).toNat * 12)).off + 3, none⟩ = some (.int .i64 ((rd_T32 l0 (rd t214 x9_1)).f3)) ∧ w'.cell? ⟨(ad218.add (((rd t214 x9_1)).toNat * 12)).block, (ad218.add (((rd t214 x9_1)).toNat * 12)).off + 4, none⟩ = some (.int .i64 ((rd_T32 l0 (rd t214 x9_1)).f4)) ∧ w'.cell? ⟨(ad218.add (((rd t214 x9_1)).toNat * 12)).block, (ad218.add (((rd t214 x9_1)).toNat * 12)).off + 5, none⟩ = some (.int .i64 ((rd_T32 l0 (rd t214 x9_1)).f5)) ∧ w'.cell? ⟨(ad218.add (((rd t214 x9_1)).toNat * 12)).block, (ad218.add (((rd t214 x9_1)).toNat * 12)).off + 6, none⟩ = some (.int .i64 ((rd_T32 l0 (rd t214 x9_1)).f6)) ∧ w'.cell? ⟨(ad218.add (((rd t214 x9_1)).toNat * 12)).block, (ad218.add (((rd t214 x9_1)).toNat * 12)).off + 7, none⟩ = some (.int .i64 ((rd_T32 l0 (rd t214 x9_1)).f7)) ∧ w'.cell? ⟨(ad218.add (((rd t214 x9_1)).toNat * 12)).block, (ad218.add (((rd t214 x9_1)).toNat * 12)).off + 8, none⟩ = some (.int .i64 ((rd_T32 l0 (rd t214 x9_1)).f8)) ∧ w'.cell? ⟨(ad218.add (((rd t214 x9_1)).toNat * 12)).block, (ad218.add (((rd t214 x9_1)).toNat * 12)).off + 9, none⟩ = some (.int .i64 ((rd_T32 l0 (rd t214 x9_1)).f9)) ∧ w'.cell? ⟨(ad218.add (((rd t214 x9_1)).toNat * 12)).block, (ad218.add (((rd t214 x9_1)).toNat * 12)).off + 10, none⟩ = some (.int .i64 ((rd_T32 l0 (rd t214 x9_1)).f10)) ∧ w'.cell? ⟨(ad218.add (((rd t214 x9_1)).toNat * 12)).block, (ad218.add (((rd t214 x9_1)).toNat * 12)).off + 11, none⟩ = some (.slice A218_11 ((rd_T32 l0 (rd t214 x9_1)).f11).length c218_11)) (ds := []) #[false, false, false, false, false, false, false, false, false, false, false, false, false, false, false] (by kernel_rfl) rfl rfl ⟨((HB.out.cell (World.block_lt_of_cell? w _ hw218_0)).trans hw218_0), ((HB.out.cell (World.block_lt_of_cell? w _ hw218_1)).trans hw218_1), ((HB.out.cell (World.block_lt_of_cell? w _ hw218_2)).trans hw218_2), ((HB.out.cell (World.block_lt_of_cell? w _ hw218_3)).trans hw218_3), ((HB.out.cell (World.block_lt_of_cell? w _ hw218_4)).trans hw218_4), ((HB.out.cell (World.block_lt_of_cell? w _ hw218_5)).trans hw218_5), ((HB.out.cell (World.block_lt_of_cell? w _ hw218_6)).trans hw218_6), ((HB.out.cell (World.block_lt_of_cell? w _ hw218_7)).trans hw218_7), ((HB.out.cell (World.block_lt_of_cell? w _ hw218_8)).trans hw218_8), ((HB.out.cell (World.block_lt_of_cell? w _ hw218_9)).trans hw218_9), ((HB.out.cell (World.block_lt_of_cell? w _ hw218_10)).trans hw218_10), ((HB.out.cell (World.block_lt_of_cell? w _ hw218_11)).trans hw218_11), ((HB.out.cell (World.block_lt_of_cell? w _ hw219_0)).trans hw219_0), ((HB.out.cell (World.block_lt_of_cell? w _ hw219_1)).trans hw219_1), ((HB.out.cell (World.block_lt_of_cell? w _ hw219_2)).trans hw219_2), ((HB.out.cell (World.block_lt_of_cell? w _ hw219_3)).trans hw219_3), ((HB.out.cell (World.block_lt_of_cell? w _ hw219_4)).trans hw219_4), ((HB.out.cell (World.block_lt_of_cell? w _ hw219_5)).trans hw219_5), ((HB.out.cell (World.block_lt_of_cell? w _ hw219_6)).trans hw219_6), ((HB.out.cell (World.block_lt_of_cell? w _ hw219_7)).trans hw219_7), ((HB.out.cell (World.block_lt_of_cell? w _ hw219_8)).trans hw219_8), ((HB.out.cell (World.block_lt_of_cell? w _ hw219_9)).trans hw219_9), ((HB.out.cell (World.block_lt_of_cell? w _ hw219_10)).trans hw219_10), ((HB.out.cell (World.block_lt_of_cell? w _ hw219_11)).trans hw219_11)⟩ (fun hHeld => ?_); refine with_tabW order_Asks.tab5 order_Asks.bits5 (fun HT_ HW_ => ?_)
                  generalize wr.drew = w11 at HO_3 HO_7 HB HR218_11 HR219_11 hx218_0 hx218_1 hx218_10 hx218_11 hx218_2 hx218_3 hx218_4 hx218_5 hx218_6 hx218_7 hx218_8 hx218_9 hx219_0 hx219_1 hx219_10 hx219_11 hx219_2 hx219_3 hx219_4 hx219_5 hx219_6 hx219_7 hx219_8 hx219_9 hHeld ⊢
                  refine pure_ (i := 0) (N := some 13) (v := ?_) (a' := ?_) #[true, false, false, false, false, false, false, false, false, false, false, false, false, false, false] rfl rfl (any_of HT_.out (by kernel_rfl)) (fun _ _ _ h => h) (Or.inl ⟨by rfl, ?_⟩) ?_ ?_
                  rotate_left
                  · intro w'
                    go_simp
                    with_reducible rfl
                  rotate_left
                  · simp only [Act.put, List.setIfInBounds_toArray, List.set_cons_zero, List.set_cons_succ, i64_w, i32_w]
                    rfl
                  refine pure_ (i := 1) (N := some 14) (v := ?_) (a' := ?_) #[true, true, false, false, false, false, false, false, false, false, false, false, false, false, false] rfl rfl (any_of HT_.out (by kernel_rfl)) (fun _ _ _ h => h) (Or.inl ⟨by rfl, ?_⟩) ?_ ?_
                  rotate_left
                  · intro w'
                    go_simp
                    with_reducible rfl
                  rotate_left
                  · simp only [Act.put, List.setIfInBounds_toArray, List.set_cons_zero, List.set_cons_succ, i64_w, i32_w]
                    rfl
                  refine pure_ (i := 2) (N := some 15) (v := ?_) (a' := ?_) #[true, true, true, false, false, false, false, false, false, false, false, false, false, false, false] rfl rfl (any_of HT_.out (by kernel_rfl)) (fun _ _ _ h => h) (Or.inl ⟨by rfl, ?_⟩) ?_ ?_
                  rotate_left
                  · intro w'
                    go_simp
                    with_reducible rfl
                  rotate_left
                  · simp only [Act.put, List.setIfInBounds_toArray, List.set_cons_zero, List.set_cons_succ, i64_w, i32_w]
                    rfl
                  refine pure_ (i := 3) (N := some 16) (v := ?_) (a' := ?_) #[true, true, true, true, false, false, false, false, false, false, false, false, false, false, false] rfl rfl (any_of HT_.out (by kernel_rfl)) (fun _ _ _ h => h) (Or.inl ⟨by rfl, ?_⟩) ?_ ?_
                  rotate_left
                  · intro w'
                    go_simp
                    with_reducible rfl
                  rotate_left
                  · simp only [Act.put, List.setIfInBounds_toArray, List.set_cons_zero, List.set_cons_succ, i64_w, i32_w]
                    rfl
                  refine pure_ (i := 4) (N := some 17) (v := ?_) (a' := ?_) #[true, true, true, true, true, false, false, false, false, false, false, false, false, false, false] rfl rfl (any_of HT_.out (by kernel_rfl)) (fun _ _ _ h => h) (Or.inl ⟨by rfl, ?_⟩) ?_ ?_
                  rotate_left
                  · intro w'
                    go_simp
                    with_reducible rfl
                  rotate_left
                  · simp only [Act.put, List.setIfInBounds_toArray, List.set_cons_zero, List.set_cons_succ, i64_w, i32_w]
                    rfl
                  refine pure_ (i := 6) (N := some 19) (v := ?_) (a' := ?_) #[true, true, true, true, true, false, true, false, false, false, false, false, false, false, false] rfl rfl (any_of HT_.out (by kernel_rfl)) (fun _ _ _ h => h) (Or.inl ⟨by rfl, ?_⟩) ?_ ?_
                  rotate_left
                  · intro w'
                    go_simp
                    with_reducible rfl
                  rotate_left
                  · simp only [Act.put, List.setIfInBounds_toArray, List.set_cons_zero, List.set_cons_succ, i64_w, i32_w]
                    rfl
                  refine pure_ (i := 7) (N := some 20) (v := ?_) (a' := ?_) #[true, true, true, true, true, false, true, true, false, false, false, false, false, false, false] rfl rfl (any_of HT_.out (by kernel_rfl)) (fun _ _ _ h => h) (Or.inl ⟨by rfl, ?_⟩) ?_ ?_
                  rotate_left
                  · intro w'
                    go_simp
                    with_reducible rfl
                  rotate_left
                  · simp only [Act.put, List.setIfInBounds_toArray, List.set_cons_zero, List.set_cons_succ, i64_w, i32_w]
                    rfl
                  refine pure_ (i := 8) (N := some 21) (v := ?_) (a' := ?_) #[true, true, true, true, true, false, true, true, true, false, false, false, false, false, false] rfl rfl (any_of HT_.out (by kernel_rfl)) (fun _ _ _ h => h) (Or.inl ⟨by rfl, ?_⟩) ?_ ?_
                  rotate_left
                  · intro w'
                    go_simp
                    with_reducible rfl
                  rotate_left
                  · simp only [Act.put, List.setIfInBounds_toArray, List.set_cons_zero, List.set_cons_succ, i64_w, i32_w]
                    rfl
                  refine pure_ (i := 9) (N := some 22) (v := ?_) (a' := ?_) #[true, true, true, true, true, false, true, true, true, true, false, false, false, false, false] rfl rfl (any_of HT_.out (by kernel_rfl)) (fun _ _ _ h => h) (Or.inl ⟨by rfl, ?_⟩) ?_ ?_
                  rotate_left
                  · intro w'
                    go_simp
                    with_reducible rfl
                  rotate_left
                  · simp only [Act.put, List.setIfInBounds_toArray, List.set_cons_zero, List.set_cons_succ, i64_w, i32_w]
                    rfl
                  refine take_ (i := 5) (N := some 18) (v := ?_) (a' := ?_) #[true, true, true, true, true, true, true, true, true, true, false, false, false, false, false] rfl rfl (take_ofW HT_.out HW_.out (by kernel_rfl)) (fun _ _ _ h => h) (Or.inl ⟨by rfl, ?_⟩) hHeld ?_ ?_
                  rotate_left
                  · rintro w' ⟨s0, s1, s2, s3, s4, s5, s6, s7, s8, s9, s10, s11, s12, s13, s14, s15, s16, s17, s18, s19, s20, s21, s22, s23⟩
                    go_simp
                    with_reducible rfl
                  rotate_left
                  · simp only [Act.put, List.setIfInBounds_toArray, List.set_cons_zero, List.set_cons_succ, i64_w, i32_w]
                    rfl
                  refine take_ (i := 10) (N := some 23) (v := ?_) (a' := ?_) #[true, true, true, true, true, true, true, true, true, true, true, false, false, false, false] rfl rfl (take_ofW HT_.out HW_.out (by kernel_rfl)) (fun _ _ _ h => h) (Or.inl ⟨by rfl, ?_⟩) hHeld ?_ ?_
                  rotate_left
                  · rintro w' ⟨s0, s1, s2, s3, s4, s5, s6, s7, s8, s9, s10, s11, s12, s13, s14, s15, s16, s17, s18, s19, s20, s21, s22, s23⟩
                    go_simp
                    with_reducible rfl
                  rotate_left
                  · simp only [Act.put, List.setIfInBounds_toArray, List.set_cons_zero, List.set_cons_succ, i64_w, i32_w]
                    rfl
                  refine pure_ (i := 11) (N := some 24) (v := ?_) (a' := ?_) #[true, true, true, true, true, true, true, true, true, true, true, true, false, false, false] rfl rfl (any_of HT_.out (by kernel_rfl)) (fun _ _ _ h => h) (Or.inl ⟨by rfl, ?_⟩) ?_ ?_
                  rotate_left
                  · intro w'
                    go_simp
                    with_reducible rfl
                  rotate_left
                  · simp only [Act.put, List.setIfInBounds_toArray, List.set_cons_zero, List.set_cons_succ, i64_w, i32_w]
                    rfl
                  refine one_ (i := 12) (N := some 25) #[true, true, true, true, true, true, true, true, true, true, true, true, true, false, false] rfl rfl (one_of HT_.out (by kernel_rfl)) (by decide) (fun K hK => ?_)
                  refine value_ (w1 := ?_) (v := ?_) (by rfl) rfl ?_ ?_
                  rotate_left 2
                  · go_simp
                    constructor
                    · rfl
                    · rfl
                  refine hK.out _ _ ⟨(World.cell?_alloc_lt _ _ _ (World.block_lt_of_cell? _ _ (((HB.out.cell (World.block_lt_of_cell? w _ hw218_0)).trans hw218_0)))).trans (((HB.out.cell (World.block_lt_of_cell? w _ hw218_0)).trans hw218_0)), (World.cell?_alloc_lt _ _ _ (World.block_lt_of_cell? _ _ (((HB.out.cell (World.block_lt_of_cell? w _ hw218_1)).trans hw218_1)))).trans (((HB.out.cell (World.block_lt_of_cell? w _ hw218_1)).trans hw218_1)), (World.cell?_alloc_lt _ _ _ (World.block_lt_of_cell? _ _ (((HB.out.cell (World.block_lt_of_cell? w _ hw218_2)).trans hw218_2)))).trans (((HB.out.cell (World.block_lt_of_cell? w _ hw218_2)).trans hw218_2)), (World.cell?_alloc_lt _ _ _ (World.block_lt_of_cell? _ _ (((HB.out.cell (World.block_lt_of_cell? w _ hw218_3)).trans hw218_3)))).trans (((HB.out.cell (World.block_lt_of_cell? w _ hw218_3)).trans hw218_3)), (World.cell?_alloc_lt _ _ _ (World.block_lt_of_cell? _ _ (((HB.out.cell (World.block_lt_of_cell? w _ hw218_4)).trans hw218_4)))).trans (((HB.out.cell (World.block_lt_of_cell? w _ hw218_4)).trans hw218_4)), (World.cell?_alloc_lt _ _ _ (World.block_lt_of_cell? _ _ (((HB.out.cell (World.block_lt_of_cell? w _ hw218_5)).trans hw218_5)))).trans (((HB.out.cell (World.block_lt_of_cell? w _ hw218_5)).trans hw218_5)), (World.cell?_alloc_lt _ _ _ (World.block_lt_of_cell? _ _ (((HB.out.cell (World.block_lt_of_cell? w _ hw218_6)).trans hw218_6)))).trans (((HB.out.cell (World.block_lt_of_cell? w _ hw218_6)).trans hw218_6)), (World.cell?_alloc_lt _ _ _ (World.block_lt_of_cell? _ _ (((HB.out.cell (World.block_lt_of_cell? w _ hw218_7)).trans hw218_7)))).trans (((HB.out.cell (World.block_lt_of_cell? w _ hw218_7)).trans hw218_7)), (World.cell?_alloc_lt _ _ _ (World.block_lt_of_cell? _ _ (((HB.out.cell (World.block_lt_of_cell? w _ hw218_8)).trans hw218_8)))).trans (((HB.out.cell (World.block_lt_of_cell? w _ hw218_8)).trans hw218_8)), (World.cell?_alloc_lt _ _ _ (World.block_lt_of_cell? _ _ (((HB.out.cell (World.block_lt_of_cell? w _ hw218_9)).trans hw218_9)))).trans (((HB.out.cell (World.block_lt_of_cell? w _ hw218_9)).trans hw218_9)), (World.cell?_alloc_lt _ _ _ (World.block_lt_of_cell? _ _ (((HB.out.cell (World.block_lt_of_cell? w _ hw218_10)).trans hw218_10)))).trans (((HB.out.cell (World.block_lt_of_cell? w _ hw218_10)).trans hw218_10)), (World.cell?_alloc_lt _ _ _ (World.block_lt_of_cell? _ _ (((HB.out.cell (World.block_lt_of_cell? w _ hw218_11)).trans hw218_11)))).trans (((HB.out.cell (World.block_lt_of_cell? w _ hw218_11)).trans hw218_11)), (World.cell?_alloc_lt _ _ _ (World.block_lt_of_cell? _ _ (((HB.out.cell (World.block_lt_of_cell? w _ hw219_0)).trans hw219_0)))).trans (((HB.out.cell (World.block_lt_of_cell? w _ hw219_0)).trans hw219_0)), (World.cell?_alloc_lt _ _ _ (World.block_lt_of_cell? _ _ (((HB.out.cell (World.block_lt_of_cell? w _ hw219_1)).trans hw219_1)))).trans (((HB.out.cell (World.block_lt_of_cell? w _ hw219_1)).trans hw219_1)), (World.cell?_alloc_lt _ _ _ (World.block_lt_of_cell? _ _ (((HB.out.cell (World.block_lt_of_cell? w _ hw219_2)).trans hw219_2)))).trans (((HB.out.cell (World.block_lt_of_cell? w _ hw219_2)).trans hw219_2)), (World.cell?_alloc_lt _ _ _ (World.block_lt_of_cell? _ _ (((HB.out.cell (World.block_lt_of_cell? w _ hw219_3)).trans hw219_3)))).trans (((HB.out.cell (World.block_lt_of_cell? w _ hw219_3)).trans hw219_3)), (World.cell?_alloc_lt _ _ _ (World.block_lt_of_cell? _ _ (((HB.out.cell (World.block_lt_of_cell? w _ hw219_4)).trans hw219_4)))).trans (((HB.out.cell (World.block_lt_of_cell? w _ hw219_4)).trans hw219_4)), (World.cell?_alloc_lt _ _ _ (World.block_lt_of_cell? _ _ (((HB.out.cell (World.block_lt_of_cell? w _ hw219_5)).trans hw219_5)))).trans (((HB.out.cell (World.block_lt_of_cell? w _ hw219_5)).trans hw219_5)), (World.cell?_alloc_lt _ _ _ (World.block_lt_of_cell? _ _ (((HB.out.cell (World.block_lt_of_cell? w _ hw219_6)).trans hw219_6)))).trans (((HB.out.cell (World.block_lt_of_cell? w _ hw219_6)).trans hw219_6)), (World.cell?_alloc_lt _ _ _ (World.block_lt_of_cell? _ _ (((HB.out.cell (World.block_lt_of_cell? w _ hw219_7)).trans hw219_7)))).trans (((HB.out.cell (World.block_lt_of_cell? w _ hw219_7)).trans hw219_7)), (World.cell?_alloc_lt _ _ _ (World.block_lt_of_cell? _ _ (((HB.out.cell (World.block_lt_of_cell? w _ hw219_8)).trans hw219_8)))).trans (((HB.out.cell (World.block_lt_of_cell? w _ hw219_8)).trans hw219_8)), (World.cell?_alloc_lt _ _ _ (World.block_lt_of_cell? _ _ (((HB.out.cell (World.block_lt_of_cell? w _ hw219_9)).trans hw219_9)))).trans (((HB.out.cell (World.block_lt_of_cell? w _ hw219_9)).trans hw219_9)), (World.cell?_alloc_lt _ _ _ (World.block_lt_of_cell? _ _ (((HB.out.cell (World.block_lt_of_cell? w _ hw219_10)).trans hw219_10)))).trans (((HB.out.cell (World.block_lt_of_cell? w _ hw219_10)).trans hw219_10)), (World.cell?_alloc_lt _ _ _ (World.block_lt_of_cell? _ _ (((HB.out.cell (World.block_lt_of_cell? w _ hw219_11)).trans hw219_11)))).trans (((HB.out.cell (World.block_lt_of_cell? w _ hw219_11)).trans hw219_11))⟩ (fun hHeld => ?_)
                  clear hK K
                  refine norm_ (a' := ?_) ?_ ?_
                  rotate_left
                  · show Act.put _ (some 25) _ = _
                    simp only [Act.put, List.setIfInBounds_toArray, List.set_cons_zero, List.set_cons_succ, i64_w, i32_w]
                    rfl
                  refine one_ (i := 13) (N := some 26) #[true, true, true, true, true, true, true, true, true, true, true, true, true, true, false] rfl rfl (one_of HT_.out (by kernel_rfl)) (by decide) (fun K hK => ?_)
                  refine Kd.R_append_step k29 (w0 := w) w.heap.size (by rfl) (.tmp 13) (.tmp 25) 26 29 (.agg #[(.int .i64 0), (.int .i64 0)]) 16 rfl Try.underlying26 info29 rfl (by decide) (by omega) u3 x3_1 (⟨(rd_T32 l0 (rd t214 x9_1)).f2, (rd_T32 l0 (rd t214 x9_1)).f3⟩ : S29) [.int .i64 ((rd_T32 l0 (rd t214 x9_1)).f2), .int .i64 ((rd_T32 l0 (rd t214 x9_1)).f3)] (fun k_ => (w.heap.size ≤ k_)) (fun _ => False) rfl rfl ?aP (fun _ hk => hk.elim) ?aF ?aO ?aB ?aS ?aL ?_
                  (case aP => exact k29_mkM _ _ _ (⟨(rd_T32 l0 (rd t214 x9_1)).f2, (rd_T32 l0 (rd t214 x9_1)).f3⟩ : S29))
                  (case aB => exact (by repeat (first | (with_reducible first | exact HB.out | apply below_alloc | apply pw_below_drewN | apply below_drew1) | exact HB.out)))
                  (case aF => exact (fun k_ hk => (Nat.le_trans (below_size (by repeat (first | (with_reducible first | exact HB.out | apply below_alloc | apply pw_below_drewN | apply below_drew1) | exact HB.out))) hk)))
                  (case aO => exact (by (with_reducible repeat (first | apply Kd.R_alloc | apply Kd.R_drewN | apply Kd.R_drew)); exact HO_3.out))
                  (case aS => exact (below_size (by repeat (first | (with_reducible first | exact HB.out | apply below_alloc | apply pw_below_drewN | apply below_drew1) | exact HB.out))))
                  (case aL => have := LMc10.out; omega)
                  intro v221 w12 ho hb hg hat
                  rw [← Ny220.out] at ho
                  have n0_ := Aside0.mk (Kd.V_afterv (ok := (fun k_ => (w.heap.size ≤ k_))) (by (with_reducible repeat (first | apply Kd.V_alloc | apply Kd.V_drewN | apply Kd.V_drew)); exact HO_7.out) hg hat)
                  have n1_ := Aside0.mk (hb)
                  have n2_ := Aside0.mk (ho)
                  clear HO_7
                  clear HB
                  clear HO_3
                  have HO_7 := n0_
                  have HB := n1_
                  have HO222 := n2_
                  clear n0_ n1_ n2_
                  clear ho hb hg hat
                  refine hK.out _ _ ⟨((HB.out.cell (World.block_lt_of_cell? w _ hw218_0)).trans hw218_0), ((HB.out.cell (World.block_lt_of_cell? w _ hw218_1)).trans hw218_1), ((HB.out.cell (World.block_lt_of_cell? w _ hw218_2)).trans hw218_2), ((HB.out.cell (World.block_lt_of_cell? w _ hw218_3)).trans hw218_3), ((HB.out.cell (World.block_lt_of_cell? w _ hw218_4)).trans hw218_4), ((HB.out.cell (World.block_lt_of_cell? w _ hw218_5)).trans hw218_5), ((HB.out.cell (World.block_lt_of_cell? w _ hw218_6)).trans hw218_6), ((HB.out.cell (World.block_lt_of_cell? w _ hw218_7)).trans hw218_7), ((HB.out.cell (World.block_lt_of_cell? w _ hw218_8)).trans hw218_8), ((HB.out.cell (World.block_lt_of_cell? w _ hw218_9)).trans hw218_9), ((HB.out.cell (World.block_lt_of_cell? w _ hw218_10)).trans hw218_10), ((HB.out.cell (World.block_lt_of_cell? w _ hw218_11)).trans hw218_11), ((HB.out.cell (World.block_lt_of_cell? w _ hw219_0)).trans hw219_0), ((HB.out.cell (World.block_lt_of_cell? w _ hw219_1)).trans hw219_1), ((HB.out.cell (World.block_lt_of_cell? w _ hw219_2)).trans hw219_2), ((HB.out.cell (World.block_lt_of_cell? w _ hw219_3)).trans hw219_3), ((HB.out.cell (World.block_lt_of_cell? w _ hw219_4)).trans hw219_4), ((HB.out.cell (World.block_lt_of_cell? w _ hw219_5)).trans hw219_5), ((HB.out.cell (World.block_lt_of_cell? w _ hw219_6)).trans hw219_6), ((HB.out.cell (World.block_lt_of_cell? w _ hw219_7)).trans hw219_7), ((HB.out.cell (World.block_lt_of_cell? w _ hw219_8)).trans hw219_8), ((HB.out.cell (World.block_lt_of_cell? w _ hw219_9)).trans hw219_9), ((HB.out.cell (World.block_lt_of_cell? w _ hw219_10)).trans hw219_10), ((HB.out.cell (World.block_lt_of_cell? w _ hw219_11)).trans hw219_11)⟩ (fun hHeld => ?_)
                  clear hK K
                  refine norm_ (a' := ?_) ?_ ?_
                  rotate_left
                  · show Act.put _ (some 26) _ = _
                    simp only [Act.put, List.setIfInBounds_toArray, List.set_cons_zero, List.set_cons_succ, i64_w, i32_w]
                    rfl
                  refine pure_ (i := 14) (N := some 3) (v := ?_) (a' := ?_) #[true, true, true, true, true, true, true, true, true, true, true, true, true, true, true] rfl rfl (any_of HT_.out (by kernel_rfl)) (fun _ _ _ h => h) (Or.inl ⟨by rfl, ?_⟩) ?_ ?_
                  rotate_left
                  · intro w'
                    go_simp
                    with_reducible rfl
                  rotate_left
                  · simp only [Act.put, List.setIfInBounds_toArray, List.set_cons_zero, List.set_cons_succ, i64_w, i32_w]
                    rfl
                  refine done_ (done_of HT_.out (by kernel_rfl)) ?_
                  try go_wp2
                  go_roundg k1
                  case measure => have := HK1.out; omega
                  case rel => exact ⟨(y220), (wrap64 (x9_1 + 1)), (by first | rfl | (simp; done) | (simp [*]; done)), H', ⟨by have := HK1.out; omega⟩, ⟨by (with_reducible repeat (first | apply Kd.R_alloc | apply Kd.R_drewN | apply Kd.R_drew)); exact HO222.out⟩, ⟨by (with_reducible repeat (first | apply Kd.V_alloc | apply Kd.V_drewN | apply Kd.V_drew)); exact HO_7.out⟩, ⟨by repeat (first | (with_reducible first | exact HB.out | apply below_alloc | apply pw_below_drewN | apply below_drew1) | exact HB.out)⟩⟩
                · rw [if_neg c10] at H
                  exact absurd H (by simp)
              · rw [if_neg c9] at H
                exact absurd H (by simp)
            · rw [if_neg c8] at H
              exact absurd H (by simp)
          · exact absurd (of_decide_eq_true c5b0) c7
        · rw [if_neg c6] at H
          exact absurd H (by simp)
      · rw [if_neg c5] at H
        have c5b0 : decide (x9_1 < (t214.length : Int)) = false := decide_eq_false c5
        clear c5
        replace H := Option.bind_eq_some_iff.mp H
        obtain ⟨t223, A130, H⟩ := H
        replace H : (some t223) = some r := H
        have A13 := Aside0.mk A130
        clear A130
        obtain rfl := Option.some.inj H
        obtain ⟨Ao14, co14, eo14⟩ := Kd.R_slice HO_3.out
        subst eo14
        go_wp2_with (first | ((with_reducible refine gate_callee (f := 32) rfl ?_); refine goesL_ (some 29) rfl rfl Try.func32 (by kernel_rfl) rfl #[.slice Ao14 x3_1.length co14] rfl (by (try simp only [List.map_toArray, List.map_cons, List.map_nil]); first | done | rfl | (simp only [List.length_drop, List.length_take]; rfl)) ?_; (with_reducible refine (slices_Clip_Ask.calls (fun k_ => some k_ = (.slice Ao14 x3_1.length co14 : Value).ownBlock) _ _ x3_1 t223 _ ?side1 A13.out).mono ?_); (case side1 => exact Kd.R_V (Kd.R_tight rfl (HO_3.out))); rintro e w15 ⟨v224, rfl, ho0, hb⟩; refine ⟨_, rfl, ?_⟩; have n0_ := Aside0.mk (Kd.R_below (by (with_reducible repeat (first | apply Kd.R_alloc | apply Kd.R_drewN | apply Kd.R_drew)); exact HO_3.out) hb); have n1_ := Aside0.mk (Kd.V_below (by (with_reducible repeat (first | apply Kd.V_alloc | apply Kd.V_drewN | apply Kd.V_drew)); exact HO_7.out) hb); have n2_ := Aside0.mk (Kd.V_lower (Kd.V_mono (ok' := fun k_ => (w.heap.size ≤ k_)) ho0 (fun k_ hk_ => Or.elim hk_ (fun hs_ => ((HO_3.out).1 k_ hs_.symm)) (fun hn_ => (Nat.le_trans (below_size (by repeat (first | (with_reducible first | exact HB.out | apply below_alloc | apply pw_below_drewN | apply below_drew1) | exact HB.out))) hn_)))) (below_size (by repeat (first | (with_reducible first | exact HB.out | apply below_alloc | apply pw_below_drewN | apply below_drew1) | exact HB.out)))); have n3_ := Aside0.mk (below_step (by repeat (first | (with_reducible first | exact HB.out | apply below_alloc | apply pw_below_drewN | apply below_drew1) | exact HB.out)) hb); clear HO_3; clear HO_7; clear HB; have HO_3 := n0_; have HO_7 := n1_; have HO225 := n2_; have HB := n3_; clear n0_ n1_ n2_ n3_; (try clear hb); (try clear hb2); (try clear hk); (try clear hi); (try clear ho0)))
        go_ret
        exact ⟨_, by first | rfl | (simp [errW_none, errW_some] <;> rfl) | (simp [*, errW_none, errW_some] <;> rfl), by (with_reducible repeat (first | apply Kd.V_alloc | apply Kd.V_drewN | apply Kd.V_drew)); exact HO225.out, by repeat (first | (with_reducible first | exact HB.out | apply below_alloc | apply pw_below_drewN | apply below_drew1) | exact HB.out)⟩

end Go.Proofs.Ytkhfgflcanmefaa.PAll
end
section
namespace Go.Proofs.Ytkhfgflcanmefaa.PAll
open Go.RowKit Go.Proofs.YtkhfgflcanmefaaW.PrintWords Go.Proofs.YtkhfgflcanmefaaW.PrintLast Go.Proofs.YtkhfgflcanmefaaW.PrintMore
attribute [local go_sem] max2_int min2_int max_two min_two max_three min_three max_four min_four   -- for this text's walks alone
set_option linter.unusedVariables false
set_option linter.unusedSimpArgs false

def prebendref01_Ints.l0 : Nat → List Int → List Int → Int → Option (Bool)
  | 0, _, _, _ => none
  | k + 1, x0, x1, x5 => if x5 < (x0.length : Int) then (if 0 ≤ x5 then (if x5 < (x1.length : Int) then (if (rd x0 x5) = (rd x1 x5) then (prebendref01_Ints.l0 k x0 x1 (wrap64 (x5 + 1))) else (some false)) else (none)) else (none)) else (some true)
def prebendref01_Ints.f (k : Nat) (l0 : List Int) (l1 : List Int) : Option (Bool) := if (l0.length : Int) = (l1.length : Int) then (prebendref01_Ints.l0 k l0 l1 0) else (some false)
theorem prebendref01_Ints.mono_l : ∀ k, (∀ y0 y1 y2, LeO (prebendref01_Ints.l0 k y0 y1 y2) (prebendref01_Ints.l0 (k + 1) y0 y1 y2))
  | 0 => fun _ _ _ r h => by simp [prebendref01_Ints.l0] at h
  | k + 1 => by
    have ih0 := prebendref01_Ints.mono_l k
    · intro y0 y1 y2
      unfold prebendref01_Ints.l0
      repeat' first
      | (with_reducible exact ih0 _ _ _)
      | (with_reducible exact LeO.refl _)
      | (with_reducible exact LeO.none _)
      | (with_reducible refine LeO.ite ?_ ?_)
      | (with_reducible refine LeO.bind ?_ (fun _ => ?_))
      | exact ih0 _ _ _
      | exact LeO.none _
      | refine LeO.ite ?_ ?_
      | refine LeO.bind ?_ (fun _ => ?_)
theorem prebendref01_Ints.mono : ∀ a0 a1 k, LeO (prebendref01_Ints.f k a0 a1) (prebendref01_Ints.f (k + 1) a0 a1) := by
  intro a0 a1 k
  have ih0 := prebendref01_Ints.mono_l k
  unfold prebendref01_Ints.f
  repeat' first
      | (with_reducible exact ih0 _ _ _)
      | (with_reducible exact LeO.refl _)
      | (with_reducible exact LeO.none _)
      | (with_reducible refine LeO.ite ?_ ?_)
      | (with_reducible refine LeO.bind ?_ (fun _ => ?_))
      | exact ih0 _ _ _
      | exact LeO.none _
      | refine LeO.ite ?_ ?_
      | refine LeO.bind ?_ (fun _ => ?_)
set_option maxHeartbeats 8000000 in
set_option maxRecDepth 100000 in
theorem prebendref01_Ints.calls (k : Nat) (A0 : Option Addr) (c0 : Nat) (l0 : List Int) (A1 : Option Addr) (c1 : Nat) (l1 : List Int) (r : Bool) (w : World) (hr0 : Kd.C (Kd.int .i64) w A0 l0.length l0) (hc0 : l0.length ≤ c0) (hr1 : Kd.C (Kd.int .i64) w A1 l1.length l1) (hc1 : l1.length ≤ c1) (h : prebendref01_Ints.f k l0 l1 = some r) :
    Calls Try.prog 13 #[.slice A0 l0.length c0, .slice A1 l1.length c1] w fun e w' => e = .returned (.bool r) ∧ Drawn0 w w' := by
  have HR0 := Aside0.mk hr0
  have HC0 := Aside0.mk hc0
  clear hr0 hc0
  have HR1 := Aside0.mk hr1
  have HC1 := Aside0.mk hc1
  clear hr1 hc1
  have H : (if (l0.length : Int) = (l1.length : Int) then (prebendref01_Ints.l0 k l0 l1 0) else (some false)) = some r := h
  clear h
  by_cases c3 : (l0.length : Int) = (l1.length : Int)
  · rw [if_pos c3] at H
    have c3b0 : ((l0.length : Int) == (l1.length : Int)) = true := beq_iff_eq.mpr c3
    have c3b1 : ((l0.length : Int) != (l1.length : Int)) = false := bne_eq_false_iff_eq.mpr c3
    have c3b2 : (l0.length == l1.length) = true := by first | simpa using c3 | (simp at c3 ⊢; omega)
    clear c3
    have H' := Aside0.mk H
    clear H
    go_enter Try.func13, Try.ntmps13
    go_wp2
    repeat (go_quiet (fail); try go_wp2)
    go_loopg [5] k (fun kq v5 w' => ∃ (x5_1 : Int), v5 = .int .i64 x5_1 ∧ Aside0 (prebendref01_Ints.l0 kq l0 l1 x5_1 = some r) ∧ Aside0 (kq ≤ k) ∧ Drawn0 w w')
    case atStart => exact ⟨(0), (by first | rfl | (simp; done) | (simp [*]; done)), H', ⟨Nat.le_refl _⟩, by repeat (first | exact Drawn0.refl _ | apply Drawn0.step)⟩
    case round =>
      clear H'
      try clear c1
      try clear p2
      try clear c3
      try clear c3b0
      try clear c3b1
      try clear c3b2
      obtain ⟨x5_1, rfl, HA, HK1, ⟨m1, rfl⟩⟩ := hrel
      cases gk with
      | zero => exact absurd HA.out (by simp [prebendref01_Ints.l0])
      | succ k1 =>
        have H := HA.out
        clear HA
        simp only [prebendref01_Ints.l0] at H
        by_cases c4 : x5_1 < (l0.length : Int)
        · rw [if_pos c4] at H
          have c4b0 : decide (x5_1 < (l0.length : Int)) = true := decide_eq_true c4
          clear c4
          by_cases c5 : 0 ≤ x5_1
          · rw [if_pos c5] at H
            have c5b0 : decide (0 ≤ x5_1) = true := decide_eq_true c5
            clear c5
            by_cases c6 : x5_1 < (l1.length : Int)
            · rw [if_pos c6] at H
              have c6b0 : decide (x5_1 < (l1.length : Int)) = true := decide_eq_true c6
              clear c6
              by_cases c7 : (rd l0 x5_1) = (rd l1 x5_1)
              · rw [if_pos c7] at H
                have c7b0 : ((rd l0 x5_1) == (rd l1 x5_1)) = true := beq_iff_eq.mpr c7
                have c7b1 : ((rd l0 x5_1) != (rd l1 x5_1)) = false := bne_eq_false_iff_eq.mpr c7
                clear c7
                have H' := Aside0.mk H
                clear H
                have p226 : 0 ≤ (x5_1 : Int) := of_decide_eq_true (by first | (with_reducible assumption) | assumption)
                have q226 : x5_1 < (l0.length : Int) := of_decide_eq_true (by first | (with_reducible assumption) | assumption)
                obtain ⟨ad226, e226, hx226_0⟩ := Kd.at_int HR0.out x5_1 p226 q226
                cases e226
                replace p226 := eq_true p226
                replace q226 := eq_true q226
                have p227 : 0 ≤ (x5_1 : Int) := of_decide_eq_true (by first | (with_reducible assumption) | assumption)
                have q227 : x5_1 < (l1.length : Int) := of_decide_eq_true (by first | (with_reducible assumption) | assumption)
                obtain ⟨ad227, e227, hx227_0⟩ := Kd.at_int HR1.out x5_1 p227 q227
                cases e227
                replace p227 := eq_true p227
                replace q227 := eq_true q227
                go_wp2
                repeat (go_quiet (fail); try go_wp2)
                go_roundg k1
                case measure => have := HK1.out; omega
                case rel => exact ⟨(wrap64 (x5_1 + 1)), (by first | rfl | (simp; done) | (simp [*]; done)), H', ⟨by have := HK1.out; omega⟩, by repeat (first | exact Drawn0.refl _ | apply Drawn0.step)⟩
              · rw [if_neg c7] at H
                have c7b0 : ((rd l0 x5_1) == (rd l1 x5_1)) = false := beq_eq_false_iff_ne.mpr c7
                have c7b1 : ((rd l0 x5_1) != (rd l1 x5_1)) = true := bne_iff_ne.mpr c7
                obtain rfl := Option.some.inj H
                have p226 : 0 ≤ (x5_1 : Int) := of_decide_eq_true (by first | (with_reducible assumption) | assumption)
                have q226 : x5_1 < (l0.length : Int) := of_decide_eq_true (by first | (with_reducible assumption) | assumption)
                obtain ⟨ad226, e226, hx226_0⟩ := Kd.at_int HR0.out x5_1 p226 q226
                cases e226
                replace p226 := eq_true p226
                replace q226 := eq_true q226
                have p227 : 0 ≤ (x5_1 : Int) := of_decide_eq_true (by first | (with_reducible assumption) | assumption)
                have q227 : x5_1 < (l1.length : Int) := of_decide_eq_true (by first | (with_reducible assumption) | assumption)
                obtain ⟨ad227, e227, hx227_0⟩ := Kd.at_int HR1.out x5_1 p227 q227
                cases e227
                replace p227 := eq_true p227
                replace q227 := eq_true q227
                go_wp2
                repeat (go_quiet (fail); try go_wp2)
                go_ret
                exact ⟨by first | rfl | (simp; done) | (simp [*]; done), by repeat (first | exact Drawn0.refl _ | apply Drawn0.step)⟩
            · rw [if_neg c6] at H
              exact absurd H (by simp)
          · rw [if_neg c5] at H
            exact absurd H (by simp)
        · rw [if_neg c4] at H
          have c4b0 : decide (x5_1 < (l0.length : Int)) = false := decide_eq_false c4
          clear c4
          obtain rfl := Option.some.inj H
          go_wp2
          repeat (go_quiet (fail); try go_wp2)
          go_ret
          exact ⟨by first | rfl | (simp; done) | (simp [*]; done), by repeat (first | exact Drawn0.refl _ | apply Drawn0.step)⟩
  · rw [if_neg c3] at H
    have c3b0 : ((l0.length : Int) == (l1.length : Int)) = false := beq_eq_false_iff_ne.mpr c3
    have c3b1 : ((l0.length : Int) != (l1.length : Int)) = true := bne_iff_ne.mpr c3
    have c3b2 : (l0.length == l1.length) = false := by first | simpa using c3 | (simp at c3 ⊢; omega)
    obtain rfl := Option.some.inj H
    go_enter Try.func13, Try.ntmps13
    go_wp2
    repeat (go_quiet (fail); try go_wp2)
    go_ret
    exact ⟨by first | rfl | (simp; done) | (simp [*]; done), by repeat (first | exact Drawn0.refl _ | apply Drawn0.step)⟩

end Go.Proofs.Ytkhfgflcanmefaa.PAll
end
section
namespace Go.Proofs.Ytkhfgflcanmefaa.PAll
open Go.RowKit Go.Proofs.YtkhfgflcanmefaaW.PrintWords Go.Proofs.YtkhfgflcanmefaaW.PrintLast Go.Proofs.YtkhfgflcanmefaaW.PrintMore
set_option linter.unusedVariables false
theorem k80_heap : Kd.Heap k80 := Kd.heap_iso _ (Kd.heap_pair (Kd.heap_int .i64) (Kd.heap_int .i64))
theorem k32_heap : Kd.Heap k32 := Kd.heap_iso _ (Kd.heap_pair (Kd.heap_int .i64) (Kd.heap_pair (Kd.heap_int .i64) (Kd.heap_pair (Kd.heap_int .i64) (Kd.heap_pair (Kd.heap_int .i64) (Kd.heap_pair (Kd.heap_int .i64) (Kd.heap_pair (Kd.heap_int .i64) (Kd.heap_pair (Kd.heap_int .i64) (Kd.heap_pair (Kd.heap_int .i64) (Kd.heap_pair (Kd.heap_int .i64) (Kd.heap_pair (Kd.heap_int .i64) (Kd.heap_pair (Kd.heap_int .i64) (Kd.heap_slice 80 k80_heap))))))))))))
def g80 (x : S80) : Prop := ((Lit.int .i64 x.f0).wf = true) ∧ ((Lit.int .i64 x.f1).wf = true)
def g32 (x : S32) : Prop := ((Lit.int .i64 x.f0).wf = true) ∧ ((Lit.int .i64 x.f1).wf = true) ∧ ((Lit.int .i64 x.f2).wf = true) ∧ ((Lit.int .i64 x.f3).wf = true) ∧ ((Lit.int .i64 x.f4).wf = true) ∧ ((Lit.int .i64 x.f5).wf = true) ∧ ((Lit.int .i64 x.f6).wf = true) ∧ ((Lit.int .i64 x.f7).wf = true) ∧ ((Lit.int .i64 x.f8).wf = true) ∧ ((Lit.int .i64 x.f9).wf = true) ∧ ((Lit.int .i64 x.f10).wf = true) ∧ ((x.f11.length ≤ maxLen ∧ ∀ y ∈ x.f11, g80 y))
end Go.Proofs.Ytkhfgflcanmefaa.PAll
end
section
namespace Go.Proofs.Ytkhfgflcanmefaa.PAll
open Go.RowKit Go.Proofs.YtkhfgflcanmefaaW.PrintWords Go.Proofs.YtkhfgflcanmefaaW.PrintLast Go.Proofs.YtkhfgflcanmefaaW.PrintMore
attribute [local go_sem] max2_int min2_int max_two min_two max_three min_three max_four min_four   -- for this text's walks alone
set_option linter.unusedVariables false
set_option linter.unusedSimpArgs false

theorem eqA29 (d : Nat) (w : World) (x0 y0 : Int) (x1 y1 : Int) :
    (Op.equalIn (d + 2) 29 (.agg #[.int .i64 x0, .int .i64 x1]) (.agg #[.int .i64 y0, .int .i64 y1])).run Try.prog w = .ok (x0 == y0 && (x1 == y1)) w := by
  refine eqA_of Try.underlying29 (by kernel_rfl) ?_
  refine eqf_cons (by rfl) (by go_simp; rfl) (by go_simp; rfl) (by go_simp) ?_
  exact eqf_last (by rfl) (by go_simp; rfl) (by go_simp; rfl) (by go_simp)
end Go.Proofs.Ytkhfgflcanmefaa.PAll
end
section
namespace Go.Proofs.Ytkhfgflcanmefaa.PAll
open Go.RowKit Go.Proofs.YtkhfgflcanmefaaW.PrintWords Go.Proofs.YtkhfgflcanmefaaW.PrintLast Go.Proofs.YtkhfgflcanmefaaW.PrintMore
attribute [local go_sem] max2_int min2_int max_two min_two max_three min_three max_four min_four   -- for this text's walks alone
set_option linter.unusedVariables false
set_option linter.unusedSimpArgs false

attribute [local go_sem high] eqA29
def prebendlaw15_awake.f (k : Nat)  : Option (Bool) := (some (([(⟨1, 0, 7, 0, 0, 1, 0, 1, 0, 0, 0, ([] : List (S80))⟩ : S32), (⟨2, 0, 0, 9, 0, 5, 0, 1, 0, 0, 0, ([] : List (S80))⟩ : S32), (⟨3, 0, 0, 0, 0, 1, 0, 1, 0, 0, 0, ([] : List (S80))⟩ : S32), (⟨4, 0, 0, 0, 0, 9, 0, 2, 0, 0, 0, ([] : List (S80))⟩ : S32)] : List (S32)) : List (S32))).bind fun y228 => ((order_Asks.f k y228).bind fun t231 => ((order_Order.f k y228).bind fun t234 => ((prebendref01_Ints.f k t234 (([1, 0, 2] : List Int))).bind fun t240 => (if t240 = true then (if (t231.length : Int) = 3 then (if 0 < (t231.length : Int) then (if (((rd_T29 t231 0).f0) == 0 && (((rd_T29 t231 0).f1) == 9)) = true then (if 1 < (t231.length : Int) then (some (((rd_T29 t231 1).f0) == 7 && (((rd_T29 t231 1).f1) == 0))) else (none)) else (some false)) else (none)) else (some false)) else (some false)))))
theorem prebendlaw15_awake.mono : ∀ k, LeO (prebendlaw15_awake.f k ) (prebendlaw15_awake.f (k + 1) ) := by
  intro  k
  unfold prebendlaw15_awake.f
  repeat' first
      | (with_reducible exact order_Asks.mono _ _)
      | (with_reducible exact order_Order.mono _ _)
      | (with_reducible exact prebendref01_Ints.mono _ _ _)
      | (with_reducible exact LeO.refl _)
      | (with_reducible exact LeO.none _)
      | (with_reducible refine LeO.ite ?_ ?_)
      | (with_reducible refine LeO.bind ?_ (fun _ => ?_))
      | exact order_Asks.mono _ _
      | exact order_Order.mono _ _
      | exact prebendref01_Ints.mono _ _ _
      | exact LeO.none _
      | refine LeO.ite ?_ ?_
      | refine LeO.bind ?_ (fun _ => ?_)
set_option maxHeartbeats 8000000 in
set_option maxRecDepth 100000 in
theorem prebendlaw15_awake.calls (k : Nat)  (r : Bool) (w : World) (h : prebendlaw15_awake.f k  = some r) :
    Calls Try.prog 12 #[] w fun e w' => e = .returned (.bool r) ∧ Below w.heap.size w w' := by
  have hu32 := Try.underlying32
  have hu29 := Try.underlying29
  have HB := Aside0.mk (Below.refl w.heap.size w)
  have H : ((some (([(⟨1, 0, 7, 0, 0, 1, 0, 1, 0, 0, 0, ([] : List (S80))⟩ : S32), (⟨2, 0, 0, 9, 0, 5, 0, 1, 0, 0, 0, ([] : List (S80))⟩ : S32), (⟨3, 0, 0, 0, 0, 1, 0, 1, 0, 0, 0, ([] : List (S80))⟩ : S32), (⟨4, 0, 0, 0, 0, 9, 0, 2, 0, 0, 0, ([] : List (S80))⟩ : S32)] : List (S32)) : List (S32))).bind fun y228 => ((order_Asks.f k y228).bind fun t231 => ((order_Order.f k y228).bind fun t234 => ((prebendref01_Ints.f k t234 (([1, 0, 2] : List Int))).bind fun t240 => (if t240 = true then (if (t231.length : Int) = 3 then (if 0 < (t231.length : Int) then (if (((rd_T29 t231 0).f0) == 0 && (((rd_T29 t231 0).f1) == 9)) = true then (if 1 < (t231.length : Int) then (some (((rd_T29 t231 1).f0) == 7 && (((rd_T29 t231 1).f1) == 0))) else (none)) else (some false)) else (none)) else (some false)) else (some false)))))) = some r := h
  clear h
  obtain ⟨y228, hy228⟩ : ∃ y_ : List (S32), y_ = (([(⟨1, 0, 7, 0, 0, 1, 0, 1, 0, 0, 0, ([] : List (S80))⟩ : S32), (⟨2, 0, 0, 9, 0, 5, 0, 1, 0, 0, 0, ([] : List (S80))⟩ : S32), (⟨3, 0, 0, 0, 0, 1, 0, 1, 0, 0, 0, ([] : List (S80))⟩ : S32), (⟨4, 0, 0, 0, 0, 9, 0, 2, 0, 0, 0, ([] : List (S80))⟩ : S32)] : List (S32))) := ⟨_, rfl⟩
  replace H : ((order_Asks.f k y228).bind fun t231 => ((order_Order.f k y228).bind fun t234 => ((prebendref01_Ints.f k t234 (([1, 0, 2] : List Int))).bind fun t240 => (if t240 = true then (if (t231.length : Int) = 3 then (if 0 < (t231.length : Int) then (if (((rd_T29 t231 0).f0) == 0 && (((rd_T29 t231 0).f1) == 9)) = true then (if 1 < (t231.length : Int) then (some (((rd_T29 t231 1).f0) == 7 && (((rd_T29 t231 1).f1) == 0))) else (none)) else (some false)) else (none)) else (some false)) else (some false))))) = some r := by first | (rw [hy228]; with_reducible exact H) | (have H2_ := (Option.bind_some _ _).symm.trans H; rw [hy228]; with_reducible exact H2_) | (have H2_ := (Option.bind_some _ _).symm.trans H; with_reducible exact H2_) | with_reducible exact H | (rw [hy228]; exact H) | exact H
  have Ny228 := Aside0.mk hy228
  clear hy228
  replace H := Option.bind_eq_some_iff.mp H
  obtain ⟨t231, A10, H⟩ := H
  replace H : ((order_Order.f k y228).bind fun t234 => ((prebendref01_Ints.f k t234 (([1, 0, 2] : List Int))).bind fun t240 => (if t240 = true then (if (t231.length : Int) = 3 then (if 0 < (t231.length : Int) then (if (((rd_T29 t231 0).f0) == 0 && (((rd_T29 t231 0).f1) == 9)) = true then (if 1 < (t231.length : Int) then (some (((rd_T29 t231 1).f0) == 7 && (((rd_T29 t231 1).f1) == 0))) else (none)) else (some false)) else (none)) else (some false)) else (some false)))) = some r := H
  have A1 := Aside0.mk A10
  clear A10
  replace H := Option.bind_eq_some_iff.mp H
  obtain ⟨t234, A20, H⟩ := H
  replace H : ((prebendref01_Ints.f k t234 (([1, 0, 2] : List Int))).bind fun t240 => (if t240 = true then (if (t231.length : Int) = 3 then (if 0 < (t231.length : Int) then (if (((rd_T29 t231 0).f0) == 0 && (((rd_T29 t231 0).f1) == 9)) = true then (if 1 < (t231.length : Int) then (some (((rd_T29 t231 1).f0) == 7 && (((rd_T29 t231 1).f1) == 0))) else (none)) else (some false)) else (none)) else (some false)) else (some false))) = some r := H
  have A2 := Aside0.mk A20
  clear A20
  obtain ⟨y237, hy237⟩ : ∃ y_ : List Int, y_ = (([1, 0, 2] : List Int)) := ⟨_, rfl⟩
  replace H : ((prebendref01_Ints.f k t234 y237).bind fun t240 => (if t240 = true then (if (t231.length : Int) = 3 then (if 0 < (t231.length : Int) then (if (((rd_T29 t231 0).f0) == 0 && (((rd_T29 t231 0).f1) == 9)) = true then (if 1 < (t231.length : Int) then (some (((rd_T29 t231 1).f0) == 7 && (((rd_T29 t231 1).f1) == 0))) else (none)) else (some false)) else (none)) else (some false)) else (some false))) = some r := by first | (rw [hy237]; with_reducible exact H) | (have H2_ := (Option.bind_some _ _).symm.trans H; rw [hy237]; with_reducible exact H2_) | (have H2_ := (Option.bind_some _ _).symm.trans H; with_reducible exact H2_) | with_reducible exact H | (rw [hy237]; exact H) | exact H
  have Ny237 := Aside0.mk hy237
  clear hy237
  replace H := Option.bind_eq_some_iff.mp H
  obtain ⟨t240, A30, H⟩ := H
  replace H : (if t240 = true then (if (t231.length : Int) = 3 then (if 0 < (t231.length : Int) then (if (((rd_T29 t231 0).f0) == 0 && (((rd_T29 t231 0).f1) == 9)) = true then (if 1 < (t231.length : Int) then (some (((rd_T29 t231 1).f0) == 7 && (((rd_T29 t231 1).f1) == 0))) else (none)) else (some false)) else (none)) else (some false)) else (some false)) = some r := H
  have A3 := Aside0.mk A30
  clear A30
  by_cases c4 : t240 = true
  · subst c4
    have H1 : (if (t231.length : Int) = 3 then (if 0 < (t231.length : Int) then (if (((rd_T29 t231 0).f0) == 0 && (((rd_T29 t231 0).f1) == 9)) = true then (if 1 < (t231.length : Int) then (some (((rd_T29 t231 1).f0) == 7 && (((rd_T29 t231 1).f1) == 0))) else (none)) else (some false)) else (none)) else (some false)) = some r := by rw [if_pos rfl] at H; exact H
    clear H
    have H := H1
    clear H1
    by_cases c5 : (t231.length : Int) = 3
    · rw [if_pos c5] at H
      have c5b0 : ((t231.length : Int) == 3) = true := beq_iff_eq.mpr c5
      have c5b1 : ((t231.length : Int) != 3) = false := bne_eq_false_iff_eq.mpr c5
      clear c5
      by_cases c6 : 0 < (t231.length : Int)
      · rw [if_pos c6] at H
        have c6b0 : decide (0 < (t231.length : Int)) = true := decide_eq_true c6
        have c6b1 : decide (0 < t231.length) = true := decide_eq_true (by omega)
        clear c6
        by_cases c7 : (((rd_T29 t231 0).f0) == 0 && (((rd_T29 t231 0).f1) == 9)) = true
        · rw [if_pos c7] at H
          have c7b0 : (((rd_T29 t231 0).f0) == 0 && (((rd_T29 t231 0).f1) == 9)) = true := c7
          (try (have c7b1 : decide (((rd_T29 t231 0).f0) = 0 && (((rd_T29 t231 0).f1) == 9)) = true := by simpa using c7))
          (try (have c7b2 : (((rd_T29 t231 0).f0) == 0 && (((rd_T29 t231 0).f1) == 9)) = true := by simpa using c7))
          clear c7
          by_cases c8 : 1 < (t231.length : Int)
          · rw [if_pos c8] at H
            have c8b0 : decide (1 < (t231.length : Int)) = true := decide_eq_true c8
            have c8b1 : decide (1 < t231.length) = true := decide_eq_true (by omega)
            clear c8
            obtain rfl := Option.some.inj H
            go_enter Try.func12, Try.ntmps12
            go_wp2_with (first | ((with_reducible refine gate_dst (N := 7) rfl ?_); refine Kd.S_lit k32 _ 32 ?hg (N := 7) ?hd (xs := ([(⟨1, 0, 7, 0, 0, 1, 0, 1, 0, 0, 0, ([] : List (S80))⟩ : S32), (⟨2, 0, 0, 9, 0, 5, 0, 1, 0, 0, 0, ([] : List (S80))⟩ : S32), (⟨3, 0, 0, 0, 0, 1, 0, 1, 0, 0, 0, ([] : List (S80))⟩ : S32), (⟨4, 0, 0, 0, 0, 9, 0, 2, 0, 0, 0, ([] : List (S80))⟩ : S32)] : List (S32))) (inner := [.int .i64 1, .int .i64 0, .int .i64 7, .int .i64 0, .int .i64 0, .int .i64 1, .int .i64 0, .int .i64 1, .int .i64 0, .int .i64 0, .int .i64 0, .slice none 0 0, .int .i64 2, .int .i64 0, .int .i64 0, .int .i64 9, .int .i64 0, .int .i64 5, .int .i64 0, .int .i64 1, .int .i64 0, .int .i64 0, .int .i64 0, .slice none 0 0, .int .i64 3, .int .i64 0, .int .i64 0, .int .i64 0, .int .i64 0, .int .i64 1, .int .i64 0, .int .i64 1, .int .i64 0, .int .i64 0, .int .i64 0, .slice none 0 0, .int .i64 4, .int .i64 0, .int .i64 0, .int .i64 0, .int .i64 0, .int .i64 9, .int .i64 0, .int .i64 2, .int .i64 0, .int .i64 0, .int .i64 0, .slice none 0 0]) (ok := fun _ => True) (okp := fun _ => True) ?hr ?hp (fun _ hk => hk) trivial (Below.refl _ _) (Nat.le_refl _) (by simp) ?_; (case hd => rfl); (case hg => rfl); (case hr => first | (go_simp; done) | (go_simp; rfl)); (case hp => exact (Reps.front (show Kd.M k32 _ _ _ (⟨1, 0, 7, 0, 0, 1, 0, 1, 0, 0, 0, ([] : List (S80))⟩ : S32) [.int .i64 1, .int .i64 0, .int .i64 7, .int .i64 0, .int .i64 0, .int .i64 1, .int .i64 0, .int .i64 1, .int .i64 0, .int .i64 0, .int .i64 0, .slice none 0 0] from (k32_mkM _ _ _ (⟨1, 0, 7, 0, 0, 1, 0, 1, 0, 0, 0, ([] : List (S80))⟩ : S32) (Kd.R_nil _ _ _ _ _))) rfl (Reps.front (show Kd.M k32 _ _ _ (⟨2, 0, 0, 9, 0, 5, 0, 1, 0, 0, 0, ([] : List (S80))⟩ : S32) [.int .i64 2, .int .i64 0, .int .i64 0, .int .i64 9, .int .i64 0, .int .i64 5, .int .i64 0, .int .i64 1, .int .i64 0, .int .i64 0, .int .i64 0, .slice none 0 0] from (k32_mkM _ _ _ (⟨2, 0, 0, 9, 0, 5, 0, 1, 0, 0, 0, ([] : List (S80))⟩ : S32) (Kd.R_nil _ _ _ _ _))) rfl (Reps.front (show Kd.M k32 _ _ _ (⟨3, 0, 0, 0, 0, 1, 0, 1, 0, 0, 0, ([] : List (S80))⟩ : S32) [.int .i64 3, .int .i64 0, .int .i64 0, .int .i64 0, .int .i64 0, .int .i64 1, .int .i64 0, .int .i64 1, .int .i64 0, .int .i64 0, .int .i64 0, .slice none 0 0] from (k32_mkM _ _ _ (⟨3, 0, 0, 0, 0, 1, 0, 1, 0, 0, 0, ([] : List (S80))⟩ : S32) (Kd.R_nil _ _ _ _ _))) rfl (Reps.front (show Kd.M k32 _ _ _ (⟨4, 0, 0, 0, 0, 9, 0, 2, 0, 0, 0, ([] : List (S80))⟩ : S32) [.int .i64 4, .int .i64 0, .int .i64 0, .int .i64 0, .int .i64 0, .int .i64 9, .int .i64 0, .int .i64 2, .int .i64 0, .int .i64 0, .int .i64 0, .slice none 0 0] from (k32_mkM _ _ _ (⟨4, 0, 0, 0, 0, 9, 0, 2, 0, 0, 0, ([] : List (S80))⟩ : S32) (Kd.R_nil _ _ _ _ _))) rfl (Reps.none _ _) rfl) rfl) rfl) rfl)); intro v229 w9 ho10 hb hg_ hnew_; clear hg_ hnew_; (first | rw [← Ny228.out] at ho10 | (simp only [Int.reduceToNat] at ho10; rw [← Ny228.out] at ho10)); have n0_ := Aside0.mk (Kd.S_lower ho10 (below_size (by repeat (first | (with_reducible first | exact HB.out | apply below_alloc | apply pw_below_drewN | apply below_drew1) | exact HB.out)))); have n1_ := Aside0.mk (below_step (by repeat (first | (with_reducible first | exact HB.out | apply below_alloc | apply pw_below_drewN | apply below_drew1) | exact HB.out)) hb); clear HB; have HO230 := n0_; have HB := n1_; clear n0_ n1_; clear hb ho10; obtain ⟨Ao11, co11, eo11⟩ := Kd.S_slice HO230.out; subst eo11) | ((with_reducible refine gate_callee (f := 11) rfl ?_); refine goesL_ (some 9) rfl rfl Try.func11 (by kernel_rfl) rfl #[.slice Ao11 y228.length co11] rfl (by (try simp only [List.map_toArray, List.map_cons, List.map_nil]); first | done | rfl | (simp only [List.length_drop, List.length_take]; rfl)) ?_; (with_reducible refine (order_Asks.calls k _ _ y228 t231 _ ?side1 ?side2 A1.out).mono ?_); (case side1 => repeat (first | exact (Kd.S_reads' HO230.out).2.2 | (with_reducible refine Kd.C_alloc ?_ _) | (with_reducible refine Kd.C_drewN ?_ _) | (with_reducible refine Kd.C_drew ?_))); (case side2 => exact (Kd.S_reads' HO230.out).2.1); rintro e w12 ⟨v232, rfl, ho0, hb⟩; refine ⟨_, rfl, ?_⟩; have n0_ := Aside0.mk (Kd.S_below (by (with_reducible repeat (first | apply Kd.S_alloc | apply Kd.S_drewN | apply Kd.S_drew)); exact HO230.out) hb); have n1_ := Aside0.mk (Kd.V_lower (Kd.V_mono (ok' := fun k_ => some k_ ≠ (.slice Ao11 y228.length co11 : Value).ownBlock) ho0 (fun k_ hk_ => (Kd.fresh' (Kd.S_lt (by (with_reducible repeat (first | apply Kd.S_alloc | apply Kd.S_drewN | apply Kd.S_drew)); exact HO230.out)) k_ hk_))) (below_size (by repeat (first | (with_reducible first | exact HB.out | apply below_alloc | apply pw_below_drewN | apply below_drew1) | exact HB.out)))); have n2_ := Aside0.mk (below_step (by repeat (first | (with_reducible first | exact HB.out | apply below_alloc | apply pw_below_drewN | apply below_drew1) | exact HB.out)) hb); clear HO230; clear HB; have HO230 := n0_; have HO233 := n1_; have HB := n2_; clear n0_ n1_ n2_; (try clear hb); (try clear hb2); (try clear hk); (try clear hi); (try clear ho0)) | ((with_reducible refine gate_callee (f := 14) rfl ?_); refine goesL_ (some 11) rfl rfl Try.func14 (by kernel_rfl) rfl #[.slice Ao11 y228.length co11] rfl (by (try simp only [List.map_toArray, List.map_cons, List.map_nil]); first | done | rfl | (simp only [List.length_drop, List.length_take]; rfl)) ?_; (with_reducible refine (order_Order.calls k _ _ y228 t234 _ ?side1 ?side2 A2.out).mono ?_); (case side1 => repeat (first | exact (Kd.S_reads' HO230.out).2.2 | (with_reducible refine Kd.C_alloc ?_ _) | (with_reducible refine Kd.C_drewN ?_ _) | (with_reducible refine Kd.C_drew ?_))); (case side2 => exact (Kd.S_reads' HO230.out).2.1); rintro e w13 ⟨v235, rfl, ho0, hb⟩; refine ⟨_, rfl, ?_⟩; have n0_ := Aside0.mk (Kd.S_below (by (with_reducible repeat (first | apply Kd.S_alloc | apply Kd.S_drewN | apply Kd.S_drew)); exact HO230.out) hb); have n1_ := Aside0.mk (Kd.V_below (by (with_reducible repeat (first | apply Kd.V_alloc | apply Kd.V_drewN | apply Kd.V_drew)); exact HO233.out) hb); have n2_ := Aside0.mk (Kd.V_lower (Kd.V_mono (ok' := fun k_ => some k_ ≠ (.slice Ao11 y228.length co11 : Value).ownBlock) ho0 (fun k_ hk_ => (Kd.fresh' (Kd.S_lt (by (with_reducible repeat (first | apply Kd.S_alloc | apply Kd.S_drewN | apply Kd.S_drew)); exact HO230.out)) k_ hk_))) (below_size (by repeat (first | (with_reducible first | exact HB.out | apply below_alloc | apply pw_below_drewN | apply below_drew1) | exact HB.out)))); have n3_ := Aside0.mk (below_step (by repeat (first | (with_reducible first | exact HB.out | apply below_alloc | apply pw_below_drewN | apply below_drew1) | exact HB.out)) hb); clear HO230; clear HO233; clear HB; have HO230 := n0_; have HO233 := n1_; have HO236 := n2_; have HB := n3_; clear n0_ n1_ n2_ n3_; (try clear hb); (try clear hb2); (try clear hk); (try clear hi); (try clear ho0)) | ((with_reducible refine gate_dst (N := 12) rfl ?_); refine Kd.R_lit (Kd.int .i64) _ 3 ?hg (N := 12) ?hd (xs := ([1, 0, 2] : List Int)) (inner := [.int .i64 1, .int .i64 0, .int .i64 2]) (ok := fun _ => True) (okp := fun _ => True) ?hr ?hp (fun _ hk => hk) trivial (Below.refl _ _) (Nat.le_refl _) (by simp) ?_; (case hd => rfl); (case hg => rfl); (case hr => first | (go_simp; done) | (go_simp; rfl)); (case hp => exact (Reps.one (show Kd.M (Kd.int .i64) _ _ _ 1 [.int .i64 1] from rfl) (Reps.one (show Kd.M (Kd.int .i64) _ _ _ 0 [.int .i64 0] from rfl) (Reps.one (show Kd.M (Kd.int .i64) _ _ _ 2 [.int .i64 2] from rfl) (Reps.none _ _))))); intro v238 w14 ho15 hb hg_ hnew_; clear hg_ hnew_; (first | rw [← Ny237.out] at ho15 | (simp only [Int.reduceToNat] at ho15; rw [← Ny237.out] at ho15)); have n0_ := Aside0.mk (Kd.S_below (by (with_reducible repeat (first | apply Kd.S_alloc | apply Kd.S_drewN | apply Kd.S_drew)); exact HO230.out) hb); have n1_ := Aside0.mk (Kd.V_elder' (by (with_reducible repeat (first | apply Kd.V_alloc | apply Kd.V_drewN | apply Kd.V_drew)); exact HO233.out) (Kd.R_base ho15) hb); have n2_ := Aside0.mk (Kd.V_elder' (by (with_reducible repeat (first | apply Kd.V_alloc | apply Kd.V_drewN | apply Kd.V_drew)); exact HO236.out) (Kd.R_base ho15) hb); have n3_ := Aside0.mk (Kd.R_lower ho15 (below_size (by repeat (first | (with_reducible first | exact HB.out | apply below_alloc | apply pw_below_drewN | apply below_drew1) | exact HB.out)))); have n4_ := Aside0.mk (below_step (by repeat (first | (with_reducible first | exact HB.out | apply below_alloc | apply pw_below_drewN | apply below_drew1) | exact HB.out)) hb); clear HO230; clear HO233; clear HO236; clear HB; have HO230 := n0_; have HO233 := n1_; have HO236 := n2_; have HO239 := n3_; have HB := n4_; clear n0_ n1_ n2_ n3_ n4_; clear hb ho15; obtain ⟨Ao16, co16, eo16⟩ := Kd.V_slice HO236.out; subst eo16; obtain ⟨Ao17, co17, eo17⟩ := Kd.R_slice HO239.out; subst eo17) | ((with_reducible refine gate_callee (f := 13) rfl ?_); refine goesL_ (some 13) rfl rfl Try.func13 (by kernel_rfl) rfl #[.slice Ao16 t234.length co16, .slice Ao17 y237.length co17] rfl (by (try simp only [List.map_toArray, List.map_cons, List.map_nil]); first | done | rfl | (simp only [List.length_drop, List.length_take]; rfl)) ?_; (with_reducible refine (prebendref01_Ints.calls k _ _ t234 _ _ y237 true _ ?side1 ?side2 ?side3 ?side4 A3.out).mono ?_); (case side1 => repeat (first | exact (Kd.V_reads' HO236.out).2.2 | (with_reducible refine Kd.C_alloc ?_ _) | (with_reducible refine Kd.C_drewN ?_ _) | (with_reducible refine Kd.C_drew ?_))); (case side2 => exact (Kd.V_reads' HO236.out).2.1); (case side3 => repeat (first | exact (Kd.R_reads' HO239.out).2.2 | (with_reducible refine Kd.C_alloc ?_ _) | (with_reducible refine Kd.C_drewN ?_ _) | (with_reducible refine Kd.C_drew ?_))); (case side4 => exact (Kd.R_reads' HO239.out).2.1); rintro e w' ⟨rfl, ⟨nd, rfl⟩⟩; refine ⟨_, rfl, ?_⟩; obtain ⟨Ao18, co18, eo18⟩ := Kd.V_slice HO233.out; subst eo18; have p241 : 0 ≤ (0 : Int) := (by omega); have q241 : 0 < (t231.length : Int) := of_decide_eq_true (by first | (with_reducible assumption) | assumption); obtain ⟨ad241, e241, hx241_0, hx241_1⟩ := at_T29 (Kd.V_reads' HO233.out).2.2 0 p241 q241; cases e241; have qi241 : (0 < t231.length) = True := eq_true (by omega); (try rw [show ((0 : Int)).toNat = 0 from rfl] at hx241_0); (try rw [show 0 * 2 = 0 from rfl] at hx241_0); (try rw [Addr.add_zero'] at hx241_0); (try rw [show ((0 : Int)).toNat = 0 from rfl] at hx241_1); (try rw [show 0 * 2 = 0 from rfl] at hx241_1); (try rw [Addr.add_zero'] at hx241_1); replace p241 := eq_true p241; replace q241 := eq_true q241; have p242 : 0 ≤ (1 : Int) := (by omega); have q242 : 1 < (t231.length : Int) := of_decide_eq_true (by first | (with_reducible assumption) | assumption); obtain ⟨ad242, e242, hx242_0, hx242_1⟩ := at_T29 (Kd.V_reads' HO233.out).2.2 1 p242 q242; obtain rfl : ad241 = ad242 := (by injection e242); (try simp only [show (1 : Int).toNat = 1 from rfl, Nat.reduceMul, Nat.reduceEqDiff, Go.Addr.add, ↓reduceIte] at hx242_0); (try simp only [show (1 : Int).toNat = 1 from rfl, Nat.reduceMul, Nat.reduceEqDiff, Go.Addr.add, ↓reduceIte] at hx242_1); have qi242 : (1 < t231.length) = True := eq_true (by omega); (try rw [show ((1 : Int)).toNat = 1 from rfl] at hx242_0); (try rw [show 1 * 2 = 2 from rfl] at hx242_0); (try rw [show ((1 : Int)).toNat = 1 from rfl] at hx242_1); (try rw [show 1 * 2 = 2 from rfl] at hx242_1); replace p242 := eq_true p242; replace q242 := eq_true q242))
            go_ret
            exact ⟨by first | rfl | (simp [errW_none, errW_some] <;> rfl) | (simp [*, errW_none, errW_some] <;> rfl), by repeat (first | (with_reducible first | exact HB.out | apply below_alloc | apply pw_below_drewN | apply below_drew1) | exact HB.out)⟩
          · rw [if_neg c8] at H
            exact absurd H (by simp)
        · rw [if_neg c7] at H
          have c7b0 : (((rd_T29 t231 0).f0) == 0 && (((rd_T29 t231 0).f1) == 9)) = false := by simpa using c7
          (try (have c7b1 : decide (((rd_T29 t231 0).f0) = 0 && (((rd_T29 t231 0).f1) == 9)) = false := by simpa using c7))
          (try (have c7b2 : (((rd_T29 t231 0).f0) == 0 && (((rd_T29 t231 0).f1) == 9)) = false := by simpa using c7))
          (try (have c7b3 : ¬ (((rd_T29 t231 0).f0) = 0 && (((rd_T29 t231 0).f1) == 9)) := by simpa using c7))
          clear c7
          obtain rfl := Option.some.inj H
          go_enter Try.func12, Try.ntmps12
          go_wp2_with (first | ((with_reducible refine gate_dst (N := 7) rfl ?_); refine Kd.S_lit k32 _ 32 ?hg (N := 7) ?hd (xs := ([(⟨1, 0, 7, 0, 0, 1, 0, 1, 0, 0, 0, ([] : List (S80))⟩ : S32), (⟨2, 0, 0, 9, 0, 5, 0, 1, 0, 0, 0, ([] : List (S80))⟩ : S32), (⟨3, 0, 0, 0, 0, 1, 0, 1, 0, 0, 0, ([] : List (S80))⟩ : S32), (⟨4, 0, 0, 0, 0, 9, 0, 2, 0, 0, 0, ([] : List (S80))⟩ : S32)] : List (S32))) (inner := [.int .i64 1, .int .i64 0, .int .i64 7, .int .i64 0, .int .i64 0, .int .i64 1, .int .i64 0, .int .i64 1, .int .i64 0, .int .i64 0, .int .i64 0, .slice none 0 0, .int .i64 2, .int .i64 0, .int .i64 0, .int .i64 9, .int .i64 0, .int .i64 5, .int .i64 0, .int .i64 1, .int .i64 0, .int .i64 0, .int .i64 0, .slice none 0 0, .int .i64 3, .int .i64 0, .int .i64 0, .int .i64 0, .int .i64 0, .int .i64 1, .int .i64 0, .int .i64 1, .int .i64 0, .int .i64 0, .int .i64 0, .slice none 0 0, .int .i64 4, .int .i64 0, .int .i64 0, .int .i64 0, .int .i64 0, .int .i64 9, .int .i64 0, .int .i64 2, .int .i64 0, .int .i64 0, .int .i64 0, .slice none 0 0]) (ok := fun _ => True) (okp := fun _ => True) ?hr ?hp (fun _ hk => hk) trivial (Below.refl _ _) (Nat.le_refl _) (by simp) ?_; (case hd => rfl); (case hg => rfl); (case hr => first | (go_simp; done) | (go_simp; rfl)); (case hp => exact (Reps.front (show Kd.M k32 _ _ _ (⟨1, 0, 7, 0, 0, 1, 0, 1, 0, 0, 0, ([] : List (S80))⟩ : S32) [.int .i64 1, .int .i64 0, .int .i64 7, .int .i64 0, .int .i64 0, .int .i64 1, .int .i64 0, .int .i64 1, .int .i64 0, .int .i64 0, .int .i64 0, .slice none 0 0] from (k32_mkM _ _ _ (⟨1, 0, 7, 0, 0, 1, 0, 1, 0, 0, 0, ([] : List (S80))⟩ : S32) (Kd.R_nil _ _ _ _ _))) rfl (Reps.front (show Kd.M k32 _ _ _ (⟨2, 0, 0, 9, 0, 5, 0, 1, 0, 0, 0, ([] : List (S80))⟩ : S32) [.int .i64 2, .int .i64 0, .int .i64 0, .int .i64 9, .int .i64 0, .int .i64 5, .int .i64 0, .int .i64 1, .int .i64 0, .int .i64 0, .int .i64 0, .slice none 0 0] from (k32_mkM _ _ _ (⟨2, 0, 0, 9, 0, 5, 0, 1, 0, 0, 0, ([] : List (S80))⟩ : S32) (Kd.R_nil _ _ _ _ _))) rfl (Reps.front (show Kd.M k32 _ _ _ (⟨3, 0, 0, 0, 0, 1, 0, 1, 0, 0, 0, ([] : List (S80))⟩ : S32) [.int .i64 3, .int .i64 0, .int .i64 0, .int .i64 0, .int .i64 0, .int .i64 1, .int .i64 0, .int .i64 1, .int .i64 0, .int .i64 0, .int .i64 0, .slice none 0 0] from (k32_mkM _ _ _ (⟨3, 0, 0, 0, 0, 1, 0, 1, 0, 0, 0, ([] : List (S80))⟩ : S32) (Kd.R_nil _ _ _ _ _))) rfl (Reps.front (show Kd.M k32 _ _ _ (⟨4, 0, 0, 0, 0, 9, 0, 2, 0, 0, 0, ([] : List (S80))⟩ : S32) [.int .i64 4, .int .i64 0, .int .i64 0, .int .i64 0, .int .i64 0, .int .i64 9, .int .i64 0, .int .i64 2, .int .i64 0, .int .i64 0, .int .i64 0, .slice none 0 0] from (k32_mkM _ _ _ (⟨4, 0, 0, 0, 0, 9, 0, 2, 0, 0, 0, ([] : List (S80))⟩ : S32) (Kd.R_nil _ _ _ _ _))) rfl (Reps.none _ _) rfl) rfl) rfl) rfl)); intro v229 w19 ho20 hb hg_ hnew_; clear hg_ hnew_; (first | rw [← Ny228.out] at ho20 | (simp only [Int.reduceToNat] at ho20; rw [← Ny228.out] at ho20)); have n0_ := Aside0.mk (Kd.S_lower ho20 (below_size (by repeat (first | (with_reducible first | exact HB.out | apply below_alloc | apply pw_below_drewN | apply below_drew1) | exact HB.out)))); have n1_ := Aside0.mk (below_step (by repeat (first | (with_reducible first | exact HB.out | apply below_alloc | apply pw_below_drewN | apply below_drew1) | exact HB.out)) hb); clear HB; have HO230 := n0_; have HB := n1_; clear n0_ n1_; clear hb ho20; obtain ⟨Ao21, co21, eo21⟩ := Kd.S_slice HO230.out; subst eo21) | ((with_reducible refine gate_callee (f := 11) rfl ?_); refine goesL_ (some 9) rfl rfl Try.func11 (by kernel_rfl) rfl #[.slice Ao21 y228.length co21] rfl (by (try simp only [List.map_toArray, List.map_cons, List.map_nil]); first | done | rfl | (simp only [List.length_drop, List.length_take]; rfl)) ?_; (with_reducible refine (order_Asks.calls k _ _ y228 t231 _ ?side1 ?side2 A1.out).mono ?_); (case side1 => repeat (first | exact (Kd.S_reads' HO230.out).2.2 | (with_reducible refine Kd.C_alloc ?_ _) | (with_reducible refine Kd.C_drewN ?_ _) | (with_reducible refine Kd.C_drew ?_))); (case side2 => exact (Kd.S_reads' HO230.out).2.1); rintro e w22 ⟨v232, rfl, ho0, hb⟩; refine ⟨_, rfl, ?_⟩; have n0_ := Aside0.mk (Kd.S_below (by (with_reducible repeat (first | apply Kd.S_alloc | apply Kd.S_drewN | apply Kd.S_drew)); exact HO230.out) hb); have n1_ := Aside0.mk (Kd.V_lower (Kd.V_mono (ok' := fun k_ => some k_ ≠ (.slice Ao21 y228.length co21 : Value).ownBlock) ho0 (fun k_ hk_ => (Kd.fresh' (Kd.S_lt (by (with_reducible repeat (first | apply Kd.S_alloc | apply Kd.S_drewN | apply Kd.S_drew)); exact HO230.out)) k_ hk_))) (below_size (by repeat (first | (with_reducible first | exact HB.out | apply below_alloc | apply pw_below_drewN | apply below_drew1) | exact HB.out)))); have n2_ := Aside0.mk (below_step (by repeat (first | (with_reducible first | exact HB.out | apply below_alloc | apply pw_below_drewN | apply below_drew1) | exact HB.out)) hb); clear HO230; clear HB; have HO230 := n0_; have HO233 := n1_; have HB := n2_; clear n0_ n1_ n2_; (try clear hb); (try clear hb2); (try clear hk); (try clear hi); (try clear ho0)) | ((with_reducible refine gate_callee (f := 14) rfl ?_); refine goesL_ (some 11) rfl rfl Try.func14 (by kernel_rfl) rfl #[.slice Ao21 y228.length co21] rfl (by (try simp only [List.map_toArray, List.map_cons, List.map_nil]); first | done | rfl | (simp only [List.length_drop, List.length_take]; rfl)) ?_; (with_reducible refine (order_Order.calls k _ _ y228 t234 _ ?side1 ?side2 A2.out).mono ?_); (case side1 => repeat (first | exact (Kd.S_reads' HO230.out).2.2 | (with_reducible refine Kd.C_alloc ?_ _) | (with_reducible refine Kd.C_drewN ?_ _) | (with_reducible refine Kd.C_drew ?_))); (case side2 => exact (Kd.S_reads' HO230.out).2.1); rintro e w23 ⟨v235, rfl, ho0, hb⟩; refine ⟨_, rfl, ?_⟩; have n0_ := Aside0.mk (Kd.S_below (by (with_reducible repeat (first | apply Kd.S_alloc | apply Kd.S_drewN | apply Kd.S_drew)); exact HO230.out) hb); have n1_ := Aside0.mk (Kd.V_below (by (with_reducible repeat (first | apply Kd.V_alloc | apply Kd.V_drewN | apply Kd.V_drew)); exact HO233.out) hb); have n2_ := Aside0.mk (Kd.V_lower (Kd.V_mono (ok' := fun k_ => some k_ ≠ (.slice Ao21 y228.length co21 : Value).ownBlock) ho0 (fun k_ hk_ => (Kd.fresh' (Kd.S_lt (by (with_reducible repeat (first | apply Kd.S_alloc | apply Kd.S_drewN | apply Kd.S_drew)); exact HO230.out)) k_ hk_))) (below_size (by repeat (first | (with_reducible first | exact HB.out | apply below_alloc | apply pw_below_drewN | apply below_drew1) | exact HB.out)))); have n3_ := Aside0.mk (below_step (by repeat (first | (with_reducible first | exact HB.out | apply below_alloc | apply pw_below_drewN | apply below_drew1) | exact HB.out)) hb); clear HO230; clear HO233; clear HB; have HO230 := n0_; have HO233 := n1_; have HO236 := n2_; have HB := n3_; clear n0_ n1_ n2_ n3_; (try clear hb); (try clear hb2); (try clear hk); (try clear hi); (try clear ho0)) | ((with_reducible refine gate_dst (N := 12) rfl ?_); refine Kd.R_lit (Kd.int .i64) _ 3 ?hg (N := 12) ?hd (xs := ([1, 0, 2] : List Int)) (inner := [.int .i64 1, .int .i64 0, .int .i64 2]) (ok := fun _ => True) (okp := fun _ => True) ?hr ?hp (fun _ hk => hk) trivial (Below.refl _ _) (Nat.le_refl _) (by simp) ?_; (case hd => rfl); (case hg => rfl); (case hr => first | (go_simp; done) | (go_simp; rfl)); (case hp => exact (Reps.one (show Kd.M (Kd.int .i64) _ _ _ 1 [.int .i64 1] from rfl) (Reps.one (show Kd.M (Kd.int .i64) _ _ _ 0 [.int .i64 0] from rfl) (Reps.one (show Kd.M (Kd.int .i64) _ _ _ 2 [.int .i64 2] from rfl) (Reps.none _ _))))); intro v238 w24 ho25 hb hg_ hnew_; clear hg_ hnew_; (first | rw [← Ny237.out] at ho25 | (simp only [Int.reduceToNat] at ho25; rw [← Ny237.out] at ho25)); have n0_ := Aside0.mk (Kd.S_below (by (with_reducible repeat (first | apply Kd.S_alloc | apply Kd.S_drewN | apply Kd.S_drew)); exact HO230.out) hb); have n1_ := Aside0.mk (Kd.V_elder' (by (with_reducible repeat (first | apply Kd.V_alloc | apply Kd.V_drewN | apply Kd.V_drew)); exact HO233.out) (Kd.R_base ho25) hb); have n2_ := Aside0.mk (Kd.V_elder' (by (with_reducible repeat (first | apply Kd.V_alloc | apply Kd.V_drewN | apply Kd.V_drew)); exact HO236.out) (Kd.R_base ho25) hb); have n3_ := Aside0.mk (Kd.R_lower ho25 (below_size (by repeat (first | (with_reducible first | exact HB.out | apply below_alloc | apply pw_below_drewN | apply below_drew1) | exact HB.out)))); have n4_ := Aside0.mk (below_step (by repeat (first | (with_reducible first | exact HB.out | apply below_alloc | apply pw_below_drewN | apply below_drew1) | exact HB.out)) hb); clear HO230; clear HO233; clear HO236; clear HB; have HO230 := n0_; have HO233 := n1_; have HO236 := n2_; have HO239 := n3_; have HB := n4_; clear n0_ n1_ n2_ n3_ n4_; clear hb ho25; obtain ⟨Ao26, co26, eo26⟩ := Kd.V_slice HO236.out; subst eo26; obtain ⟨Ao27, co27, eo27⟩ := Kd.R_slice HO239.out; subst eo27) | ((with_reducible refine gate_callee (f := 13) rfl ?_); refine goesL_ (some 13) rfl rfl Try.func13 (by kernel_rfl) rfl #[.slice Ao26 t234.length co26, .slice Ao27 y237.length co27] rfl (by (try simp only [List.map_toArray, List.map_cons, List.map_nil]); first | done | rfl | (simp only [List.length_drop, List.length_take]; rfl)) ?_; (with_reducible refine (prebendref01_Ints.calls k _ _ t234 _ _ y237 true _ ?side1 ?side2 ?side3 ?side4 A3.out).mono ?_); (case side1 => repeat (first | exact (Kd.V_reads' HO236.out).2.2 | (with_reducible refine Kd.C_alloc ?_ _) | (with_reducible refine Kd.C_drewN ?_ _) | (with_reducible refine Kd.C_drew ?_))); (case side2 => exact (Kd.V_reads' HO236.out).2.1); (case side3 => repeat (first | exact (Kd.R_reads' HO239.out).2.2 | (with_reducible refine Kd.C_alloc ?_ _) | (with_reducible refine Kd.C_drewN ?_ _) | (with_reducible refine Kd.C_drew ?_))); (case side4 => exact (Kd.R_reads' HO239.out).2.1); rintro e w' ⟨rfl, ⟨nd, rfl⟩⟩; refine ⟨_, rfl, ?_⟩; obtain ⟨Ao28, co28, eo28⟩ := Kd.V_slice HO233.out; subst eo28; have p241 : 0 ≤ (0 : Int) := (by omega); have q241 : 0 < (t231.length : Int) := of_decide_eq_true (by first | (with_reducible assumption) | assumption); obtain ⟨ad241, e241, hx241_0, hx241_1⟩ := at_T29 (Kd.V_reads' HO233.out).2.2 0 p241 q241; cases e241; have qi241 : (0 < t231.length) = True := eq_true (by omega); (try rw [show ((0 : Int)).toNat = 0 from rfl] at hx241_0); (try rw [show 0 * 2 = 0 from rfl] at hx241_0); (try rw [Addr.add_zero'] at hx241_0); (try rw [show ((0 : Int)).toNat = 0 from rfl] at hx241_1); (try rw [show 0 * 2 = 0 from rfl] at hx241_1); (try rw [Addr.add_zero'] at hx241_1); replace p241 := eq_true p241; replace q241 := eq_true q241))
          go_ret
          exact ⟨by first | rfl | (simp [errW_none, errW_some] <;> rfl) | (simp [*, errW_none, errW_some] <;> rfl), by repeat (first | (with_reducible first | exact HB.out | apply below_alloc | apply pw_below_drewN | apply below_drew1) | exact HB.out)⟩
      · rw [if_neg c6] at H
        exact absurd H (by simp)
    · rw [if_neg c5] at H
      have c5b0 : ((t231.length : Int) == 3) = false := beq_eq_false_iff_ne.mpr c5
      have c5b1 : ((t231.length : Int) != 3) = true := bne_iff_ne.mpr c5
      obtain rfl := Option.some.inj H
      go_enter Try.func12, Try.ntmps12
      go_wp2_with (first | ((with_reducible refine gate_dst (N := 7) rfl ?_); refine Kd.S_lit k32 _ 32 ?hg (N := 7) ?hd (xs := ([(⟨1, 0, 7, 0, 0, 1, 0, 1, 0, 0, 0, ([] : List (S80))⟩ : S32), (⟨2, 0, 0, 9, 0, 5, 0, 1, 0, 0, 0, ([] : List (S80))⟩ : S32), (⟨3, 0, 0, 0, 0, 1, 0, 1, 0, 0, 0, ([] : List (S80))⟩ : S32), (⟨4, 0, 0, 0, 0, 9, 0, 2, 0, 0, 0, ([] : List (S80))⟩ : S32)] : List (S32))) (inner := [.int .i64 1, .int .i64 0, .int .i64 7, .int .i64 0, .int .i64 0, .int .i64 1, .int .i64 0, .int .i64 1, .int .i64 0, .int .i64 0, .int .i64 0, .slice none 0 0, .int .i64 2, .int .i64 0, .int .i64 0, .int .i64 9, .int .i64 0, .int .i64 5, .int .i64 0, .int .i64 1, .int .i64 0, .int .i64 0, .int .i64 0, .slice none 0 0, .int .i64 3, .int .i64 0, .int .i64 0, .int .i64 0, .int .i64 0, .int .i64 1, .int .i64 0, .int .i64 1, .int .i64 0, .int .i64 0, .int .i64 0, .slice none 0 0, .int .i64 4, .int .i64 0, .int .i64 0, .int .i64 0, .int .i64 0, .int .i64 9, .int .i64 0, .int .i64 2, .int .i64 0, .int .i64 0, .int .i64 0, .slice none 0 0]) (ok := fun _ => True) (okp := fun _ => True) ?hr ?hp (fun _ hk => hk) trivial (Below.refl _ _) (Nat.le_refl _) (by simp) ?_; (case hd => rfl); (case hg => rfl); (case hr => first | (go_simp; done) | (go_simp; rfl)); (case hp => exact (Reps.front (show Kd.M k32 _ _ _ (⟨1, 0, 7, 0, 0, 1, 0, 1, 0, 0, 0, ([] : List (S80))⟩ : S32) [.int .i64 1, .int .i64 0, .int .i64 7, .int .i64 0, .int .i64 0, .int .i64 1, .int .i64 0, .int .i64 1, .int .i64 0, .int .i64 0, .int .i64 0, .slice none 0 0] from (k32_mkM _ _ _ (⟨1, 0, 7, 0, 0, 1, 0, 1, 0, 0, 0, ([] : List (S80))⟩ : S32) (Kd.R_nil _ _ _ _ _))) rfl (Reps.front (show Kd.M k32 _ _ _ (⟨2, 0, 0, 9, 0, 5, 0, 1, 0, 0, 0, ([] : List (S80))⟩ : S32) [.int .i64 2, .int .i64 0, .int .i64 0, .int .i64 9, .int .i64 0, .int .i64 5, .int .i64 0, .int .i64 1, .int .i64 0, .int .i64 0, .int .i64 0, .slice none 0 0] from (k32_mkM _ _ _ (⟨2, 0, 0, 9, 0, 5, 0, 1, 0, 0, 0, ([] : List (S80))⟩ : S32) (Kd.R_nil _ _ _ _ _))) rfl (Reps.front (show Kd.M k32 _ _ _ (⟨3, 0, 0, 0, 0, 1, 0, 1, 0, 0, 0, ([] : List (S80))⟩ : S32) [.int .i64 3, .int .i64 0, .int .i64 0, .int .i64 0, .int .i64 0, .int .i64 1, .int .i64 0, .int .i64 1, .int .i64 0, .int .i64 0, .int .i64 0, .slice none 0 0] from (k32_mkM _ _ _ (⟨3, 0, 0, 0, 0, 1, 0, 1, 0, 0, 0, ([] : List (S80))⟩ : S32) (Kd.R_nil _ _ _ _ _))) rfl (Reps.front (show Kd.M k32 _ _ _ (⟨4, 0, 0, 0, 0, 9, 0, 2, 0, 0, 0, ([] : List (S80))⟩ : S32) [.int .i64 4, .int .i64 0, .int .i64 0, .int .i64 0, .int .i64 0, .int .i64 9, .int .i64 0, .int .i64 2, .int .i64 0, .int .i64 0, .int .i64 0, .slice none 0 0] from (k32_mkM _ _ _ (⟨4, 0, 0, 0, 0, 9, 0, 2, 0, 0, 0, ([] : List (S80))⟩ : S32) (Kd.R_nil _ _ _ _ _))) rfl (Reps.none _ _) rfl) rfl) rfl) rfl)); intro v229 w29 ho30 hb hg_ hnew_; clear hg_ hnew_; (first | rw [← Ny228.out] at ho30 | (simp only [Int.reduceToNat] at ho30; rw [← Ny228.out] at ho30)); have n0_ := Aside0.mk (Kd.S_lower ho30 (below_size (by repeat (first | (with_reducible first | exact HB.out | apply below_alloc | apply pw_below_drewN | apply below_drew1) | exact HB.out)))); have n1_ := Aside0.mk (below_step (by repeat (first | (with_reducible first | exact HB.out | apply below_alloc | apply pw_below_drewN | apply below_drew1) | exact HB.out)) hb); clear HB; have HO230 := n0_; have HB := n1_; clear n0_ n1_; clear hb ho30; obtain ⟨Ao31, co31, eo31⟩ := Kd.S_slice HO230.out; subst eo31) | ((with_reducible refine gate_callee (f := 11) rfl ?_); refine goesL_ (some 9) rfl rfl Try.func11 (by kernel_rfl) rfl #[.slice Ao31 y228.length co31] rfl (by (try simp only [List.map_toArray, List.map_cons, List.map_nil]); first | done | rfl | (simp only [List.length_drop, List.length_take]; rfl)) ?_; (with_reducible refine (order_Asks.calls k _ _ y228 t231 _ ?side1 ?side2 A1.out).mono ?_); (case side1 => repeat (first | exact (Kd.S_reads' HO230.out).2.2 | (with_reducible refine Kd.C_alloc ?_ _) | (with_reducible refine Kd.C_drewN ?_ _) | (with_reducible refine Kd.C_drew ?_))); (case side2 => exact (Kd.S_reads' HO230.out).2.1); rintro e w32 ⟨v232, rfl, ho0, hb⟩; refine ⟨_, rfl, ?_⟩; have n0_ := Aside0.mk (Kd.S_below (by (with_reducible repeat (first | apply Kd.S_alloc | apply Kd.S_drewN | apply Kd.S_drew)); exact HO230.out) hb); have n1_ := Aside0.mk (Kd.V_lower (Kd.V_mono (ok' := fun k_ => some k_ ≠ (.slice Ao31 y228.length co31 : Value).ownBlock) ho0 (fun k_ hk_ => (Kd.fresh' (Kd.S_lt (by (with_reducible repeat (first | apply Kd.S_alloc | apply Kd.S_drewN | apply Kd.S_drew)); exact HO230.out)) k_ hk_))) (below_size (by repeat (first | (with_reducible first | exact HB.out | apply below_alloc | apply pw_below_drewN | apply below_drew1) | exact HB.out)))); have n2_ := Aside0.mk (below_step (by repeat (first | (with_reducible first | exact HB.out | apply below_alloc | apply pw_below_drewN | apply below_drew1) | exact HB.out)) hb); clear HO230; clear HB; have HO230 := n0_; have HO233 := n1_; have HB := n2_; clear n0_ n1_ n2_; (try clear hb); (try clear hb2); (try clear hk); (try clear hi); (try clear ho0)) | ((with_reducible refine gate_callee (f := 14) rfl ?_); refine goesL_ (some 11) rfl rfl Try.func14 (by kernel_rfl) rfl #[.slice Ao31 y228.length co31] rfl (by (try simp only [List.map_toArray, List.map_cons, List.map_nil]); first | done | rfl | (simp only [List.length_drop, List.length_take]; rfl)) ?_; (with_reducible refine (order_Order.calls k _ _ y228 t234 _ ?side1 ?side2 A2.out).mono ?_); (case side1 => repeat (first | exact (Kd.S_reads' HO230.out).2.2 | (with_reducible refine Kd.C_alloc ?_ _) | (with_reducible refine Kd.C_drewN ?_ _) | (with_reducible refine Kd.C_drew ?_))); (case side2 => exact (Kd.S_reads' HO230.out).2.1); rintro e w33 ⟨v235, rfl, ho0, hb⟩; refine ⟨_, rfl, ?_⟩; have n0_ := Aside0.mk (Kd.S_below (by (with_reducible repeat (first | apply Kd.S_alloc | apply Kd.S_drewN | apply Kd.S_drew)); exact HO230.out) hb); have n1_ := Aside0.mk (Kd.V_below (by (with_reducible repeat (first | apply Kd.V_alloc | apply Kd.V_drewN | apply Kd.V_drew)); exact HO233.out) hb); have n2_ := Aside0.mk (Kd.V_lower (Kd.V_mono (ok' := fun k_ => some k_ ≠ (.slice Ao31 y228.length co31 : Value).ownBlock) ho0 (fun k_ hk_ => (Kd.fresh' (Kd.S_lt (by (with_reducible repeat (first | apply Kd.S_alloc | apply Kd.S_drewN | apply Kd.S_drew)); exact HO230.out)) k_ hk_))) (below_size (by repeat (first | (with_reducible first | exact HB.out | apply below_alloc | apply pw_below_drewN | apply below_drew1) | exact HB.out)))); have n3_ := Aside0.mk (below_step (by repeat (first | (with_reducible first | exact HB.out | apply below_alloc | apply pw_below_drewN | apply below_drew1) | exact HB.out)) hb); clear HO230; clear HO233; clear HB; have HO230 := n0_; have HO233 := n1_; have HO236 := n2_; have HB := n3_; clear n0_ n1_ n2_ n3_; (try clear hb); (try clear hb2); (try clear hk); (try clear hi); (try clear ho0)) | ((with_reducible refine gate_dst (N := 12) rfl ?_); refine Kd.R_lit (Kd.int .i64) _ 3 ?hg (N := 12) ?hd (xs := ([1, 0, 2] : List Int)) (inner := [.int .i64 1, .int .i64 0, .int .i64 2]) (ok := fun _ => True) (okp := fun _ => True) ?hr ?hp (fun _ hk => hk) trivial (Below.refl _ _) (Nat.le_refl _) (by simp) ?_; (case hd => rfl); (case hg => rfl); (case hr => first | (go_simp; done) | (go_simp; rfl)); (case hp => exact (Reps.one (show Kd.M (Kd.int .i64) _ _ _ 1 [.int .i64 1] from rfl) (Reps.one (show Kd.M (Kd.int .i64) _ _ _ 0 [.int .i64 0] from rfl) (Reps.one (show Kd.M (Kd.int .i64) _ _ _ 2 [.int .i64 2] from rfl) (Reps.none _ _))))); intro v238 w34 ho35 hb hg_ hnew_; clear hg_ hnew_; (first | rw [← Ny237.out] at ho35 | (simp only [Int.reduceToNat] at ho35; rw [← Ny237.out] at ho35)); have n0_ := Aside0.mk (Kd.S_below (by (with_reducible repeat (first | apply Kd.S_alloc | apply Kd.S_drewN | apply Kd.S_drew)); exact HO230.out) hb); have n1_ := Aside0.mk (Kd.V_elder' (by (with_reducible repeat (first | apply Kd.V_alloc | apply Kd.V_drewN | apply Kd.V_drew)); exact HO233.out) (Kd.R_base ho35) hb); have n2_ := Aside0.mk (Kd.V_elder' (by (with_reducible repeat (first | apply Kd.V_alloc | apply Kd.V_drewN | apply Kd.V_drew)); exact HO236.out) (Kd.R_base ho35) hb); have n3_ := Aside0.mk (Kd.R_lower ho35 (below_size (by repeat (first | (with_reducible first | exact HB.out | apply below_alloc | apply pw_below_drewN | apply below_drew1) | exact HB.out)))); have n4_ := Aside0.mk (below_step (by repeat (first | (with_reducible first | exact HB.out | apply below_alloc | apply pw_below_drewN | apply below_drew1) | exact HB.out)) hb); clear HO230; clear HO233; clear HO236; clear HB; have HO230 := n0_; have HO233 := n1_; have HO236 := n2_; have HO239 := n3_; have HB := n4_; clear n0_ n1_ n2_ n3_ n4_; clear hb ho35; obtain ⟨Ao36, co36, eo36⟩ := Kd.V_slice HO236.out; subst eo36; obtain ⟨Ao37, co37, eo37⟩ := Kd.R_slice HO239.out; subst eo37) | ((with_reducible refine gate_callee (f := 13) rfl ?_); refine goesL_ (some 13) rfl rfl Try.func13 (by kernel_rfl) rfl #[.slice Ao36 t234.length co36, .slice Ao37 y237.length co37] rfl (by (try simp only [List.map_toArray, List.map_cons, List.map_nil]); first | done | rfl | (simp only [List.length_drop, List.length_take]; rfl)) ?_; (with_reducible refine (prebendref01_Ints.calls k _ _ t234 _ _ y237 true _ ?side1 ?side2 ?side3 ?side4 A3.out).mono ?_); (case side1 => repeat (first | exact (Kd.V_reads' HO236.out).2.2 | (with_reducible refine Kd.C_alloc ?_ _) | (with_reducible refine Kd.C_drewN ?_ _) | (with_reducible refine Kd.C_drew ?_))); (case side2 => exact (Kd.V_reads' HO236.out).2.1); (case side3 => repeat (first | exact (Kd.R_reads' HO239.out).2.2 | (with_reducible refine Kd.C_alloc ?_ _) | (with_reducible refine Kd.C_drewN ?_ _) | (with_reducible refine Kd.C_drew ?_))); (case side4 => exact (Kd.R_reads' HO239.out).2.1); rintro e w' ⟨rfl, ⟨nd, rfl⟩⟩; refine ⟨_, rfl, ?_⟩; obtain ⟨Ao38, co38, eo38⟩ := Kd.V_slice HO233.out; subst eo38))
      go_ret
      exact ⟨by first | rfl | (simp [errW_none, errW_some] <;> rfl) | (simp [*, errW_none, errW_some] <;> rfl), by repeat (first | (with_reducible first | exact HB.out | apply below_alloc | apply pw_below_drewN | apply below_drew1) | exact HB.out)⟩
  · replace c4 := Bool.eq_false_iff.mpr c4
    subst c4
    have H1 : (some false) = some r := by rw [if_neg (show ¬ (false = true) by decide)] at H; exact H
    clear H
    have H := H1
    clear H1
    obtain rfl := Option.some.inj H
    go_enter Try.func12, Try.ntmps12
    go_wp2_with (first | ((with_reducible refine gate_dst (N := 7) rfl ?_); refine Kd.S_lit k32 _ 32 ?hg (N := 7) ?hd (xs := ([(⟨1, 0, 7, 0, 0, 1, 0, 1, 0, 0, 0, ([] : List (S80))⟩ : S32), (⟨2, 0, 0, 9, 0, 5, 0, 1, 0, 0, 0, ([] : List (S80))⟩ : S32), (⟨3, 0, 0, 0, 0, 1, 0, 1, 0, 0, 0, ([] : List (S80))⟩ : S32), (⟨4, 0, 0, 0, 0, 9, 0, 2, 0, 0, 0, ([] : List (S80))⟩ : S32)] : List (S32))) (inner := [.int .i64 1, .int .i64 0, .int .i64 7, .int .i64 0, .int .i64 0, .int .i64 1, .int .i64 0, .int .i64 1, .int .i64 0, .int .i64 0, .int .i64 0, .slice none 0 0, .int .i64 2, .int .i64 0, .int .i64 0, .int .i64 9, .int .i64 0, .int .i64 5, .int .i64 0, .int .i64 1, .int .i64 0, .int .i64 0, .int .i64 0, .slice none 0 0, .int .i64 3, .int .i64 0, .int .i64 0, .int .i64 0, .int .i64 0, .int .i64 1, .int .i64 0, .int .i64 1, .int .i64 0, .int .i64 0, .int .i64 0, .slice none 0 0, .int .i64 4, .int .i64 0, .int .i64 0, .int .i64 0, .int .i64 0, .int .i64 9, .int .i64 0, .int .i64 2, .int .i64 0, .int .i64 0, .int .i64 0, .slice none 0 0]) (ok := fun _ => True) (okp := fun _ => True) ?hr ?hp (fun _ hk => hk) trivial (Below.refl _ _) (Nat.le_refl _) (by simp) ?_; (case hd => rfl); (case hg => rfl); (case hr => first | (go_simp; done) | (go_simp; rfl)); (case hp => exact (Reps.front (show Kd.M k32 _ _ _ (⟨1, 0, 7, 0, 0, 1, 0, 1, 0, 0, 0, ([] : List (S80))⟩ : S32) [.int .i64 1, .int .i64 0, .int .i64 7, .int .i64 0, .int .i64 0, .int .i64 1, .int .i64 0, .int .i64 1, .int .i64 0, .int .i64 0, .int .i64 0, .slice none 0 0] from (k32_mkM _ _ _ (⟨1, 0, 7, 0, 0, 1, 0, 1, 0, 0, 0, ([] : List (S80))⟩ : S32) (Kd.R_nil _ _ _ _ _))) rfl (Reps.front (show Kd.M k32 _ _ _ (⟨2, 0, 0, 9, 0, 5, 0, 1, 0, 0, 0, ([] : List (S80))⟩ : S32) [.int .i64 2, .int .i64 0, .int .i64 0, .int .i64 9, .int .i64 0, .int .i64 5, .int .i64 0, .int .i64 1, .int .i64 0, .int .i64 0, .int .i64 0, .slice none 0 0] from (k32_mkM _ _ _ (⟨2, 0, 0, 9, 0, 5, 0, 1, 0, 0, 0, ([] : List (S80))⟩ : S32) (Kd.R_nil _ _ _ _ _))) rfl (Reps.front (show Kd.M k32 _ _ _ (⟨3, 0, 0, 0, 0, 1, 0, 1, 0, 0, 0, ([] : List (S80))⟩ : S32) [.int .i64 3, .int .i64 0, .int .i64 0, .int .i64 0, .int .i64 0, .int .i64 1, .int .i64 0, .int .i64 1, .int .i64 0, .int .i64 0, .int .i64 0, .slice none 0 0] from (k32_mkM _ _ _ (⟨3, 0, 0, 0, 0, 1, 0, 1, 0, 0, 0, ([] : List (S80))⟩ : S32) (Kd.R_nil _ _ _ _ _))) rfl (Reps.front (show Kd.M k32 _ _ _ (⟨4, 0, 0, 0, 0, 9, 0, 2, 0, 0, 0, ([] : List (S80))⟩ : S32) [.int .i64 4, .int .i64 0, .int .i64 0, .int .i64 0, .int .i64 0, .int .i64 9, .int .i64 0, .int .i64 2, .int .i64 0, .int .i64 0, .int .i64 0, .slice none 0 0] from (k32_mkM _ _ _ (⟨4, 0, 0, 0, 0, 9, 0, 2, 0, 0, 0, ([] : List (S80))⟩ : S32) (Kd.R_nil _ _ _ _ _))) rfl (Reps.none _ _) rfl) rfl) rfl) rfl)); intro v229 w39 ho40 hb hg_ hnew_; clear hg_ hnew_; (first | rw [← Ny228.out] at ho40 | (simp only [Int.reduceToNat] at ho40; rw [← Ny228.out] at ho40)); have n0_ := Aside0.mk (Kd.S_lower ho40 (below_size (by repeat (first | (with_reducible first | exact HB.out | apply below_alloc | apply pw_below_drewN | apply below_drew1) | exact HB.out)))); have n1_ := Aside0.mk (below_step (by repeat (first | (with_reducible first | exact HB.out | apply below_alloc | apply pw_below_drewN | apply below_drew1) | exact HB.out)) hb); clear HB; have HO230 := n0_; have HB := n1_; clear n0_ n1_; clear hb ho40; obtain ⟨Ao41, co41, eo41⟩ := Kd.S_slice HO230.out; subst eo41) | ((with_reducible refine gate_callee (f := 11) rfl ?_); refine goesL_ (some 9) rfl rfl Try.func11 (by kernel_rfl) rfl #[.slice Ao41 y228.length co41] rfl (by (try simp only [List.map_toArray, List.map_cons, List.map_nil]); first | done | rfl | (simp only [List.length_drop, List.length_take]; rfl)) ?_; (with_reducible refine (order_Asks.calls k _ _ y228 t231 _ ?side1 ?side2 A1.out).mono ?_); (case side1 => repeat (first | exact (Kd.S_reads' HO230.out).2.2 | (with_reducible refine Kd.C_alloc ?_ _) | (with_reducible refine Kd.C_drewN ?_ _) | (with_reducible refine Kd.C_drew ?_))); (case side2 => exact (Kd.S_reads' HO230.out).2.1); rintro e w42 ⟨v232, rfl, ho0, hb⟩; refine ⟨_, rfl, ?_⟩; have n0_ := Aside0.mk (Kd.S_below (by (with_reducible repeat (first | apply Kd.S_alloc | apply Kd.S_drewN | apply Kd.S_drew)); exact HO230.out) hb); have n1_ := Aside0.mk (Kd.V_lower (Kd.V_mono (ok' := fun k_ => some k_ ≠ (.slice Ao41 y228.length co41 : Value).ownBlock) ho0 (fun k_ hk_ => (Kd.fresh' (Kd.S_lt (by (with_reducible repeat (first | apply Kd.S_alloc | apply Kd.S_drewN | apply Kd.S_drew)); exact HO230.out)) k_ hk_))) (below_size (by repeat (first | (with_reducible first | exact HB.out | apply below_alloc | apply pw_below_drewN | apply below_drew1) | exact HB.out)))); have n2_ := Aside0.mk (below_step (by repeat (first | (with_reducible first | exact HB.out | apply below_alloc | apply pw_below_drewN | apply below_drew1) | exact HB.out)) hb); clear HO230; clear HB; have HO230 := n0_; have HO233 := n1_; have HB := n2_; clear n0_ n1_ n2_; (try clear hb); (try clear hb2); (try clear hk); (try clear hi); (try clear ho0)) | ((with_reducible refine gate_callee (f := 14) rfl ?_); refine goesL_ (some 11) rfl rfl Try.func14 (by kernel_rfl) rfl #[.slice Ao41 y228.length co41] rfl (by (try simp only [List.map_toArray, List.map_cons, List.map_nil]); first | done | rfl | (simp only [List.length_drop, List.length_take]; rfl)) ?_; (with_reducible refine (order_Order.calls k _ _ y228 t234 _ ?side1 ?side2 A2.out).mono ?_); (case side1 => repeat (first | exact (Kd.S_reads' HO230.out).2.2 | (with_reducible refine Kd.C_alloc ?_ _) | (with_reducible refine Kd.C_drewN ?_ _) | (with_reducible refine Kd.C_drew ?_))); (case side2 => exact (Kd.S_reads' HO230.out).2.1); rintro e w43 ⟨v235, rfl, ho0, hb⟩; refine ⟨_, rfl, ?_⟩; have n0_ := Aside0.mk (Kd.S_below (by (with_reducible repeat (first | apply Kd.S_alloc | apply Kd.S_drewN | apply Kd.S_drew)); exact HO230.out) hb); have n1_ := Aside0.mk (Kd.V_below (by (with_reducible repeat (first | apply Kd.V_alloc | apply Kd.V_drewN | apply Kd.V_drew)); exact HO233.out) hb); have n2_ := Aside0.mk (Kd.V_lower (Kd.V_mono (ok' := fun k_ => some k_ ≠ (.slice Ao41 y228.length co41 : Value).ownBlock) ho0 (fun k_ hk_ => (Kd.fresh' (Kd.S_lt (by (with_reducible repeat (first | apply Kd.S_alloc | apply Kd.S_drewN | apply Kd.S_drew)); exact HO230.out)) k_ hk_))) (below_size (by repeat (first | (with_reducible first | exact HB.out | apply below_alloc | apply pw_below_drewN | apply below_drew1) | exact HB.out)))); have n3_ := Aside0.mk (below_step (by repeat (first | (with_reducible first | exact HB.out | apply below_alloc | apply pw_below_drewN | apply below_drew1) | exact HB.out)) hb); clear HO230; clear HO233; clear HB; have HO230 := n0_; have HO233 := n1_; have HO236 := n2_; have HB := n3_; clear n0_ n1_ n2_ n3_; (try clear hb); (try clear hb2); (try clear hk); (try clear hi); (try clear ho0)) | ((with_reducible refine gate_dst (N := 12) rfl ?_); refine Kd.R_lit (Kd.int .i64) _ 3 ?hg (N := 12) ?hd (xs := ([1, 0, 2] : List Int)) (inner := [.int .i64 1, .int .i64 0, .int .i64 2]) (ok := fun _ => True) (okp := fun _ => True) ?hr ?hp (fun _ hk => hk) trivial (Below.refl _ _) (Nat.le_refl _) (by simp) ?_; (case hd => rfl); (case hg => rfl); (case hr => first | (go_simp; done) | (go_simp; rfl)); (case hp => exact (Reps.one (show Kd.M (Kd.int .i64) _ _ _ 1 [.int .i64 1] from rfl) (Reps.one (show Kd.M (Kd.int .i64) _ _ _ 0 [.int .i64 0] from rfl) (Reps.one (show Kd.M (Kd.int .i64) _ _ _ 2 [.int .i64 2] from rfl) (Reps.none _ _))))); intro v238 w44 ho45 hb hg_ hnew_; clear hg_ hnew_; (first | rw [← Ny237.out] at ho45 | (simp only [Int.reduceToNat] at ho45; rw [← Ny237.out] at ho45)); have n0_ := Aside0.mk (Kd.S_below (by (with_reducible repeat (first | apply Kd.S_alloc | apply Kd.S_drewN | apply Kd.S_drew)); exact HO230.out) hb); have n1_ := Aside0.mk (Kd.V_elder' (by (with_reducible repeat (first | apply Kd.V_alloc | apply Kd.V_drewN | apply Kd.V_drew)); exact HO233.out) (Kd.R_base ho45) hb); have n2_ := Aside0.mk (Kd.V_elder' (by (with_reducible repeat (first | apply Kd.V_alloc | apply Kd.V_drewN | apply Kd.V_drew)); exact HO236.out) (Kd.R_base ho45) hb); have n3_ := Aside0.mk (Kd.R_lower ho45 (below_size (by repeat (first | (with_reducible first | exact HB.out | apply below_alloc | apply pw_below_drewN | apply below_drew1) | exact HB.out)))); have n4_ := Aside0.mk (below_step (by repeat (first | (with_reducible first | exact HB.out | apply below_alloc | apply pw_below_drewN | apply below_drew1) | exact HB.out)) hb); clear HO230; clear HO233; clear HO236; clear HB; have HO230 := n0_; have HO233 := n1_; have HO236 := n2_; have HO239 := n3_; have HB := n4_; clear n0_ n1_ n2_ n3_ n4_; clear hb ho45; obtain ⟨Ao46, co46, eo46⟩ := Kd.V_slice HO236.out; subst eo46; obtain ⟨Ao47, co47, eo47⟩ := Kd.R_slice HO239.out; subst eo47) | ((with_reducible refine gate_callee (f := 13) rfl ?_); refine goesL_ (some 13) rfl rfl Try.func13 (by kernel_rfl) rfl #[.slice Ao46 t234.length co46, .slice Ao47 y237.length co47] rfl (by (try simp only [List.map_toArray, List.map_cons, List.map_nil]); first | done | rfl | (simp only [List.length_drop, List.length_take]; rfl)) ?_; (with_reducible refine (prebendref01_Ints.calls k _ _ t234 _ _ y237 false _ ?side1 ?side2 ?side3 ?side4 A3.out).mono ?_); (case side1 => repeat (first | exact (Kd.V_reads' HO236.out).2.2 | (with_reducible refine Kd.C_alloc ?_ _) | (with_reducible refine Kd.C_drewN ?_ _) | (with_reducible refine Kd.C_drew ?_))); (case side2 => exact (Kd.V_reads' HO236.out).2.1); (case side3 => repeat (first | exact (Kd.R_reads' HO239.out).2.2 | (with_reducible refine Kd.C_alloc ?_ _) | (with_reducible refine Kd.C_drewN ?_ _) | (with_reducible refine Kd.C_drew ?_))); (case side4 => exact (Kd.R_reads' HO239.out).2.1); rintro e w' ⟨rfl, ⟨nd, rfl⟩⟩; refine ⟨_, rfl, ?_⟩))
    go_ret
    exact ⟨by first | rfl | (simp [errW_none, errW_some] <;> rfl) | (simp [*, errW_none, errW_some] <;> rfl), by repeat (first | (with_reducible first | exact HB.out | apply below_alloc | apply pw_below_drewN | apply below_drew1) | exact HB.out)⟩

end Go.Proofs.Ytkhfgflcanmefaa.PAll
end
section
namespace Go.Proofs.Ytkhfgflcanmefaa.PAll
open Go.RowKit Go.Proofs.YtkhfgflcanmefaaW.PrintWords Go.Proofs.YtkhfgflcanmefaaW.PrintLast Go.Proofs.YtkhfgflcanmefaaW.PrintMore
attribute [local go_sem] max2_int min2_int max_two min_two max_three min_three max_four min_four   -- for this text's walks alone
set_option linter.unusedVariables false
set_option linter.unusedSimpArgs false

def prebendlaw15_OrderQueues.l0 : Nat → List (S32) → List Int → List (S29) → Int → Option (Bool)
  | 0, _, _, _, _ => none
  | k + 1, x3, x4, x5, x6 => if x6 < (x5.length : Int) then (if 0 ≤ x6 then (if x6 < (x4.length : Int) then (if 0 ≤ (rd x4 x6) then (if (rd x4 x6) < (x3.length : Int) then (if ((rd_T29 x5 x6).f0) = ((rd_T32 x3 (rd x4 x6)).f2) then (if ((rd_T29 x5 x6).f1) = ((rd_T32 x3 (rd x4 x6)).f3) then (prebendlaw15_OrderQueues.l0 k x3 x4 x5 (wrap64 (x6 + 1))) else (some false)) else (some false)) else (none)) else (none)) else (none)) else (none)) else ((prebendlaw15_awake.f k).bind fun t254 => (if t254 = true then ((order_Order.f k x3).bind fun t255 => ((prebendref01_Ints.f k t255 x4).bind fun t258 => (some t258))) else (some false)))
def prebendlaw15_OrderQueues.f (k : Nat) (l0 : List (S32)) : Option (Bool) := (prebendlaw15_few.f l0).bind fun t239 => ((prebendref15_Order.f k t239).bind fun t242 => ((order_Asks.f k t239).bind fun t245 => (if (t245.length : Int) = (t242.length : Int) then (prebendlaw15_OrderQueues.l0 k t239 t242 t245 0) else (some false))))
theorem prebendlaw15_OrderQueues.mono_l : ∀ k, (∀ y0 y1 y2 y3, LeO (prebendlaw15_OrderQueues.l0 k y0 y1 y2 y3) (prebendlaw15_OrderQueues.l0 (k + 1) y0 y1 y2 y3))
  | 0 => fun _ _ _ _ r h => by simp [prebendlaw15_OrderQueues.l0] at h
  | k + 1 => by
    have ih0 := prebendlaw15_OrderQueues.mono_l k
    · intro y0 y1 y2 y3
      unfold prebendlaw15_OrderQueues.l0
      repeat' first
      | (with_reducible exact ih0 _ _ _ _)
      | (with_reducible exact order_Asks.mono _ _)
      | (with_reducible exact order_Order.mono _ _)
      | (with_reducible exact prebendlaw15_awake.mono _)
      | (with_reducible exact prebendref01_Ints.mono _ _ _)
      | (with_reducible exact prebendref15_Order.mono _ _)
      | (with_reducible exact LeO.refl _)
      | (with_reducible exact LeO.none _)
      | (with_reducible refine LeO.ite ?_ ?_)
      | (with_reducible refine LeO.bind ?_ (fun _ => ?_))
      | exact ih0 _ _ _ _
      | exact order_Asks.mono _ _
      | exact order_Order.mono _ _
      | exact prebendlaw15_awake.mono _
      | exact prebendref01_Ints.mono _ _ _
      | exact prebendref15_Order.mono _ _
      | exact LeO.none _
      | refine LeO.ite ?_ ?_
      | refine LeO.bind ?_ (fun _ => ?_)
theorem prebendlaw15_OrderQueues.mono : ∀ a0 k, LeO (prebendlaw15_OrderQueues.f k a0) (prebendlaw15_OrderQueues.f (k + 1) a0) := by
  intro a0 k
  have ih0 := prebendlaw15_OrderQueues.mono_l k
  unfold prebendlaw15_OrderQueues.f
  repeat' first
      | (with_reducible exact ih0 _ _ _ _)
      | (with_reducible exact order_Asks.mono _ _)
      | (with_reducible exact order_Order.mono _ _)
      | (with_reducible exact prebendlaw15_awake.mono _)
      | (with_reducible exact prebendref01_Ints.mono _ _ _)
      | (with_reducible exact prebendref15_Order.mono _ _)
      | (with_reducible exact LeO.refl _)
      | (with_reducible exact LeO.none _)
      | (with_reducible refine LeO.ite ?_ ?_)
      | (with_reducible refine LeO.bind ?_ (fun _ => ?_))
      | exact ih0 _ _ _ _
      | exact order_Asks.mono _ _
      | exact order_Order.mono _ _
      | exact prebendlaw15_awake.mono _
      | exact prebendref01_Ints.mono _ _ _
      | exact prebendref15_Order.mono _ _
      | exact LeO.none _
      | refine LeO.ite ?_ ?_
      | refine LeO.bind ?_ (fun _ => ?_)
set_option maxHeartbeats 8000000 in
set_option maxRecDepth 100000 in
theorem prebendlaw15_OrderQueues.calls (k : Nat) (A0 : Option Addr) (c0 : Nat) (l0 : List (S32)) (r : Bool) (w : World) (hr0 : Kd.C k32 w A0 l0.length l0) (hc0 : l0.length ≤ c0) (h : prebendlaw15_OrderQueues.f k l0 = some r) :
    Calls Try.prog 3 #[.slice A0 l0.length c0] w fun e w' => e = .returned (.bool r) ∧ Below w.heap.size w w' := by
  have HR0 := Aside0.mk hr0
  have HC0 := Aside0.mk hc0
  clear hr0 hc0
  have HB := Aside0.mk (Below.refl w.heap.size w)
  have H : ((prebendlaw15_few.f l0).bind fun t239 => ((prebendref15_Order.f k t239).bind fun t242 => ((order_Asks.f k t239).bind fun t245 => (if (t245.length : Int) = (t242.length : Int) then (prebendlaw15_OrderQueues.l0 k t239 t242 t245 0) else (some false))))) = some r := h
  clear h
  replace H := Option.bind_eq_some_iff.mp H
  obtain ⟨t239, A20, H⟩ := H
  replace H : ((prebendref15_Order.f k t239).bind fun t242 => ((order_Asks.f k t239).bind fun t245 => (if (t245.length : Int) = (t242.length : Int) then (prebendlaw15_OrderQueues.l0 k t239 t242 t245 0) else (some false)))) = some r := H
  have A2 := Aside0.mk A20
  clear A20
  replace H := Option.bind_eq_some_iff.mp H
  obtain ⟨t242, A30, H⟩ := H
  replace H : ((order_Asks.f k t239).bind fun t245 => (if (t245.length : Int) = (t242.length : Int) then (prebendlaw15_OrderQueues.l0 k t239 t242 t245 0) else (some false))) = some r := H
  have A3 := Aside0.mk A30
  clear A30
  replace H := Option.bind_eq_some_iff.mp H
  obtain ⟨t245, A40, H⟩ := H
  replace H : (if (t245.length : Int) = (t242.length : Int) then (prebendlaw15_OrderQueues.l0 k t239 t242 t245 0) else (some false)) = some r := H
  have A4 := Aside0.mk A40
  clear A40
  by_cases c5 : (t245.length : Int) = (t242.length : Int)
  · rw [if_pos c5] at H
    have c5b0 : ((t245.length : Int) == (t242.length : Int)) = true := beq_iff_eq.mpr c5
    have c5b1 : ((t245.length : Int) != (t242.length : Int)) = false := bne_eq_false_iff_eq.mpr c5
    have c5b2 : (t245.length == t242.length) = true := by first | simpa using c5 | (simp at c5 ⊢; omega)
    clear c5
    have H' := Aside0.mk H
    clear H
    go_enter Try.func3, Try.ntmps3
    go_wp2_with (first | (go_at_call 9; (with_reducible refine (prebendlaw15_few.calls (fun k_ => k_ < w.heap.size) _ _ l0 t239 _ ?side1 A2.out).mono ?_); (case side1 => exact Kd.V_mk HC0.out (Kd.F_below (Kd.C_F k32_heap HR0.out) (by repeat (first | (with_reducible first | exact HB.out | apply below_alloc | apply pw_below_drewN | apply below_drew1) | exact HB.out)))); rintro e w6 ⟨v240, rfl, ho0, hb⟩; have n0_ := Aside0.mk (Kd.V_lower (Kd.V_mono (ok' := fun k_ => True) ho0 (fun k_ hk_ => trivial)) (below_size (by repeat (first | (with_reducible first | exact HB.out | apply below_alloc | apply pw_below_drewN | apply below_drew1) | exact HB.out)))); have n1_ := Aside0.mk (below_step (by repeat (first | (with_reducible first | exact HB.out | apply below_alloc | apply pw_below_drewN | apply below_drew1) | exact HB.out)) hb); clear HB; have HO241 := n0_; have HB := n1_; clear n0_ n1_; (try clear hb); (try clear hb2); (try clear hk); (try clear hi); (try clear ho0); obtain ⟨Ao7, co7, eo7⟩ := Kd.V_slice HO241.out; subst eo7) | (go_at_call 10; (with_reducible refine (prebendref15_Order.calls k _ _ t239 t242 _ ?side1 ?side2 A3.out).mono ?_); (case side1 => repeat (first | exact (Kd.V_reads' HO241.out).2.2 | (with_reducible refine Kd.C_alloc ?_ _) | (with_reducible refine Kd.C_drewN ?_ _) | (with_reducible refine Kd.C_drew ?_))); (case side2 => exact (Kd.V_reads' HO241.out).2.1); rintro e w8 ⟨v243, rfl, ho0, hb⟩; have n0_ := Aside0.mk (Kd.V_elder' (by (with_reducible repeat (first | apply Kd.V_alloc | apply Kd.V_drewN | apply Kd.V_drew)); exact HO241.out) (Kd.R_base ho0) hb); have n1_ := Aside0.mk (Kd.R_lower ho0 (below_size (by repeat (first | (with_reducible first | exact HB.out | apply below_alloc | apply pw_below_drewN | apply below_drew1) | exact HB.out)))); have n2_ := Aside0.mk (below_step (by repeat (first | (with_reducible first | exact HB.out | apply below_alloc | apply pw_below_drewN | apply below_drew1) | exact HB.out)) hb); clear HO241; clear HB; have HO241 := n0_; have HO244 := n1_; have HB := n2_; clear n0_ n1_ n2_; (try clear hb); (try clear hb2); (try clear hk); (try clear hi); (try clear ho0)) | (go_at_call 11; (with_reducible refine (order_Asks.calls k _ _ t239 t245 _ ?side1 ?side2 A4.out).mono ?_); (case side1 => repeat (first | exact (Kd.V_reads' HO241.out).2.2 | (with_reducible refine Kd.C_alloc ?_ _) | (with_reducible refine Kd.C_drewN ?_ _) | (with_reducible refine Kd.C_drew ?_))); (case side2 => exact (Kd.V_reads' HO241.out).2.1); rintro e w9 ⟨v246, rfl, ho0, hb⟩; have n0_ := Aside0.mk (Kd.V_below (by (with_reducible repeat (first | apply Kd.V_alloc | apply Kd.V_drewN | apply Kd.V_drew)); exact HO241.out) hb); have n1_ := Aside0.mk (Kd.R_below (by (with_reducible repeat (first | apply Kd.R_alloc | apply Kd.R_drewN | apply Kd.R_drew)); exact HO244.out) hb); have n2_ := Aside0.mk (Kd.V_lower (Kd.V_mono (ok' := fun k_ => some k_ ≠ (v243 : Value).ownBlock) ho0 (fun k_ hk_ => (Kd.fresh' (Kd.R_lt (by (with_reducible repeat (first | apply Kd.R_alloc | apply Kd.R_drewN | apply Kd.R_drew)); exact HO244.out)) k_ hk_))) (below_size (by repeat (first | (with_reducible first | exact HB.out | apply below_alloc | apply pw_below_drewN | apply below_drew1) | exact HB.out)))); have n3_ := Aside0.mk (below_step (by repeat (first | (with_reducible first | exact HB.out | apply below_alloc | apply pw_below_drewN | apply below_drew1) | exact HB.out)) hb); clear HO241; clear HO244; clear HB; have HO241 := n0_; have HO244 := n1_; have HO247 := n2_; have HB := n3_; clear n0_ n1_ n2_ n3_; (try clear hb); (try clear hb2); (try clear hk); (try clear hi); (try clear ho0); obtain ⟨Ao10, co10, eo10⟩ := Kd.V_slice HO247.out; subst eo10; obtain ⟨Ao11, co11, eo11⟩ := Kd.R_slice HO244.out; subst eo11))
    repeat (go_quiet (first | (go_at_call 9; (with_reducible refine (prebendlaw15_few.calls (fun k_ => k_ < w.heap.size) _ _ l0 t239 _ ?side1 A2.out).mono ?_); (case side1 => exact Kd.V_mk HC0.out (Kd.F_below (Kd.C_F k32_heap HR0.out) (by repeat (first | (with_reducible first | exact HB.out | apply below_alloc | apply pw_below_drewN | apply below_drew1) | exact HB.out)))); rintro e w6 ⟨v240, rfl, ho0, hb⟩; have n0_ := Aside0.mk (Kd.V_lower (Kd.V_mono (ok' := fun k_ => True) ho0 (fun k_ hk_ => trivial)) (below_size (by repeat (first | (with_reducible first | exact HB.out | apply below_alloc | apply pw_below_drewN | apply below_drew1) | exact HB.out)))); have n1_ := Aside0.mk (below_step (by repeat (first | (with_reducible first | exact HB.out | apply below_alloc | apply pw_below_drewN | apply below_drew1) | exact HB.out)) hb); clear HB; have HO241 := n0_; have HB := n1_; clear n0_ n1_; (try clear hb); (try clear hb2); (try clear hk); (try clear hi); (try clear ho0); obtain ⟨Ao7, co7, eo7⟩ := Kd.V_slice HO241.out; subst eo7) | (go_at_call 10; (with_reducible refine (prebendref15_Order.calls k _ _ t239 t242 _ ?side1 ?side2 A3.out).mono ?_); (case side1 => repeat (first | exact (Kd.V_reads' HO241.out).2.2 | (with_reducible refine Kd.C_alloc ?_ _) | (with_reducible refine Kd.C_drewN ?_ _) | (with_reducible refine Kd.C_drew ?_))); (case side2 => exact (Kd.V_reads' HO241.out).2.1); rintro e w8 ⟨v243, rfl, ho0, hb⟩; have n0_ := Aside0.mk (Kd.V_elder' (by (with_reducible repeat (first | apply Kd.V_alloc | apply Kd.V_drewN | apply Kd.V_drew)); exact HO241.out) (Kd.R_base ho0) hb); have n1_ := Aside0.mk (Kd.R_lower ho0 (below_size (by repeat (first | (with_reducible first | exact HB.out | apply below_alloc | apply pw_below_drewN | apply below_drew1) | exact HB.out)))); have n2_ := Aside0.mk (below_step (by repeat (first | (with_reducible first | exact HB.out | apply below_alloc | apply pw_below_drewN | apply below_drew1) | exact HB.out)) hb); clear HO241; clear HB; have HO241 := n0_; have HO244 := n1_; have HB := n2_; clear n0_ n1_ n2_; (try clear hb); (try clear hb2); (try clear hk); (try clear hi); (try clear ho0)) | (go_at_call 11; (with_reducible refine (order_Asks.calls k _ _ t239 t245 _ ?side1 ?side2 A4.out).mono ?_); (case side1 => repeat (first | exact (Kd.V_reads' HO241.out).2.2 | (with_reducible refine Kd.C_alloc ?_ _) | (with_reducible refine Kd.C_drewN ?_ _) | (with_reducible refine Kd.C_drew ?_))); (case side2 => exact (Kd.V_reads' HO241.out).2.1); rintro e w9 ⟨v246, rfl, ho0, hb⟩; have n0_ := Aside0.mk (Kd.V_below (by (with_reducible repeat (first | apply Kd.V_alloc | apply Kd.V_drewN | apply Kd.V_drew)); exact HO241.out) hb); have n1_ := Aside0.mk (Kd.R_below (by (with_reducible repeat (first | apply Kd.R_alloc | apply Kd.R_drewN | apply Kd.R_drew)); exact HO244.out) hb); have n2_ := Aside0.mk (Kd.V_lower (Kd.V_mono (ok' := fun k_ => some k_ ≠ (v243 : Value).ownBlock) ho0 (fun k_ hk_ => (Kd.fresh' (Kd.R_lt (by (with_reducible repeat (first | apply Kd.R_alloc | apply Kd.R_drewN | apply Kd.R_drew)); exact HO244.out)) k_ hk_))) (below_size (by repeat (first | (with_reducible first | exact HB.out | apply below_alloc | apply pw_below_drewN | apply below_drew1) | exact HB.out)))); have n3_ := Aside0.mk (below_step (by repeat (first | (with_reducible first | exact HB.out | apply below_alloc | apply pw_below_drewN | apply below_drew1) | exact HB.out)) hb); clear HO241; clear HO244; clear HB; have HO241 := n0_; have HO244 := n1_; have HO247 := n2_; have HB := n3_; clear n0_ n1_ n2_ n3_; (try clear hb); (try clear hb2); (try clear hk); (try clear hi); (try clear ho0); obtain ⟨Ao10, co10, eo10⟩ := Kd.V_slice HO247.out; subst eo10; obtain ⟨Ao11, co11, eo11⟩ := Kd.R_slice HO244.out; subst eo11)); try go_wp2_with (first | (go_at_call 9; (with_reducible refine (prebendlaw15_few.calls (fun k_ => k_ < w.heap.size) _ _ l0 t239 _ ?side1 A2.out).mono ?_); (case side1 => exact Kd.V_mk HC0.out (Kd.F_below (Kd.C_F k32_heap HR0.out) (by repeat (first | (with_reducible first | exact HB.out | apply below_alloc | apply pw_below_drewN | apply below_drew1) | exact HB.out)))); rintro e w6 ⟨v240, rfl, ho0, hb⟩; have n0_ := Aside0.mk (Kd.V_lower (Kd.V_mono (ok' := fun k_ => True) ho0 (fun k_ hk_ => trivial)) (below_size (by repeat (first | (with_reducible first | exact HB.out | apply below_alloc | apply pw_below_drewN | apply below_drew1) | exact HB.out)))); have n1_ := Aside0.mk (below_step (by repeat (first | (with_reducible first | exact HB.out | apply below_alloc | apply pw_below_drewN | apply below_drew1) | exact HB.out)) hb); clear HB; have HO241 := n0_; have HB := n1_; clear n0_ n1_; (try clear hb); (try clear hb2); (try clear hk); (try clear hi); (try clear ho0); obtain ⟨Ao7, co7, eo7⟩ := Kd.V_slice HO241.out; subst eo7) | (go_at_call 10; (with_reducible refine (prebendref15_Order.calls k _ _ t239 t242 _ ?side1 ?side2 A3.out).mono ?_); (case side1 => repeat (first | exact (Kd.V_reads' HO241.out).2.2 | (with_reducible refine Kd.C_alloc ?_ _) | (with_reducible refine Kd.C_drewN ?_ _) | (with_reducible refine Kd.C_drew ?_))); (case side2 => exact (Kd.V_reads' HO241.out).2.1); rintro e w8 ⟨v243, rfl, ho0, hb⟩; have n0_ := Aside0.mk (Kd.V_elder' (by (with_reducible repeat (first | apply Kd.V_alloc | apply Kd.V_drewN | apply Kd.V_drew)); exact HO241.out) (Kd.R_base ho0) hb); have n1_ := Aside0.mk (Kd.R_lower ho0 (below_size (by repeat (first | (with_reducible first | exact HB.out | apply below_alloc | apply pw_below_drewN | apply below_drew1) | exact HB.out)))); have n2_ := Aside0.mk (below_step (by repeat (first | (with_reducible first | exact HB.out | apply below_alloc | apply pw_below_drewN | apply below_drew1) | exact HB.out)) hb); clear HO241; clear HB; have HO241 := n0_; have HO244 := n1_; have HB := n2_; clear n0_ n1_ n2_; (try clear hb); (try clear hb2); (try clear hk); (try clear hi); (try clear ho0)) | (go_at_call 11; (with_reducible refine (order_Asks.calls k _ _ t239 t245 _ ?side1 ?side2 A4.out).mono ?_); (case side1 => repeat (first | exact (Kd.V_reads' HO241.out).2.2 | (with_reducible refine Kd.C_alloc ?_ _) | (with_reducible refine Kd.C_drewN ?_ _) | (with_reducible refine Kd.C_drew ?_))); (case side2 => exact (Kd.V_reads' HO241.out).2.1); rintro e w9 ⟨v246, rfl, ho0, hb⟩; have n0_ := Aside0.mk (Kd.V_below (by (with_reducible repeat (first | apply Kd.V_alloc | apply Kd.V_drewN | apply Kd.V_drew)); exact HO241.out) hb); have n1_ := Aside0.mk (Kd.R_below (by (with_reducible repeat (first | apply Kd.R_alloc | apply Kd.R_drewN | apply Kd.R_drew)); exact HO244.out) hb); have n2_ := Aside0.mk (Kd.V_lower (Kd.V_mono (ok' := fun k_ => some k_ ≠ (v243 : Value).ownBlock) ho0 (fun k_ hk_ => (Kd.fresh' (Kd.R_lt (by (with_reducible repeat (first | apply Kd.R_alloc | apply Kd.R_drewN | apply Kd.R_drew)); exact HO244.out)) k_ hk_))) (below_size (by repeat (first | (with_reducible first | exact HB.out | apply below_alloc | apply pw_below_drewN | apply below_drew1) | exact HB.out)))); have n3_ := Aside0.mk (below_step (by repeat (first | (with_reducible first | exact HB.out | apply below_alloc | apply pw_below_drewN | apply below_drew1) | exact HB.out)) hb); clear HO241; clear HO244; clear HB; have HO241 := n0_; have HO244 := n1_; have HO247 := n2_; have HB := n3_; clear n0_ n1_ n2_ n3_; (try clear hb); (try clear hb2); (try clear hk); (try clear hi); (try clear ho0); obtain ⟨Ao10, co10, eo10⟩ := Kd.V_slice HO247.out; subst eo10; obtain ⟨Ao11, co11, eo11⟩ := Kd.R_slice HO244.out; subst eo11)))
    go_loopg [6] k (fun kq v6 w' => ∃ (x6_1 : Int), v6 = .int .i64 x6_1 ∧ Aside0 (prebendlaw15_OrderQueues.l0 kq t239 t242 t245 x6_1 = some r) ∧ Aside0 (kq ≤ k) ∧ Aside0 (Kd.V k32 32 w' w.heap.size (fun k_ => some k_ ≠ ((.slice Ao11 t242.length co11) : Value).ownBlock) (.slice Ao7 t239.length co7) t239) ∧ Aside0 (Kd.R (Kd.int .i64) 3 w' w.heap.size (fun _ => True) (.slice Ao11 t242.length co11) t242) ∧ Aside0 (Kd.V k29 29 w' w.heap.size (fun k_ => some k_ ≠ ((.slice Ao11 t242.length co11) : Value).ownBlock) (.slice Ao10 t245.length co10) t245) ∧ Aside0 (Below w.heap.size w w'))
    case atStart => exact ⟨(0), (by first | rfl | (simp; done) | (simp [*]; done)), H', ⟨Nat.le_refl _⟩, ⟨by (with_reducible repeat (first | apply Kd.V_alloc | apply Kd.V_drewN | apply Kd.V_drew)); exact Kd.V_mono HO241.out (fun _ hk => hk.2)⟩, ⟨by (with_reducible repeat (first | apply Kd.R_alloc | apply Kd.R_drewN | apply Kd.R_drew)); exact HO244.out⟩, ⟨by (with_reducible repeat (first | apply Kd.V_alloc | apply Kd.V_drewN | apply Kd.V_drew)); exact HO247.out⟩, ⟨by repeat (first | (with_reducible first | exact HB.out | apply below_alloc | apply pw_below_drewN | apply below_drew1) | exact HB.out)⟩⟩
    case round =>
      clear H'
      try clear p2
      try clear c3
      try clear c5
      try clear c5b0
      try clear c5b1
      try clear c5b2
      obtain ⟨x6_1, rfl, HA, HK1, HO_3, HO_4, HO_5, HB⟩ := hrel
      cases gk with
      | zero => exact absurd HA.out (by simp [prebendlaw15_OrderQueues.l0])
      | succ k1 =>
        have H := HA.out
        clear HA
        simp only [prebendlaw15_OrderQueues.l0] at H
        by_cases c12 : x6_1 < (t245.length : Int)
        · rw [if_pos c12] at H
          have c12b0 : decide (x6_1 < (t245.length : Int)) = true := decide_eq_true c12
          clear c12
          by_cases c13 : 0 ≤ x6_1
          · rw [if_pos c13] at H
            have c13b0 : decide (0 ≤ x6_1) = true := decide_eq_true c13
            clear c13
            by_cases c14 : x6_1 < (t242.length : Int)
            · rw [if_pos c14] at H
              have c14b0 : decide (x6_1 < (t242.length : Int)) = true := decide_eq_true c14
              clear c14
              by_cases c15 : 0 ≤ (rd t242 x6_1)
              · rw [if_pos c15] at H
                have c15b0 : decide (0 ≤ (rd t242 x6_1)) = true := decide_eq_true c15
                clear c15
                by_cases c16 : (rd t242 x6_1) < (t239.length : Int)
                · rw [if_pos c16] at H
                  have c16b0 : decide ((rd t242 x6_1) < (t239.length : Int)) = true := decide_eq_true c16
                  clear c16
                  by_cases c17 : ((rd_T29 t245 x6_1).f0) = ((rd_T32 t239 (rd t242 x6_1)).f2)
                  · rw [if_pos c17] at H
                    have c17b0 : (((rd_T29 t245 x6_1).f0) == ((rd_T32 t239 (rd t242 x6_1)).f2)) = true := beq_iff_eq.mpr c17
                    have c17b1 : (((rd_T29 t245 x6_1).f0) != ((rd_T32 t239 (rd t242 x6_1)).f2)) = false := bne_eq_false_iff_eq.mpr c17
                    clear c17
                    by_cases c18 : ((rd_T29 t245 x6_1).f1) = ((rd_T32 t239 (rd t242 x6_1)).f3)
                    · rw [if_pos c18] at H
                      have c18b0 : (((rd_T29 t245 x6_1).f1) == ((rd_T32 t239 (rd t242 x6_1)).f3)) = true := beq_iff_eq.mpr c18
                      have c18b1 : (((rd_T29 t245 x6_1).f1) != ((rd_T32 t239 (rd t242 x6_1)).f3)) = false := bne_eq_false_iff_eq.mpr c18
                      clear c18
                      have H' := Aside0.mk H
                      clear H
                      have p248 : 0 ≤ (x6_1 : Int) := of_decide_eq_true (by first | (with_reducible assumption) | assumption)
                      have q248 : x6_1 < (t245.length : Int) := of_decide_eq_true (by first | (with_reducible assumption) | assumption)
                      obtain ⟨ad248, e248, hx248_0, hx248_1⟩ := at_T29 (Kd.V_reads' HO_5.out).2.2 x6_1 p248 q248
                      cases e248
                      replace p248 := eq_true p248
                      replace q248 := eq_true q248
                      have p249 : 0 ≤ (x6_1 : Int) := of_decide_eq_true (by first | (with_reducible assumption) | assumption)
                      have q249 : x6_1 < (t242.length : Int) := of_decide_eq_true (by first | (with_reducible assumption) | assumption)
                      obtain ⟨ad249, e249, hx249_0⟩ := Kd.at_int (Kd.R_reads' HO_4.out).2.2 x6_1 p249 q249
                      cases e249
                      replace p249 := eq_true p249
                      replace q249 := eq_true q249
                      have p250 : 0 ≤ ((rd t242 x6_1) : Int) := of_decide_eq_true (by first | (with_reducible assumption) | assumption)
                      have q250 : (rd t242 x6_1) < (t239.length : Int) := of_decide_eq_true (by first | (with_reducible assumption) | assumption)
                      obtain ⟨ad250, A250_11, c250_11, e250, hx250_0, hx250_1, hx250_2, hx250_3, hx250_4, hx250_5, hx250_6, hx250_7, hx250_8, hx250_9, hx250_10, hx250_11, hl250_11, hi250_11⟩ := at_T32 (Kd.V_reads' HO_3.out).2.2 (rd t242 x6_1) p250 q250
                      cases e250
                      obtain ⟨ce250, hce250, hMe250, hcc250⟩ := Kd.V_get HO_3.out z32 (rd t242 x6_1) p250 (by first | exact q250 | exact of_decide_eq_true (by first | (with_reducible assumption) | assumption) | (have e_ := (Kd.V_reads' HO_3.out).1; omega))
                      obtain ⟨ua250_11, uc250_11, rfl, ul250_11, ge250_11⟩ := k32_openF hMe250
                      have hv250_11 := hcc250 11 _ rfl
                      rw [add_field _ _ 11 (by omega)] at hv250_11
                      replace hv250_11 := Option.some.inj (hv250_11.symm.trans hx250_11)
                      injection hv250_11 with hva_ hvn_ hvc_
                      rw [hva_] at ge250_11
                      rw [hvc_] at ul250_11
                      have HL250_11 := Aside0.mk (show Kd.V k80 80 _ w.heap.size _ _ ((rd_T32 t239 (rd t242 x6_1)).f11) from Kd.V_mk ul250_11 ge250_11)
                      clear hva_ hvn_ hvc_ ge250_11 ul250_11
                      clear hcc250 hce250
                      have HR250_11 := Aside0.mk hi250_11
                      have HC250_11 := Aside0.mk hl250_11
                      clear hi250_11 hl250_11
                      replace p250 := eq_true p250
                      replace q250 := eq_true q250
                      have p251 : 0 ≤ (x6_1 : Int) := of_decide_eq_true (by first | (with_reducible assumption) | assumption)
                      have q251 : x6_1 < (t245.length : Int) := of_decide_eq_true (by first | (with_reducible assumption) | assumption)
                      obtain ⟨ad251, e251, hx251_0, hx251_1⟩ := at_T29 (Kd.V_reads' HO_5.out).2.2 x6_1 p251 q251
                      obtain rfl : ad248 = ad251 := (by injection e251)
                      replace p251 := eq_true p251
                      replace q251 := eq_true q251
                      have p252 : 0 ≤ (x6_1 : Int) := of_decide_eq_true (by first | (with_reducible assumption) | assumption)
                      have q252 : x6_1 < (t242.length : Int) := of_decide_eq_true (by first | (with_reducible assumption) | assumption)
                      obtain ⟨ad252, e252, hx252_0⟩ := Kd.at_int (Kd.R_reads' HO_4.out).2.2 x6_1 p252 q252
                      obtain rfl : ad249 = ad252 := (by injection e252)
                      replace p252 := eq_true p252
                      replace q252 := eq_true q252
                      have p253 : 0 ≤ ((rd t242 x6_1) : Int) := of_decide_eq_true (by first | (with_reducible assumption) | assumption)
                      have q253 : (rd t242 x6_1) < (t239.length : Int) := of_decide_eq_true (by first | (with_reducible assumption) | assumption)
                      obtain ⟨ad253, A253_11, c253_11, e253, hx253_0, hx253_1, hx253_2, hx253_3, hx253_4, hx253_5, hx253_6, hx253_7, hx253_8, hx253_9, hx253_10, hx253_11, hl253_11, hi253_11⟩ := at_T32 (Kd.V_reads' HO_3.out).2.2 (rd t242 x6_1) p253 q253
                      obtain rfl : ad250 = ad253 := (by injection e253)
                      obtain ⟨ce253, hce253, hMe253, hcc253⟩ := Kd.V_get HO_3.out z32 (rd t242 x6_1) p253 (by first | exact q253 | exact of_decide_eq_true (by first | (with_reducible assumption) | assumption) | (have e_ := (Kd.V_reads' HO_3.out).1; omega))
                      obtain ⟨ua253_11, uc253_11, rfl, ul253_11, ge253_11⟩ := k32_openF hMe253
                      have hv253_11 := hcc253 11 _ rfl
                      rw [add_field _ _ 11 (by omega)] at hv253_11
                      replace hv253_11 := Option.some.inj (hv253_11.symm.trans hx253_11)
                      injection hv253_11 with hva_ hvn_ hvc_
                      rw [hva_] at ge253_11
                      rw [hvc_] at ul253_11
                      have HL253_11 := Aside0.mk (show Kd.V k80 80 _ w.heap.size _ _ ((rd_T32 t239 (rd t242 x6_1)).f11) from Kd.V_mk ul253_11 ge253_11)
                      clear hva_ hvn_ hvc_ ge253_11 ul253_11
                      clear hcc253 hce253
                      have HR253_11 := Aside0.mk hi253_11
                      have HC253_11 := Aside0.mk hl253_11
                      clear hi253_11 hl253_11
                      replace p253 := eq_true p253
                      replace q253 := eq_true q253
                      have ea_ := Option.some.inj (hx250_11.symm.trans hx253_11)
                      injection ea_ with ea_ en_ ec_
                      subst ea_
                      subst ec_
                      clear en_
                      go_wp2
                      repeat (go_quiet (fail); try go_wp2)
                      go_roundg k1
                      case measure => have := HK1.out; omega
                      case rel => exact ⟨(wrap64 (x6_1 + 1)), (by first | rfl | (simp; done) | (simp [*]; done)), H', ⟨by have := HK1.out; omega⟩, ⟨by (with_reducible repeat (first | apply Kd.V_alloc | apply Kd.V_drewN | apply Kd.V_drew)); exact HO_3.out⟩, ⟨by (with_reducible repeat (first | apply Kd.R_alloc | apply Kd.R_drewN | apply Kd.R_drew)); exact HO_4.out⟩, ⟨by (with_reducible repeat (first | apply Kd.V_alloc | apply Kd.V_drewN | apply Kd.V_drew)); exact HO_5.out⟩, ⟨by repeat (first | (with_reducible first | exact HB.out | apply below_alloc | apply pw_below_drewN | apply below_drew1) | exact HB.out)⟩⟩
                    · rw [if_neg c18] at H
                      have c18b0 : (((rd_T29 t245 x6_1).f1) == ((rd_T32 t239 (rd t242 x6_1)).f3)) = false := beq_eq_false_iff_ne.mpr c18
                      have c18b1 : (((rd_T29 t245 x6_1).f1) != ((rd_T32 t239 (rd t242 x6_1)).f3)) = true := bne_iff_ne.mpr c18
                      obtain rfl := Option.some.inj H
                      have p248 : 0 ≤ (x6_1 : Int) := of_decide_eq_true (by first | (with_reducible assumption) | assumption)
                      have q248 : x6_1 < (t245.length : Int) := of_decide_eq_true (by first | (with_reducible assumption) | assumption)
                      obtain ⟨ad248, e248, hx248_0, hx248_1⟩ := at_T29 (Kd.V_reads' HO_5.out).2.2 x6_1 p248 q248
                      cases e248
                      replace p248 := eq_true p248
                      replace q248 := eq_true q248
                      have p249 : 0 ≤ (x6_1 : Int) := of_decide_eq_true (by first | (with_reducible assumption) | assumption)
                      have q249 : x6_1 < (t242.length : Int) := of_decide_eq_true (by first | (with_reducible assumption) | assumption)
                      obtain ⟨ad249, e249, hx249_0⟩ := Kd.at_int (Kd.R_reads' HO_4.out).2.2 x6_1 p249 q249
                      cases e249
                      replace p249 := eq_true p249
                      replace q249 := eq_true q249
                      have p250 : 0 ≤ ((rd t242 x6_1) : Int) := of_decide_eq_true (by first | (with_reducible assumption) | assumption)
                      have q250 : (rd t242 x6_1) < (t239.length : Int) := of_decide_eq_true (by first | (with_reducible assumption) | assumption)
                      obtain ⟨ad250, A250_11, c250_11, e250, hx250_0, hx250_1, hx250_2, hx250_3, hx250_4, hx250_5, hx250_6, hx250_7, hx250_8, hx250_9, hx250_10, hx250_11, hl250_11, hi250_11⟩ := at_T32 (Kd.V_reads' HO_3.out).2.2 (rd t242 x6_1) p250 q250
                      cases e250
                      obtain ⟨ce250, hce250, hMe250, hcc250⟩ := Kd.V_get HO_3.out z32 (rd t242 x6_1) p250 (by first | exact q250 | exact of_decide_eq_true (by first | (with_reducible assumption) | assumption) | (have e_ := (Kd.V_reads' HO_3.out).1; omega))
                      obtain ⟨ua250_11, uc250_11, rfl, ul250_11, ge250_11⟩ := k32_openF hMe250
                      have hv250_11 := hcc250 11 _ rfl
                      rw [add_field _ _ 11 (by omega)] at hv250_11
                      replace hv250_11 := Option.some.inj (hv250_11.symm.trans hx250_11)
                      injection hv250_11 with hva_ hvn_ hvc_
                      rw [hva_] at ge250_11
                      rw [hvc_] at ul250_11
                      have HL250_11 := Aside0.mk (show Kd.V k80 80 _ w.heap.size _ _ ((rd_T32 t239 (rd t242 x6_1)).f11) from Kd.V_mk ul250_11 ge250_11)
                      clear hva_ hvn_ hvc_ ge250_11 ul250_11
                      clear hcc250 hce250
                      have HR250_11 := Aside0.mk hi250_11
                      have HC250_11 := Aside0.mk hl250_11
                      clear hi250_11 hl250_11
                      replace p250 := eq_true p250
                      replace q250 := eq_true q250
                      have p251 : 0 ≤ (x6_1 : Int) := of_decide_eq_true (by first | (with_reducible assumption) | assumption)
                      have q251 : x6_1 < (t245.length : Int) := of_decide_eq_true (by first | (with_reducible assumption) | assumption)
                      obtain ⟨ad251, e251, hx251_0, hx251_1⟩ := at_T29 (Kd.V_reads' HO_5.out).2.2 x6_1 p251 q251
                      obtain rfl : ad248 = ad251 := (by injection e251)
                      replace p251 := eq_true p251
                      replace q251 := eq_true q251
                      have p252 : 0 ≤ (x6_1 : Int) := of_decide_eq_true (by first | (with_reducible assumption) | assumption)
                      have q252 : x6_1 < (t242.length : Int) := of_decide_eq_true (by first | (with_reducible assumption) | assumption)
                      obtain ⟨ad252, e252, hx252_0⟩ := Kd.at_int (Kd.R_reads' HO_4.out).2.2 x6_1 p252 q252
                      obtain rfl : ad249 = ad252 := (by injection e252)
                      replace p252 := eq_true p252
                      replace q252 := eq_true q252
                      have p253 : 0 ≤ ((rd t242 x6_1) : Int) := of_decide_eq_true (by first | (with_reducible assumption) | assumption)
                      have q253 : (rd t242 x6_1) < (t239.length : Int) := of_decide_eq_true (by first | (with_reducible assumption) | assumption)
                      obtain ⟨ad253, A253_11, c253_11, e253, hx253_0, hx253_1, hx253_2, hx253_3, hx253_4, hx253_5, hx253_6, hx253_7, hx253_8, hx253_9, hx253_10, hx253_11, hl253_11, hi253_11⟩ := at_T32 (Kd.V_reads' HO_3.out).2.2 (rd t242 x6_1) p253 q253
                      obtain rfl : ad250 = ad253 := (by injection e253)
                      obtain ⟨ce253, hce253, hMe253, hcc253⟩ := Kd.V_get HO_3.out z32 (rd t242 x6_1) p253 (by first | exact q253 | exact of_decide_eq_true (by first | (with_reducible assumption) | assumption) | (have e_ := (Kd.V_reads' HO_3.out).1; omega))
                      obtain ⟨ua253_11, uc253_11, rfl, ul253_11, ge253_11⟩ := k32_openF hMe253
                      have hv253_11 := hcc253 11 _ rfl
                      rw [add_field _ _ 11 (by omega)] at hv253_11
                      replace hv253_11 := Option.some.inj (hv253_11.symm.trans hx253_11)
                      injection hv253_11 with hva_ hvn_ hvc_
                      rw [hva_] at ge253_11
                      rw [hvc_] at ul253_11
                      have HL253_11 := Aside0.mk (show Kd.V k80 80 _ w.heap.size _ _ ((rd_T32 t239 (rd t242 x6_1)).f11) from Kd.V_mk ul253_11 ge253_11)
                      clear hva_ hvn_ hvc_ ge253_11 ul253_11
                      clear hcc253 hce253
                      have HR253_11 := Aside0.mk hi253_11
                      have HC253_11 := Aside0.mk hl253_11
                      clear hi253_11 hl253_11
                      replace p253 := eq_true p253
                      replace q253 := eq_true q253
                      have ea_ := Option.some.inj (hx250_11.symm.trans hx253_11)
                      injection ea_ with ea_ en_ ec_
                      subst ea_
                      subst ec_
                      clear en_
                      go_wp2
                      repeat (go_quiet (fail); try go_wp2)
                      go_ret
                      exact ⟨by first | rfl | (simp [errW_none, errW_some] <;> rfl) | (simp [*, errW_none, errW_some] <;> rfl), by repeat (first | (with_reducible first | exact HB.out | apply below_alloc | apply pw_below_drewN | apply below_drew1) | exact HB.out)⟩
                  · rw [if_neg c17] at H
                    have c17b0 : (((rd_T29 t245 x6_1).f0) == ((rd_T32 t239 (rd t242 x6_1)).f2)) = false := beq_eq_false_iff_ne.mpr c17
                    have c17b1 : (((rd_T29 t245 x6_1).f0) != ((rd_T32 t239 (rd t242 x6_1)).f2)) = true := bne_iff_ne.mpr c17
                    obtain rfl := Option.some.inj H
                    have p248 : 0 ≤ (x6_1 : Int) := of_decide_eq_true (by first | (with_reducible assumption) | assumption)
                    have q248 : x6_1 < (t245.length : Int) := of_decide_eq_true (by first | (with_reducible assumption) | assumption)
                    obtain ⟨ad248, e248, hx248_0, hx248_1⟩ := at_T29 (Kd.V_reads' HO_5.out).2.2 x6_1 p248 q248
                    cases e248
                    replace p248 := eq_true p248
                    replace q248 := eq_true q248
                    have p249 : 0 ≤ (x6_1 : Int) := of_decide_eq_true (by first | (with_reducible assumption) | assumption)
                    have q249 : x6_1 < (t242.length : Int) := of_decide_eq_true (by first | (with_reducible assumption) | assumption)
                    obtain ⟨ad249, e249, hx249_0⟩ := Kd.at_int (Kd.R_reads' HO_4.out).2.2 x6_1 p249 q249
                    cases e249
                    replace p249 := eq_true p249
                    replace q249 := eq_true q249
                    have p250 : 0 ≤ ((rd t242 x6_1) : Int) := of_decide_eq_true (by first | (with_reducible assumption) | assumption)
                    have q250 : (rd t242 x6_1) < (t239.length : Int) := of_decide_eq_true (by first | (with_reducible assumption) | assumption)
                    obtain ⟨ad250, A250_11, c250_11, e250, hx250_0, hx250_1, hx250_2, hx250_3, hx250_4, hx250_5, hx250_6, hx250_7, hx250_8, hx250_9, hx250_10, hx250_11, hl250_11, hi250_11⟩ := at_T32 (Kd.V_reads' HO_3.out).2.2 (rd t242 x6_1) p250 q250
                    cases e250
                    obtain ⟨ce250, hce250, hMe250, hcc250⟩ := Kd.V_get HO_3.out z32 (rd t242 x6_1) p250 (by first | exact q250 | exact of_decide_eq_true (by first | (with_reducible assumption) | assumption) | (have e_ := (Kd.V_reads' HO_3.out).1; omega))
                    obtain ⟨ua250_11, uc250_11, rfl, ul250_11, ge250_11⟩ := k32_openF hMe250
                    have hv250_11 := hcc250 11 _ rfl
                    rw [add_field _ _ 11 (by omega)] at hv250_11
                    replace hv250_11 := Option.some.inj (hv250_11.symm.trans hx250_11)
                    injection hv250_11 with hva_ hvn_ hvc_
                    rw [hva_] at ge250_11
                    rw [hvc_] at ul250_11
                    have HL250_11 := Aside0.mk (show Kd.V k80 80 _ w.heap.size _ _ ((rd_T32 t239 (rd t242 x6_1)).f11) from Kd.V_mk ul250_11 ge250_11)
                    clear hva_ hvn_ hvc_ ge250_11 ul250_11
                    clear hcc250 hce250
                    have HR250_11 := Aside0.mk hi250_11
                    have HC250_11 := Aside0.mk hl250_11
                    clear hi250_11 hl250_11
                    replace p250 := eq_true p250
                    replace q250 := eq_true q250
                    go_wp2
                    repeat (go_quiet (fail); try go_wp2)
                    go_ret
                    exact ⟨by first | rfl | (simp [errW_none, errW_some] <;> rfl) | (simp [*, errW_none, errW_some] <;> rfl), by repeat (first | (with_reducible first | exact HB.out | apply below_alloc | apply pw_below_drewN | apply below_drew1) | exact HB.out)⟩
                · rw [if_neg c16] at H
                  exact absurd H (by simp)
              · rw [if_neg c15] at H
                exact absurd H (by simp)
            · rw [if_neg c14] at H
              exact absurd H (by simp)
          · rw [if_neg c13] at H
            exact absurd H (by simp)
        · rw [if_neg c12] at H
          have c12b0 : decide (x6_1 < (t245.length : Int)) = false := decide_eq_false c12
          clear c12
          replace H := Option.bind_eq_some_iff.mp H
          obtain ⟨t254, A190, H⟩ := H
          replace H : (if t254 = true then ((order_Order.f k1 t239).bind fun t255 => ((prebendref01_Ints.f k1 t255 t242).bind fun t258 => (some t258))) else (some false)) = some r := H
          have A19 := Aside0.mk A190
          clear A190
          by_cases c20 : t254 = true
          · subst c20
            have H1 : ((order_Order.f k1 t239).bind fun t255 => ((prebendref01_Ints.f k1 t255 t242).bind fun t258 => (some t258))) = some r := by rw [if_pos rfl] at H; exact H
            clear H
            have H := H1
            clear H1
            replace H := Option.bind_eq_some_iff.mp H
            obtain ⟨t255, A210, H⟩ := H
            replace H : ((prebendref01_Ints.f k1 t255 t242).bind fun t258 => (some t258)) = some r := H
            have A21 := Aside0.mk A210
            clear A210
            replace H := Option.bind_eq_some_iff.mp H
            obtain ⟨t258, A220, H⟩ := H
            replace H : (some t258) = some r := H
            have A22 := Aside0.mk A220
            clear A220
            obtain rfl := Option.some.inj H
            go_wp2_with (first | (go_at_call 12; (with_reducible refine (prebendlaw15_awake.calls k1  true _ A19.out).mono ?_); rintro e w23 ⟨rfl, hb⟩; have n0_ := Aside0.mk (Kd.V_below (by (with_reducible repeat (first | apply Kd.V_alloc | apply Kd.V_drewN | apply Kd.V_drew)); exact HO_3.out) hb); have n1_ := Aside0.mk (Kd.R_below (by (with_reducible repeat (first | apply Kd.R_alloc | apply Kd.R_drewN | apply Kd.R_drew)); exact HO_4.out) hb); have n2_ := Aside0.mk (Kd.V_below (by (with_reducible repeat (first | apply Kd.V_alloc | apply Kd.V_drewN | apply Kd.V_drew)); exact HO_5.out) hb); have n3_ := Aside0.mk (below_step (by repeat (first | (with_reducible first | exact HB.out | apply below_alloc | apply pw_below_drewN | apply below_drew1) | exact HB.out)) hb); clear HO_3; clear HO_4; clear HO_5; clear HB; have HO_3 := n0_; have HO_4 := n1_; have HO_5 := n2_; have HB := n3_; clear n0_ n1_ n2_ n3_; (try clear hb); (try clear hb2); (try clear hk); (try clear hi)) | (go_at_call 14; (with_reducible refine (order_Order.calls k1 _ _ t239 t255 _ ?side1 ?side2 A21.out).mono ?_); (case side1 => repeat (first | exact (Kd.V_reads' HO_3.out).2.2 | (with_reducible refine Kd.C_alloc ?_ _) | (with_reducible refine Kd.C_drewN ?_ _) | (with_reducible refine Kd.C_drew ?_))); (case side2 => exact (Kd.V_reads' HO_3.out).2.1); rintro e w24 ⟨v256, rfl, ho0, hb⟩; have n0_ := Aside0.mk (Kd.V_below (by (with_reducible repeat (first | apply Kd.V_alloc | apply Kd.V_drewN | apply Kd.V_drew)); exact HO_3.out) hb); have n1_ := Aside0.mk (Kd.R_below (by (with_reducible repeat (first | apply Kd.R_alloc | apply Kd.R_drewN | apply Kd.R_drew)); exact HO_4.out) hb); have n2_ := Aside0.mk (Kd.V_below (by (with_reducible repeat (first | apply Kd.V_alloc | apply Kd.V_drewN | apply Kd.V_drew)); exact HO_5.out) hb); have n3_ := Aside0.mk (Kd.V_lower (Kd.V_mono (ok' := fun k_ => some k_ ≠ (.slice Ao11 t242.length co11 : Value).ownBlock) ho0 (fun k_ hk_ => (Kd.fresh' (Kd.R_lt (by (with_reducible repeat (first | apply Kd.R_alloc | apply Kd.R_drewN | apply Kd.R_drew)); exact HO_4.out)) k_ hk_))) (below_size (by repeat (first | (with_reducible first | exact HB.out | apply below_alloc | apply pw_below_drewN | apply below_drew1) | exact HB.out)))); have n4_ := Aside0.mk (below_step (by repeat (first | (with_reducible first | exact HB.out | apply below_alloc | apply pw_below_drewN | apply below_drew1) | exact HB.out)) hb); clear HO_3; clear HO_4; clear HO_5; clear HB; have HO_3 := n0_; have HO_4 := n1_; have HO_5 := n2_; have HO257 := n3_; have HB := n4_; clear n0_ n1_ n2_ n3_ n4_; (try clear hb); (try clear hb2); (try clear hk); (try clear hi); (try clear ho0); obtain ⟨Ao25, co25, eo25⟩ := Kd.V_slice HO257.out; subst eo25) | (go_at_call 13; (with_reducible refine (prebendref01_Ints.calls k1 _ _ t255 _ _ t242 t258 _ ?side1 ?side2 ?side3 ?side4 A22.out).mono ?_); (case side1 => repeat (first | exact (Kd.V_reads' HO257.out).2.2 | (with_reducible refine Kd.C_alloc ?_ _) | (with_reducible refine Kd.C_drewN ?_ _) | (with_reducible refine Kd.C_drew ?_))); (case side2 => exact (Kd.V_reads' HO257.out).2.1); (case side3 => repeat (first | exact (Kd.R_reads' HO_4.out).2.2 | (with_reducible refine Kd.C_alloc ?_ _) | (with_reducible refine Kd.C_drewN ?_ _) | (with_reducible refine Kd.C_drew ?_))); (case side4 => exact (Kd.R_reads' HO_4.out).2.1); rintro e w' ⟨rfl, ⟨nd, rfl⟩⟩; (try first | exact ⟨rfl, _, World.drewN_drewN _ _ _⟩ | exact ⟨rfl, _, Eq.trans (World.drewN_drewN _ _ _) (congrArg (World.drewN _) (Nat.add_assoc _ _ _))⟩)))
            repeat (go_quiet (first | (go_at_call 12; (with_reducible refine (prebendlaw15_awake.calls k1  true _ A19.out).mono ?_); rintro e w23 ⟨rfl, hb⟩; have n0_ := Aside0.mk (Kd.V_below (by (with_reducible repeat (first | apply Kd.V_alloc | apply Kd.V_drewN | apply Kd.V_drew)); exact HO_3.out) hb); have n1_ := Aside0.mk (Kd.R_below (by (with_reducible repeat (first | apply Kd.R_alloc | apply Kd.R_drewN | apply Kd.R_drew)); exact HO_4.out) hb); have n2_ := Aside0.mk (Kd.V_below (by (with_reducible repeat (first | apply Kd.V_alloc | apply Kd.V_drewN | apply Kd.V_drew)); exact HO_5.out) hb); have n3_ := Aside0.mk (below_step (by repeat (first | (with_reducible first | exact HB.out | apply below_alloc | apply pw_below_drewN | apply below_drew1) | exact HB.out)) hb); clear HO_3; clear HO_4; clear HO_5; clear HB; have HO_3 := n0_; have HO_4 := n1_; have HO_5 := n2_; have HB := n3_; clear n0_ n1_ n2_ n3_; (try clear hb); (try clear hb2); (try clear hk); (try clear hi)) | (go_at_call 14; (with_reducible refine (order_Order.calls k1 _ _ t239 t255 _ ?side1 ?side2 A21.out).mono ?_); (case side1 => repeat (first | exact (Kd.V_reads' HO_3.out).2.2 | (with_reducible refine Kd.C_alloc ?_ _) | (with_reducible refine Kd.C_drewN ?_ _) | (with_reducible refine Kd.C_drew ?_))); (case side2 => exact (Kd.V_reads' HO_3.out).2.1); rintro e w24 ⟨v256, rfl, ho0, hb⟩; have n0_ := Aside0.mk (Kd.V_below (by (with_reducible repeat (first | apply Kd.V_alloc | apply Kd.V_drewN | apply Kd.V_drew)); exact HO_3.out) hb); have n1_ := Aside0.mk (Kd.R_below (by (with_reducible repeat (first | apply Kd.R_alloc | apply Kd.R_drewN | apply Kd.R_drew)); exact HO_4.out) hb); have n2_ := Aside0.mk (Kd.V_below (by (with_reducible repeat (first | apply Kd.V_alloc | apply Kd.V_drewN | apply Kd.V_drew)); exact HO_5.out) hb); have n3_ := Aside0.mk (Kd.V_lower (Kd.V_mono (ok' := fun k_ => some k_ ≠ (.slice Ao11 t242.length co11 : Value).ownBlock) ho0 (fun k_ hk_ => (Kd.fresh' (Kd.R_lt (by (with_reducible repeat (first | apply Kd.R_alloc | apply Kd.R_drewN | apply Kd.R_drew)); exact HO_4.out)) k_ hk_))) (below_size (by repeat (first | (with_reducible first | exact HB.out | apply below_alloc | apply pw_below_drewN | apply below_drew1) | exact HB.out)))); have n4_ := Aside0.mk (below_step (by repeat (first | (with_reducible first | exact HB.out | apply below_alloc | apply pw_below_drewN | apply below_drew1) | exact HB.out)) hb); clear HO_3; clear HO_4; clear HO_5; clear HB; have HO_3 := n0_; have HO_4 := n1_; have HO_5 := n2_; have HO257 := n3_; have HB := n4_; clear n0_ n1_ n2_ n3_ n4_; (try clear hb); (try clear hb2); (try clear hk); (try clear hi); (try clear ho0); obtain ⟨Ao25, co25, eo25⟩ := Kd.V_slice HO257.out; subst eo25) | (go_at_call 13; (with_reducible refine (prebendref01_Ints.calls k1 _ _ t255 _ _ t242 t258 _ ?side1 ?side2 ?side3 ?side4 A22.out).mono ?_); (case side1 => repeat (first | exact (Kd.V_reads' HO257.out).2.2 | (with_reducible refine Kd.C_alloc ?_ _) | (with_reducible refine Kd.C_drewN ?_ _) | (with_reducible refine Kd.C_drew ?_))); (case side2 => exact (Kd.V_reads' HO257.out).2.1); (case side3 => repeat (first | exact (Kd.R_reads' HO_4.out).2.2 | (with_reducible refine Kd.C_alloc ?_ _) | (with_reducible refine Kd.C_drewN ?_ _) | (with_reducible refine Kd.C_drew ?_))); (case side4 => exact (Kd.R_reads' HO_4.out).2.1); rintro e w' ⟨rfl, ⟨nd, rfl⟩⟩; (try first | exact ⟨rfl, _, World.drewN_drewN _ _ _⟩ | exact ⟨rfl, _, Eq.trans (World.drewN_drewN _ _ _) (congrArg (World.drewN _) (Nat.add_assoc _ _ _))⟩))); try go_wp2_with (first | (go_at_call 12; (with_reducible refine (prebendlaw15_awake.calls k1  true _ A19.out).mono ?_); rintro e w23 ⟨rfl, hb⟩; have n0_ := Aside0.mk (Kd.V_below (by (with_reducible repeat (first | apply Kd.V_alloc | apply Kd.V_drewN | apply Kd.V_drew)); exact HO_3.out) hb); have n1_ := Aside0.mk (Kd.R_below (by (with_reducible repeat (first | apply Kd.R_alloc | apply Kd.R_drewN | apply Kd.R_drew)); exact HO_4.out) hb); have n2_ := Aside0.mk (Kd.V_below (by (with_reducible repeat (first | apply Kd.V_alloc | apply Kd.V_drewN | apply Kd.V_drew)); exact HO_5.out) hb); have n3_ := Aside0.mk (below_step (by repeat (first | (with_reducible first | exact HB.out | apply below_alloc | apply pw_below_drewN | apply below_drew1) | exact HB.out)) hb); clear HO_3; clear HO_4; clear HO_5; clear HB; have HO_3 := n0_; have HO_4 := n1_; have HO_5 := n2_; have HB := n3_; clear n0_ n1_ n2_ n3_; (try clear hb); (try clear hb2); (try clear hk); (try clear hi)) | (go_at_call 14; (with_reducible refine (order_Order.calls k1 _ _ t239 t255 _ ?side1 ?side2 A21.out).mono ?_); (case side1 => repeat (first | exact (Kd.V_reads' HO_3.out).2.2 | (with_reducible refine Kd.C_alloc ?_ _) | (with_reducible refine Kd.C_drewN ?_ _) | (with_reducible refine Kd.C_drew ?_))); (case side2 => exact (Kd.V_reads' HO_3.out).2.1); rintro e w24 ⟨v256, rfl, ho0, hb⟩; have n0_ := Aside0.mk (Kd.V_below (by (with_reducible repeat (first | apply Kd.V_alloc | apply Kd.V_drewN | apply Kd.V_drew)); exact HO_3.out) hb); have n1_ := Aside0.mk (Kd.R_below (by (with_reducible repeat (first | apply Kd.R_alloc | apply Kd.R_drewN | apply Kd.R_drew)); exact HO_4.out) hb); have n2_ := Aside0.mk (Kd.V_below (by (with_reducible repeat (first | apply Kd.V_alloc | apply Kd.V_drewN | apply Kd.V_drew)); exact HO_5.out) hb); have n3_ := Aside0.mk (Kd.V_lower (Kd.V_mono (ok' := fun k_ => some k_ ≠ (.slice Ao11 t242.length co11 : Value).ownBlock) ho0 (fun k_ hk_ => (Kd.fresh' (Kd.R_lt (by (with_reducible repeat (first | apply Kd.R_alloc | apply Kd.R_drewN | apply Kd.R_drew)); exact HO_4.out)) k_ hk_))) (below_size (by repeat (first | (with_reducible first | exact HB.out | apply below_alloc | apply pw_below_drewN | apply below_drew1) | exact HB.out)))); have n4_ := Aside0.mk (below_step (by repeat (first | (with_reducible first | exact HB.out | apply below_alloc | apply pw_below_drewN | apply below_drew1) | exact HB.out)) hb); clear HO_3; clear HO_4; clear HO_5; clear HB; have HO_3 := n0_; have HO_4 := n1_; have HO_5 := n2_; have HO257 := n3_; have HB := n4_; clear n0_ n1_ n2_ n3_ n4_; (try clear hb); (try clear hb2); (try clear hk); (try clear hi); (try clear ho0); obtain ⟨Ao25, co25, eo25⟩ := Kd.V_slice HO257.out; subst eo25) | (go_at_call 13; (with_reducible refine (prebendref01_Ints.calls k1 _ _ t255 _ _ t242 t258 _ ?side1 ?side2 ?side3 ?side4 A22.out).mono ?_); (case side1 => repeat (first | exact (Kd.V_reads' HO257.out).2.2 | (with_reducible refine Kd.C_alloc ?_ _) | (with_reducible refine Kd.C_drewN ?_ _) | (with_reducible refine Kd.C_drew ?_))); (case side2 => exact (Kd.V_reads' HO257.out).2.1); (case side3 => repeat (first | exact (Kd.R_reads' HO_4.out).2.2 | (with_reducible refine Kd.C_alloc ?_ _) | (with_reducible refine Kd.C_drewN ?_ _) | (with_reducible refine Kd.C_drew ?_))); (case side4 => exact (Kd.R_reads' HO_4.out).2.1); rintro e w' ⟨rfl, ⟨nd, rfl⟩⟩; (try first | exact ⟨rfl, _, World.drewN_drewN _ _ _⟩ | exact ⟨rfl, _, Eq.trans (World.drewN_drewN _ _ _) (congrArg (World.drewN _) (Nat.add_assoc _ _ _))⟩))))
            go_ret
            exact ⟨by first | rfl | (simp [errW_none, errW_some] <;> rfl) | (simp [*, errW_none, errW_some] <;> rfl), by repeat (first | (with_reducible first | exact HB.out | apply below_alloc | apply pw_below_drewN | apply below_drew1) | exact HB.out)⟩
          · replace c20 := Bool.eq_false_iff.mpr c20
            subst c20
            have H1 : (some false) = some r := by rw [if_neg (show ¬ (false = true) by decide)] at H; exact H
            clear H
            have H := H1
            clear H1
            obtain rfl := Option.some.inj H
            go_wp2_with (first | (go_at_call 12; (with_reducible refine (prebendlaw15_awake.calls k1  false _ A19.out).mono ?_); rintro e w26 ⟨rfl, hb⟩; have n0_ := Aside0.mk (Kd.V_below (by (with_reducible repeat (first | apply Kd.V_alloc | apply Kd.V_drewN | apply Kd.V_drew)); exact HO_3.out) hb); have n1_ := Aside0.mk (Kd.R_below (by (with_reducible repeat (first | apply Kd.R_alloc | apply Kd.R_drewN | apply Kd.R_drew)); exact HO_4.out) hb); have n2_ := Aside0.mk (Kd.V_below (by (with_reducible repeat (first | apply Kd.V_alloc | apply Kd.V_drewN | apply Kd.V_drew)); exact HO_5.out) hb); have n3_ := Aside0.mk (below_step (by repeat (first | (with_reducible first | exact HB.out | apply below_alloc | apply pw_below_drewN | apply below_drew1) | exact HB.out)) hb); clear HO_3; clear HO_4; clear HO_5; clear HB; have HO_3 := n0_; have HO_4 := n1_; have HO_5 := n2_; have HB := n3_; clear n0_ n1_ n2_ n3_; (try clear hb); (try clear hb2); (try clear hk); (try clear hi)))
            repeat (go_quiet (first | (go_at_call 12; (with_reducible refine (prebendlaw15_awake.calls k1  false _ A19.out).mono ?_); rintro e w26 ⟨rfl, hb⟩; have n0_ := Aside0.mk (Kd.V_below (by (with_reducible repeat (first | apply Kd.V_alloc | apply Kd.V_drewN | apply Kd.V_drew)); exact HO_3.out) hb); have n1_ := Aside0.mk (Kd.R_below (by (with_reducible repeat (first | apply Kd.R_alloc | apply Kd.R_drewN | apply Kd.R_drew)); exact HO_4.out) hb); have n2_ := Aside0.mk (Kd.V_below (by (with_reducible repeat (first | apply Kd.V_alloc | apply Kd.V_drewN | apply Kd.V_drew)); exact HO_5.out) hb); have n3_ := Aside0.mk (below_step (by repeat (first | (with_reducible first | exact HB.out | apply below_alloc | apply pw_below_drewN | apply below_drew1) | exact HB.out)) hb); clear HO_3; clear HO_4; clear HO_5; clear HB; have HO_3 := n0_; have HO_4 := n1_; have HO_5 := n2_; have HB := n3_; clear n0_ n1_ n2_ n3_; (try clear hb); (try clear hb2); (try clear hk); (try clear hi))); try go_wp2_with (first | (go_at_call 12; (with_reducible refine (prebendlaw15_awake.calls k1  false _ A19.out).mono ?_); rintro e w26 ⟨rfl, hb⟩; have n0_ := Aside0.mk (Kd.V_below (by (with_reducible repeat (first | apply Kd.V_alloc | apply Kd.V_drewN | apply Kd.V_drew)); exact HO_3.out) hb); have n1_ := Aside0.mk (Kd.R_below (by (with_reducible repeat (first | apply Kd.R_alloc | apply Kd.R_drewN | apply Kd.R_drew)); exact HO_4.out) hb); have n2_ := Aside0.mk (Kd.V_below (by (with_reducible repeat (first | apply Kd.V_alloc | apply Kd.V_drewN | apply Kd.V_drew)); exact HO_5.out) hb); have n3_ := Aside0.mk (below_step (by repeat (first | (with_reducible first | exact HB.out | apply below_alloc | apply pw_below_drewN | apply below_drew1) | exact HB.out)) hb); clear HO_3; clear HO_4; clear HO_5; clear HB; have HO_3 := n0_; have HO_4 := n1_; have HO_5 := n2_; have HB := n3_; clear n0_ n1_ n2_ n3_; (try clear hb); (try clear hb2); (try clear hk); (try clear hi))))
            go_ret
            exact ⟨by first | rfl | (simp [errW_none, errW_some] <;> rfl) | (simp [*, errW_none, errW_some] <;> rfl), by repeat (first | (with_reducible first | exact HB.out | apply below_alloc | apply pw_below_drewN | apply below_drew1) | exact HB.out)⟩
  · rw [if_neg c5] at H
    have c5b0 : ((t245.length : Int) == (t242.length : Int)) = false := beq_eq_false_iff_ne.mpr c5
    have c5b1 : ((t245.length : Int) != (t242.length : Int)) = true := bne_iff_ne.mpr c5
    have c5b2 : (t245.length == t242.length) = false := by first | simpa using c5 | (simp at c5 ⊢; omega)
    obtain rfl := Option.some.inj H
    go_enter Try.func3, Try.ntmps3
    go_wp2_with (first | (go_at_call 9; (with_reducible refine (prebendlaw15_few.calls (fun k_ => k_ < w.heap.size) _ _ l0 t239 _ ?side1 A2.out).mono ?_); (case side1 => exact Kd.V_mk HC0.out (Kd.F_below (Kd.C_F k32_heap HR0.out) (by repeat (first | (with_reducible first | exact HB.out | apply below_alloc | apply pw_below_drewN | apply below_drew1) | exact HB.out)))); rintro e w27 ⟨v240, rfl, ho0, hb⟩; have n0_ := Aside0.mk (Kd.V_lower (Kd.V_mono (ok' := fun k_ => True) ho0 (fun k_ hk_ => trivial)) (below_size (by repeat (first | (with_reducible first | exact HB.out | apply below_alloc | apply pw_below_drewN | apply below_drew1) | exact HB.out)))); have n1_ := Aside0.mk (below_step (by repeat (first | (with_reducible first | exact HB.out | apply below_alloc | apply pw_below_drewN | apply below_drew1) | exact HB.out)) hb); clear HB; have HO241 := n0_; have HB := n1_; clear n0_ n1_; (try clear hb); (try clear hb2); (try clear hk); (try clear hi); (try clear ho0); obtain ⟨Ao28, co28, eo28⟩ := Kd.V_slice HO241.out; subst eo28) | (go_at_call 10; (with_reducible refine (prebendref15_Order.calls k _ _ t239 t242 _ ?side1 ?side2 A3.out).mono ?_); (case side1 => repeat (first | exact (Kd.V_reads' HO241.out).2.2 | (with_reducible refine Kd.C_alloc ?_ _) | (with_reducible refine Kd.C_drewN ?_ _) | (with_reducible refine Kd.C_drew ?_))); (case side2 => exact (Kd.V_reads' HO241.out).2.1); rintro e w29 ⟨v243, rfl, ho0, hb⟩; have n0_ := Aside0.mk (Kd.V_elder' (by (with_reducible repeat (first | apply Kd.V_alloc | apply Kd.V_drewN | apply Kd.V_drew)); exact HO241.out) (Kd.R_base ho0) hb); have n1_ := Aside0.mk (Kd.R_lower ho0 (below_size (by repeat (first | (with_reducible first | exact HB.out | apply below_alloc | apply pw_below_drewN | apply below_drew1) | exact HB.out)))); have n2_ := Aside0.mk (below_step (by repeat (first | (with_reducible first | exact HB.out | apply below_alloc | apply pw_below_drewN | apply below_drew1) | exact HB.out)) hb); clear HO241; clear HB; have HO241 := n0_; have HO244 := n1_; have HB := n2_; clear n0_ n1_ n2_; (try clear hb); (try clear hb2); (try clear hk); (try clear hi); (try clear ho0)) | (go_at_call 11; (with_reducible refine (order_Asks.calls k _ _ t239 t245 _ ?side1 ?side2 A4.out).mono ?_); (case side1 => repeat (first | exact (Kd.V_reads' HO241.out).2.2 | (with_reducible refine Kd.C_alloc ?_ _) | (with_reducible refine Kd.C_drewN ?_ _) | (with_reducible refine Kd.C_drew ?_))); (case side2 => exact (Kd.V_reads' HO241.out).2.1); rintro e w30 ⟨v246, rfl, ho0, hb⟩; have n0_ := Aside0.mk (Kd.V_below (by (with_reducible repeat (first | apply Kd.V_alloc | apply Kd.V_drewN | apply Kd.V_drew)); exact HO241.out) hb); have n1_ := Aside0.mk (Kd.R_below (by (with_reducible repeat (first | apply Kd.R_alloc | apply Kd.R_drewN | apply Kd.R_drew)); exact HO244.out) hb); have n2_ := Aside0.mk (Kd.V_lower (Kd.V_mono (ok' := fun k_ => some k_ ≠ (v243 : Value).ownBlock) ho0 (fun k_ hk_ => (Kd.fresh' (Kd.R_lt (by (with_reducible repeat (first | apply Kd.R_alloc | apply Kd.R_drewN | apply Kd.R_drew)); exact HO244.out)) k_ hk_))) (below_size (by repeat (first | (with_reducible first | exact HB.out | apply below_alloc | apply pw_below_drewN | apply below_drew1) | exact HB.out)))); have n3_ := Aside0.mk (below_step (by repeat (first | (with_reducible first | exact HB.out | apply below_alloc | apply pw_below_drewN | apply below_drew1) | exact HB.out)) hb); clear HO241; clear HO244; clear HB; have HO241 := n0_; have HO244 := n1_; have HO247 := n2_; have HB := n3_; clear n0_ n1_ n2_ n3_; (try clear hb); (try clear hb2); (try clear hk); (try clear hi); (try clear ho0); obtain ⟨Ao31, co31, eo31⟩ := Kd.V_slice HO247.out; subst eo31; obtain ⟨Ao32, co32, eo32⟩ := Kd.R_slice HO244.out; subst eo32))
    repeat (go_quiet (first | (go_at_call 9; (with_reducible refine (prebendlaw15_few.calls (fun k_ => k_ < w.heap.size) _ _ l0 t239 _ ?side1 A2.out).mono ?_); (case side1 => exact Kd.V_mk HC0.out (Kd.F_below (Kd.C_F k32_heap HR0.out) (by repeat (first | (with_reducible first | exact HB.out | apply below_alloc | apply pw_below_drewN | apply below_drew1) | exact HB.out)))); rintro e w27 ⟨v240, rfl, ho0, hb⟩; have n0_ := Aside0.mk (Kd.V_lower (Kd.V_mono (ok' := fun k_ => True) ho0 (fun k_ hk_ => trivial)) (below_size (by repeat (first | (with_reducible first | exact HB.out | apply below_alloc | apply pw_below_drewN | apply below_drew1) | exact HB.out)))); have n1_ := Aside0.mk (below_step (by repeat (first | (with_reducible first | exact HB.out | apply below_alloc | apply pw_below_drewN | apply below_drew1) | exact HB.out)) hb); clear HB; have HO241 := n0_; have HB := n1_; clear n0_ n1_; (try clear hb); (try clear hb2); (try clear hk); (try clear hi); (try clear ho0); obtain ⟨Ao28, co28, eo28⟩ := Kd.V_slice HO241.out; subst eo28) | (go_at_call 10; (with_reducible refine (prebendref15_Order.calls k _ _ t239 t242 _ ?side1 ?side2 A3.out).mono ?_); (case side1 => repeat (first | exact (Kd.V_reads' HO241.out).2.2 | (with_reducible refine Kd.C_alloc ?_ _) | (with_reducible refine Kd.C_drewN ?_ _) | (with_reducible refine Kd.C_drew ?_))); (case side2 => exact (Kd.V_reads' HO241.out).2.1); rintro e w29 ⟨v243, rfl, ho0, hb⟩; have n0_ := Aside0.mk (Kd.V_elder' (by (with_reducible repeat (first | apply Kd.V_alloc | apply Kd.V_drewN | apply Kd.V_drew)); exact HO241.out) (Kd.R_base ho0) hb); have n1_ := Aside0.mk (Kd.R_lower ho0 (below_size (by repeat (first | (with_reducible first | exact HB.out | apply below_alloc | apply pw_below_drewN | apply below_drew1) | exact HB.out)))); have n2_ := Aside0.mk (below_step (by repeat (first | (with_reducible first | exact HB.out | apply below_alloc | apply pw_below_drewN | apply below_drew1) | exact HB.out)) hb); clear HO241; clear HB; have HO241 := n0_; have HO244 := n1_; have HB := n2_; clear n0_ n1_ n2_; (try clear hb); (try clear hb2); (try clear hk); (try clear hi); (try clear ho0)) | (go_at_call 11; (with_reducible refine (order_Asks.calls k _ _ t239 t245 _ ?side1 ?side2 A4.out).mono ?_); (case side1 => repeat (first | exact (Kd.V_reads' HO241.out).2.2 | (with_reducible refine Kd.C_alloc ?_ _) | (with_reducible refine Kd.C_drewN ?_ _) | (with_reducible refine Kd.C_drew ?_))); (case side2 => exact (Kd.V_reads' HO241.out).2.1); rintro e w30 ⟨v246, rfl, ho0, hb⟩; have n0_ := Aside0.mk (Kd.V_below (by (with_reducible repeat (first | apply Kd.V_alloc | apply Kd.V_drewN | apply Kd.V_drew)); exact HO241.out) hb); have n1_ := Aside0.mk (Kd.R_below (by (with_reducible repeat (first | apply Kd.R_alloc | apply Kd.R_drewN | apply Kd.R_drew)); exact HO244.out) hb); have n2_ := Aside0.mk (Kd.V_lower (Kd.V_mono (ok' := fun k_ => some k_ ≠ (v243 : Value).ownBlock) ho0 (fun k_ hk_ => (Kd.fresh' (Kd.R_lt (by (with_reducible repeat (first | apply Kd.R_alloc | apply Kd.R_drewN | apply Kd.R_drew)); exact HO244.out)) k_ hk_))) (below_size (by repeat (first | (with_reducible first | exact HB.out | apply below_alloc | apply pw_below_drewN | apply below_drew1) | exact HB.out)))); have n3_ := Aside0.mk (below_step (by repeat (first | (with_reducible first | exact HB.out | apply below_alloc | apply pw_below_drewN | apply below_drew1) | exact HB.out)) hb); clear HO241; clear HO244; clear HB; have HO241 := n0_; have HO244 := n1_; have HO247 := n2_; have HB := n3_; clear n0_ n1_ n2_ n3_; (try clear hb); (try clear hb2); (try clear hk); (try clear hi); (try clear ho0); obtain ⟨Ao31, co31, eo31⟩ := Kd.V_slice HO247.out; subst eo31; obtain ⟨Ao32, co32, eo32⟩ := Kd.R_slice HO244.out; subst eo32)); try go_wp2_with (first | (go_at_call 9; (with_reducible refine (prebendlaw15_few.calls (fun k_ => k_ < w.heap.size) _ _ l0 t239 _ ?side1 A2.out).mono ?_); (case side1 => exact Kd.V_mk HC0.out (Kd.F_below (Kd.C_F k32_heap HR0.out) (by repeat (first | (with_reducible first | exact HB.out | apply below_alloc | apply pw_below_drewN | apply below_drew1) | exact HB.out)))); rintro e w27 ⟨v240, rfl, ho0, hb⟩; have n0_ := Aside0.mk (Kd.V_lower (Kd.V_mono (ok' := fun k_ => True) ho0 (fun k_ hk_ => trivial)) (below_size (by repeat (first | (with_reducible first | exact HB.out | apply below_alloc | apply pw_below_drewN | apply below_drew1) | exact HB.out)))); have n1_ := Aside0.mk (below_step (by repeat (first | (with_reducible first | exact HB.out | apply below_alloc | apply pw_below_drewN | apply below_drew1) | exact HB.out)) hb); clear HB; have HO241 := n0_; have HB := n1_; clear n0_ n1_; (try clear hb); (try clear hb2); (try clear hk); (try clear hi); (try clear ho0); obtain ⟨Ao28, co28, eo28⟩ := Kd.V_slice HO241.out; subst eo28) | (go_at_call 10; (with_reducible refine (prebendref15_Order.calls k _ _ t239 t242 _ ?side1 ?side2 A3.out).mono ?_); (case side1 => repeat (first | exact (Kd.V_reads' HO241.out).2.2 | (with_reducible refine Kd.C_alloc ?_ _) | (with_reducible refine Kd.C_drewN ?_ _) | (with_reducible refine Kd.C_drew ?_))); (case side2 => exact (Kd.V_reads' HO241.out).2.1); rintro e w29 ⟨v243, rfl, ho0, hb⟩; have n0_ := Aside0.mk (Kd.V_elder' (by (with_reducible repeat (first | apply Kd.V_alloc | apply Kd.V_drewN | apply Kd.V_drew)); exact HO241.out) (Kd.R_base ho0) hb); have n1_ := Aside0.mk (Kd.R_lower ho0 (below_size (by repeat (first | (with_reducible first | exact HB.out | apply below_alloc | apply pw_below_drewN | apply below_drew1) | exact HB.out)))); have n2_ := Aside0.mk (below_step (by repeat (first | (with_reducible first | exact HB.out | apply below_alloc | apply pw_below_drewN | apply below_drew1) | exact HB.out)) hb); clear HO241; clear HB; have HO241 := n0_; have HO244 := n1_; have HB := n2_; clear n0_ n1_ n2_; (try clear hb); (try clear hb2); (try clear hk); (try clear hi); (try clear ho0)) | (go_at_call 11; (with_reducible refine (order_Asks.calls k _ _ t239 t245 _ ?side1 ?side2 A4.out).mono ?_); (case side1 => repeat (first | exact (Kd.V_reads' HO241.out).2.2 | (with_reducible refine Kd.C_alloc ?_ _) | (with_reducible refine Kd.C_drewN ?_ _) | (with_reducible refine Kd.C_drew ?_))); (case side2 => exact (Kd.V_reads' HO241.out).2.1); rintro e w30 ⟨v246, rfl, ho0, hb⟩; have n0_ := Aside0.mk (Kd.V_below (by (with_reducible repeat (first | apply Kd.V_alloc | apply Kd.V_drewN | apply Kd.V_drew)); exact HO241.out) hb); have n1_ := Aside0.mk (Kd.R_below (by (with_reducible repeat (first | apply Kd.R_alloc | apply Kd.R_drewN | apply Kd.R_drew)); exact HO244.out) hb); have n2_ := Aside0.mk (Kd.V_lower (Kd.V_mono (ok' := fun k_ => some k_ ≠ (v243 : Value).ownBlock) ho0 (fun k_ hk_ => (Kd.fresh' (Kd.R_lt (by (with_reducible repeat (first | apply Kd.R_alloc | apply Kd.R_drewN | apply Kd.R_drew)); exact HO244.out)) k_ hk_))) (below_size (by repeat (first | (with_reducible first | exact HB.out | apply below_alloc | apply pw_below_drewN | apply below_drew1) | exact HB.out)))); have n3_ := Aside0.mk (below_step (by repeat (first | (with_reducible first | exact HB.out | apply below_alloc | apply pw_below_drewN | apply below_drew1) | exact HB.out)) hb); clear HO241; clear HO244; clear HB; have HO241 := n0_; have HO244 := n1_; have HO247 := n2_; have HB := n3_; clear n0_ n1_ n2_ n3_; (try clear hb); (try clear hb2); (try clear hk); (try clear hi); (try clear ho0); obtain ⟨Ao31, co31, eo31⟩ := Kd.V_slice HO247.out; subst eo31; obtain ⟨Ao32, co32, eo32⟩ := Kd.R_slice HO244.out; subst eo32)))
    go_ret
    exact ⟨by first | rfl | (simp [errW_none, errW_some] <;> rfl) | (simp [*, errW_none, errW_some] <;> rfl), by repeat (first | (with_reducible first | exact HB.out | apply below_alloc | apply pw_below_drewN | apply below_drew1) | exact HB.out)⟩

def prebendlaw15_OrderQueues.Pure : Prop := ∀ (l0 : List (S32)), (l0.length ≤ maxLen ∧ ∀ y ∈ l0, g32 y) → ∃ k, prebendlaw15_OrderQueues.f k l0 = some true
theorem prebendlaw15_OrderQueues.walk (P : prebendlaw15_OrderQueues.Pure) (A0 : Option Addr) (c0 : Nat) (l0 : List (S32)) (w : World) (hr0 : Kd.C k32 w A0 l0.length l0) (hc0 : l0.length ≤ c0) (h0_ : (l0.length ≤ maxLen ∧ ∀ y ∈ l0, g32 y)) :
    Calls Try.prog 3 #[.slice A0 l0.length c0] w fun e w' => e = .returned (.bool true) ∧ Below w.heap.size w w' := by
  obtain ⟨k, h⟩ := P l0 h0_
  refine (prebendlaw15_OrderQueues.calls k A0 c0 l0 true w hr0 hc0 h).mono ?_
  rintro e w' ⟨rfl, hd⟩
  exact ⟨rfl, hd⟩

end Go.Proofs.Ytkhfgflcanmefaa.PAll
end
section
set_option linter.unusedVariables false
set_option linter.unusedSimpArgs false
namespace Go.Proofs.Ytkhfgflcanmefaa.PAll
open Go Go.RowKit Go.Proofs.YtkhfgflcanmefaaW.PrintWords Go.Proofs.YtkhfgflcanmefaaW.PrintLast
section Rel
def Rel {β : Type} (P : β → Prop) (a b : Option β) : Prop := a = b ∧ ∀ r, b = some r → P r
theorem Rel.none {β : Type} {P : β → Prop} : Rel P none none := ⟨rfl, fun _ h => by cases h⟩
theorem Rel.some {β : Type} {P : β → Prop} {x : β} (h : P x) : Rel P (some x) (some x) := ⟨rfl, fun _ e => by cases e; exact h⟩
theorem Rel.ite {β : Type} {P : β → Prop} {c : Prop} [Decidable c] {a b a' b' : Option β} (h1 : c → Rel P a a') (h2 : ¬ c → Rel P b b') : Rel P (if c then a else b) (if c then a' else b') := by
  split
  · exact h1 ‹_›
  · exact h2 ‹_›
theorem Rel.bind {β γ : Type} {Q : γ → Prop} {P : β → Prop} {a a' : Option γ} {f f' : γ → Option β} (h : Rel Q a a') (hf : ∀ r, Q r → Rel P (f r) (f' r)) : Rel P (a.bind f) (a'.bind f') := by
  obtain ⟨rfl, hq⟩ := h
  cases a with
  | none => exact Rel.none
  | some x => exact hf x (hq x rfl)
theorem Rel.bindE {β γ : Type} {P : β → Prop} {a a' : Option γ} {f f' : γ → Option β} (h : a = a') (hf : ∀ r, Rel P (f r) (f' r)) : Rel P (a.bind f) (a'.bind f') := by
  subst h
  cases a with
  | none => exact Rel.none
  | some x => exact hf x
variable (al : List S32)
abbrev CP : Cap := ⟨al, fun _ _ => none⟩
def cmpA (a b : Int) : Option Int := (cmp_Compare_int.f (rd_T32 al b).f5 (rd_T32 al a).f5).bind fun c1 => (cmp_Compare_int.f (rd_T32 al a).f0 (rd_T32 al b).f0).bind fun c2 => cmp_Or_int.f 10 [c1, c2]
abbrev CT : Cap := ⟨al, cmpA al⟩
def InR (x : Int) : Prop := 0 ≤ x ∧ x < (al.length : Int)
def InRs (xs : List Int) : Prop := ∀ x ∈ xs, InR al x
variable {al}
theorem cmpT (a b : Int) : @order_Order_1.f (CT al) a b = cmpA al a b := by unfold order_Order_1.f; split <;> rfl
theorem cmp_rel {a b : Int} (ha : InR al a) (hb : InR al b) : @order_Order_1.f (CP al) a b = @order_Order_1.f (CT al) a b := by
  have c : (0 ≤ a ∧ a < (al.length : Int)) ∧ 0 ≤ b ∧ b < (al.length : Int) := ⟨ha, hb⟩
  exact (if_pos c).trans (if_pos c).symm
theorem inr_rd {xs : List Int} (h : InRs al xs) {j : Int} (h0 : 0 ≤ j) (h1 : j < (xs.length : Int)) : InR al (rd xs j) := by
  have hj : j.toNat < xs.length := by omega
  have e : rd xs j = xs[j.toNat] := by simp [rd, List.getD_eq_getElem?_getD, hj]
  rw [e]
  exact h _ (List.getElem_mem hj)
theorem inr_set {xs : List Int} (h : InRs al xs) {v : Int} (hv : InR al v) (i : Nat) : InRs al (xs.set i v) := by
  intro x hx
  rcases List.mem_or_eq_of_mem_set hx with hx | rfl
  · exact h x hx
  · exact hv
theorem inr_swap {xs : List Int} (h : InRs al xs) {i j : Int} (i0 : 0 ≤ i) (i1 : i < (xs.length : Int)) (j0 : 0 ≤ j) (j1 : j < (xs.length : Int)) (p q : Nat) : InRs al ((xs.set p (rd xs j)).set q (rd xs i)) := inr_set (inr_set h (inr_rd h j0 j1) p) (inr_rd h i0 i1) q
theorem rel_insertionSortCmpFunc : ∀ k, (∀ y0 y1 y2 y3, InRs al y0 → Rel (InRs al) (@slices_insertionSortCmpFunc_int__order_Order_1.l0 (CP al) k y0 y1 y2 y3) (@slices_insertionSortCmpFunc_int__order_Order_1.l0 (CT al) k y0 y1 y2 y3)) ∧ (∀ y0 y1 y2 y3 y4, InRs al y0 → Rel (InRs al) (@slices_insertionSortCmpFunc_int__order_Order_1.l1 (CP al) k y0 y1 y2 y3 y4) (@slices_insertionSortCmpFunc_int__order_Order_1.l1 (CT al) k y0 y1 y2 y3 y4))
  | 0 => ⟨by intros; unfold slices_insertionSortCmpFunc_int__order_Order_1.l0; exact Rel.none, by intros; unfold slices_insertionSortCmpFunc_int__order_Order_1.l1; exact Rel.none⟩
  | k + 1 => by
    obtain ⟨ih_l0, ih_l1⟩ := rel_insertionSortCmpFunc k
    refine ⟨?_, ?_⟩
    · intro y0 y1 y2 y3 hy
      rw [@slices_insertionSortCmpFunc_int__order_Order_1.l0.eq_2, @slices_insertionSortCmpFunc_int__order_Order_1.l0.eq_2]
      repeat' first
        | (with_reducible exact Rel.none)
        | (with_reducible refine Rel.ite (fun _ => ?_) (fun _ => ?_))
        | (with_reducible exact ih_l0 _ _ _ _ (by first | assumption | exact inr_swap hy ‹_› ‹_› ‹_› ‹_› _ _))
        | (with_reducible exact ih_l1 _ _ _ _ _ (by first | assumption | exact inr_swap hy ‹_› ‹_› ‹_› ‹_› _ _))
        | (with_reducible exact Rel.some (by first | assumption | trivial))
        | (with_reducible refine Rel.bindE (cmp_rel (inr_rd hy ‹_› ‹_›) (inr_rd hy ‹_› ‹_›)) (fun _ => ?_))
    · intro y0 y1 y2 y3 y4 hy
      rw [@slices_insertionSortCmpFunc_int__order_Order_1.l1.eq_2, @slices_insertionSortCmpFunc_int__order_Order_1.l1.eq_2]
      repeat' first
        | (with_reducible exact Rel.none)
        | (with_reducible refine Rel.ite (fun _ => ?_) (fun _ => ?_))
        | (with_reducible exact ih_l0 _ _ _ _ (by first | assumption | exact inr_swap hy ‹_› ‹_› ‹_› ‹_› _ _))
        | (with_reducible exact ih_l1 _ _ _ _ _ (by first | assumption | exact inr_swap hy ‹_› ‹_› ‹_› ‹_› _ _))
        | (with_reducible exact Rel.some (by first | assumption | trivial))
        | (with_reducible refine Rel.bindE (cmp_rel (inr_rd hy ‹_› ‹_›) (inr_rd hy ‹_› ‹_›)) (fun _ => ?_))
theorem rel_ins {al : List S32} (k : Nat) (xs : List Int) (a0 a1 : Int) (h : InRs al xs) : Rel (InRs al) (@slices_insertionSortCmpFunc_int__order_Order_1.f (CP al) k xs a0 a1) (@slices_insertionSortCmpFunc_int__order_Order_1.f (CT al) k xs a0 a1) := (rel_insertionSortCmpFunc k).1 _ _ _ _ h
theorem rel_swapRangeCmpFunc : ∀ k, (∀ y0 y1 y2 y3 y4, InRs al y0 → Rel (InRs al) (@slices_swapRangeCmpFunc_int__order_Order_1.l0 (CP al) k y0 y1 y2 y3 y4) (@slices_swapRangeCmpFunc_int__order_Order_1.l0 (CT al) k y0 y1 y2 y3 y4))
  | 0 => by intros; unfold slices_swapRangeCmpFunc_int__order_Order_1.l0; exact Rel.none
  | k + 1 => by
    have ih_l0 := rel_swapRangeCmpFunc k
    · intro y0 y1 y2 y3 y4 hy
      rw [@slices_swapRangeCmpFunc_int__order_Order_1.l0.eq_2, @slices_swapRangeCmpFunc_int__order_Order_1.l0.eq_2]
      repeat' first
        | (with_reducible exact Rel.none)
        | (with_reducible refine Rel.ite (fun _ => ?_) (fun _ => ?_))
        | (with_reducible exact ih_l0 _ _ _ _ _ (by first | assumption | exact inr_swap hy ‹_› ‹_› ‹_› ‹_› _ _))
        | (with_reducible exact Rel.some (by first | assumption | trivial))
        | (with_reducible refine Rel.bindE (cmp_rel (inr_rd hy ‹_› ‹_›) (inr_rd hy ‹_› ‹_›)) (fun _ => ?_))
theorem rel_sw {al : List S32} (k : Nat) (xs : List Int) (a0 a1 a2 : Int) (h : InRs al xs) : Rel (InRs al) (@slices_swapRangeCmpFunc_int__order_Order_1.f (CP al) k xs a0 a1 a2) (@slices_swapRangeCmpFunc_int__order_Order_1.f (CT al) k xs a0 a1 a2) := (rel_swapRangeCmpFunc k) _ _ _ _ _ h
theorem rel_rotateCmpFunc : ∀ k, (∀ y0 y1 y2 y3, InRs al y0 → Rel (InRs al) (@slices_rotateCmpFunc_int__order_Order_1.l0 (CP al) k y0 y1 y2 y3) (@slices_rotateCmpFunc_int__order_Order_1.l0 (CT al) k y0 y1 y2 y3))
  | 0 => by intros; unfold slices_rotateCmpFunc_int__order_Order_1.l0; exact Rel.none
  | k + 1 => by
    have ih_l0 := rel_rotateCmpFunc k
    · intro y0 y1 y2 y3 hy
      rw [@slices_rotateCmpFunc_int__order_Order_1.l0.eq_2, @slices_rotateCmpFunc_int__order_Order_1.l0.eq_2]
      repeat' first
        | (with_reducible exact Rel.none)
        | (with_reducible refine Rel.ite (fun _ => ?_) (fun _ => ?_))
        | (with_reducible exact ih_l0 _ _ _ _ (by first | assumption | exact inr_swap hy ‹_› ‹_› ‹_› ‹_› _ _))
        | (with_reducible exact Rel.some (by first | assumption | trivial))
        | (with_reducible refine Rel.bindE (cmp_rel (inr_rd hy ‹_› ‹_›) (inr_rd hy ‹_› ‹_›)) (fun _ => ?_))
        | (with_reducible refine Rel.bind (rel_sw _ _ _ _ _ (by assumption)) (fun _ hy_ => ?_))
theorem rel_ro {al : List S32} (k : Nat) (xs : List Int) (a0 a1 a2 : Int) (h : InRs al xs) : Rel (InRs al) (@slices_rotateCmpFunc_int__order_Order_1.f (CP al) k xs a0 a1 a2) (@slices_rotateCmpFunc_int__order_Order_1.f (CT al) k xs a0 a1 a2) := (rel_rotateCmpFunc k) _ _ _ _ h
theorem rel_symMergeCmpFunc : ∀ k, (∀ y0 y1 y2 y3, InRs al y0 → Rel (InRs al) (@slices_symMergeCmpFunc_int__order_Order_1.l0 (CP al) k y0 y1 y2 y3) (@slices_symMergeCmpFunc_int__order_Order_1.l0 (CT al) k y0 y1 y2 y3)) ∧ (∀ y0 y1 y2, InRs al y0 → Rel (InRs al) (@slices_symMergeCmpFunc_int__order_Order_1.l1 (CP al) k y0 y1 y2) (@slices_symMergeCmpFunc_int__order_Order_1.l1 (CT al) k y0 y1 y2)) ∧ (∀ y0 y1 y2 y3, InRs al y0 → Rel (InRs al) (@slices_symMergeCmpFunc_int__order_Order_1.l2 (CP al) k y0 y1 y2 y3) (@slices_symMergeCmpFunc_int__order_Order_1.l2 (CT al) k y0 y1 y2 y3)) ∧ (∀ y0 y1 y2, InRs al y0 → Rel (InRs al) (@slices_symMergeCmpFunc_int__order_Order_1.l3 (CP al) k y0 y1 y2) (@slices_symMergeCmpFunc_int__order_Order_1.l3 (CT al) k y0 y1 y2)) ∧ (∀ y0 y1 y2 y3 y4 y5 y6 y7, InRs al y0 → Rel (InRs al) (@slices_symMergeCmpFunc_int__order_Order_1.j4 (CP al) k y0 y1 y2 y3 y4 y5 y6 y7) (@slices_symMergeCmpFunc_int__order_Order_1.j4 (CT al) k y0 y1 y2 y3 y4 y5 y6 y7)) ∧ (∀ y0 y1 y2 y3 y4 y5 y6 y7 y8, InRs al y0 → Rel (InRs al) (@slices_symMergeCmpFunc_int__order_Order_1.l4 (CP al) k y0 y1 y2 y3 y4 y5 y6 y7 y8) (@slices_symMergeCmpFunc_int__order_Order_1.l4 (CT al) k y0 y1 y2 y3 y4 y5 y6 y7 y8)) ∧ (∀ y0 y1 y2 y3 y4 y5 y6 y7, InRs al y0 → Rel (InRs al) (@slices_symMergeCmpFunc_int__order_Order_1.j6 (CP al) k y0 y1 y2 y3 y4 y5 y6 y7) (@slices_symMergeCmpFunc_int__order_Order_1.j6 (CT al) k y0 y1 y2 y3 y4 y5 y6 y7)) ∧ (∀ y0 y1 y2 y3 y4 y5, InRs al y0 → Rel (InRs al) (@slices_symMergeCmpFunc_int__order_Order_1.j7 (CP al) k y0 y1 y2 y3 y4 y5) (@slices_symMergeCmpFunc_int__order_Order_1.j7 (CT al) k y0 y1 y2 y3 y4 y5)) ∧ (∀ y0 y1 y2 y3 y4 y5 y6, InRs al y0 → Rel (InRs al) (@slices_symMergeCmpFunc_int__order_Order_1.j8 (CP al) k y0 y1 y2 y3 y4 y5 y6) (@slices_symMergeCmpFunc_int__order_Order_1.j8 (CT al) k y0 y1 y2 y3 y4 y5 y6)) ∧ (∀ y0 y1 y2 y3, InRs al y0 → Rel (InRs al) (@slices_symMergeCmpFunc_int__order_Order_1.f (CP al) k y0 y1 y2 y3) (@slices_symMergeCmpFunc_int__order_Order_1.f (CT al) k y0 y1 y2 y3))
  | 0 => ⟨by intros; unfold slices_symMergeCmpFunc_int__order_Order_1.l0; exact Rel.none, by intros; unfold slices_symMergeCmpFunc_int__order_Order_1.l1; exact Rel.none, by intros; unfold slices_symMergeCmpFunc_int__order_Order_1.l2; exact Rel.none, by intros; unfold slices_symMergeCmpFunc_int__order_Order_1.l3; exact Rel.none, by intros; unfold slices_symMergeCmpFunc_int__order_Order_1.j4; exact Rel.none, by intros; unfold slices_symMergeCmpFunc_int__order_Order_1.l4; exact Rel.none, by intros; unfold slices_symMergeCmpFunc_int__order_Order_1.j6; exact Rel.none, by intros; unfold slices_symMergeCmpFunc_int__order_Order_1.j7; exact Rel.none, by intros; unfold slices_symMergeCmpFunc_int__order_Order_1.j8; exact Rel.none, by intros; unfold slices_symMergeCmpFunc_int__order_Order_1.f; exact Rel.none⟩
  | k + 1 => by
    obtain ⟨ih_l0, ih_l1, ih_l2, ih_l3, ih_j4, ih_l4, ih_j6, ih_j7, ih_j8, ih_f⟩ := rel_symMergeCmpFunc k
    refine ⟨?_, ?_, ?_, ?_, ?_, ?_, ?_, ?_, ?_, ?_⟩
    · intro y0 y1 y2 y3 hy
      rw [@slices_symMergeCmpFunc_int__order_Order_1.l0.eq_2, @slices_symMergeCmpFunc_int__order_Order_1.l0.eq_2]
      repeat' first
        | (with_reducible exact Rel.none)
        | (with_reducible refine Rel.ite (fun _ => ?_) (fun _ => ?_))
        | (with_reducible exact ih_l0 _ _ _ _ (by first | assumption | exact inr_swap hy ‹_› ‹_› ‹_› ‹_› _ _))
        | (with_reducible exact ih_l1 _ _ _ (by first | assumption | exact inr_swap hy ‹_› ‹_› ‹_› ‹_› _ _))
        | (with_reducible exact ih_l2 _ _ _ _ (by first | assumption | exact inr_swap hy ‹_› ‹_› ‹_› ‹_› _ _))
        | (with_reducible exact ih_l3 _ _ _ (by first | assumption | exact inr_swap hy ‹_› ‹_› ‹_› ‹_› _ _))
        | (with_reducible exact ih_j4 _ _ _ _ _ _ _ _ (by first | assumption | exact inr_swap hy ‹_› ‹_› ‹_› ‹_› _ _))
        | (with_reducible exact ih_l4 _ _ _ _ _ _ _ _ _ (by first | assumption | exact inr_swap hy ‹_› ‹_› ‹_› ‹_› _ _))
        | (with_reducible exact ih_j6 _ _ _ _ _ _ _ _ (by first | assumption | exact inr_swap hy ‹_› ‹_› ‹_› ‹_› _ _))
        | (with_reducible exact ih_j7 _ _ _ _ _ _ (by first | assumption | exact inr_swap hy ‹_› ‹_› ‹_› ‹_› _ _))
        | (with_reducible exact ih_j8 _ _ _ _ _ _ _ (by first | assumption | exact inr_swap hy ‹_› ‹_› ‹_› ‹_› _ _))
        | (with_reducible exact ih_f _ _ _ _ (by first | assumption | exact inr_swap hy ‹_› ‹_› ‹_› ‹_› _ _))
        | (with_reducible exact Rel.some (by first | assumption | trivial))
        | (with_reducible refine Rel.bindE (cmp_rel (inr_rd hy ‹_› ‹_›) (inr_rd hy ‹_› ‹_›)) (fun _ => ?_))
        | (with_reducible refine Rel.bind (rel_ro _ _ _ _ _ (by assumption)) (fun _ hy_ => ?_))
        | (with_reducible refine Rel.bind (ih_f _ _ _ _ (by assumption)) (fun _ hy_ => ?_))
    · intro y0 y1 y2 hy
      rw [@slices_symMergeCmpFunc_int__order_Order_1.l1.eq_2, @slices_symMergeCmpFunc_int__order_Order_1.l1.eq_2]
      repeat' first
        | (with_reducible exact Rel.none)
        | (with_reducible refine Rel.ite (fun _ => ?_) (fun _ => ?_))
        | (with_reducible exact ih_l0 _ _ _ _ (by first | assumption | exact inr_swap hy ‹_› ‹_› ‹_› ‹_› _ _))
        | (with_reducible exact ih_l1 _ _ _ (by first | assumption | exact inr_swap hy ‹_› ‹_› ‹_› ‹_› _ _))
        | (with_reducible exact ih_l2 _ _ _ _ (by first | assumption | exact inr_swap hy ‹_› ‹_› ‹_› ‹_› _ _))
        | (with_reducible exact ih_l3 _ _ _ (by first | assumption | exact inr_swap hy ‹_› ‹_› ‹_› ‹_› _ _))
        | (with_reducible exact ih_j4 _ _ _ _ _ _ _ _ (by first | assumption | exact inr_swap hy ‹_› ‹_› ‹_› ‹_› _ _))
        | (with_reducible exact ih_l4 _ _ _ _ _ _ _ _ _ (by first | assumption | exact inr_swap hy ‹_› ‹_› ‹_› ‹_› _ _))
        | (with_reducible exact ih_j6 _ _ _ _ _ _ _ _ (by first | assumption | exact inr_swap hy ‹_› ‹_› ‹_› ‹_› _ _))
        | (with_reducible exact ih_j7 _ _ _ _ _ _ (by first | assumption | exact inr_swap hy ‹_› ‹_› ‹_› ‹_› _ _))
        | (with_reducible exact ih_j8 _ _ _ _ _ _ _ (by first | assumption | exact inr_swap hy ‹_› ‹_› ‹_› ‹_› _ _))
        | (with_reducible exact ih_f _ _ _ _ (by first | assumption | exact inr_swap hy ‹_› ‹_› ‹_› ‹_› _ _))
        | (with_reducible exact Rel.some (by first | assumption | trivial))
        | (with_reducible refine Rel.bindE (cmp_rel (inr_rd hy ‹_› ‹_›) (inr_rd hy ‹_› ‹_›)) (fun _ => ?_))
        | (with_reducible refine Rel.bind (rel_ro _ _ _ _ _ (by assumption)) (fun _ hy_ => ?_))
        | (with_reducible refine Rel.bind (ih_f _ _ _ _ (by assumption)) (fun _ hy_ => ?_))
    · intro y0 y1 y2 y3 hy
      rw [@slices_symMergeCmpFunc_int__order_Order_1.l2.eq_2, @slices_symMergeCmpFunc_int__order_Order_1.l2.eq_2]
      repeat' first
        | (with_reducible exact Rel.none)
        | (with_reducible refine Rel.ite (fun _ => ?_) (fun _ => ?_))
        | (with_reducible exact ih_l0 _ _ _ _ (by first | assumption | exact inr_swap hy ‹_› ‹_› ‹_› ‹_› _ _))
        | (with_reducible exact ih_l1 _ _ _ (by first | assumption | exact inr_swap hy ‹_› ‹_› ‹_› ‹_› _ _))
        | (with_reducible exact ih_l2 _ _ _ _ (by first | assumption | exact inr_swap hy ‹_› ‹_› ‹_› ‹_› _ _))
        | (with_reducible exact ih_l3 _ _ _ (by first | assumption | exact inr_swap hy ‹_› ‹_› ‹_› ‹_› _ _))
        | (with_reducible exact ih_j4 _ _ _ _ _ _ _ _ (by first | assumption | exact inr_swap hy ‹_› ‹_› ‹_› ‹_› _ _))
        | (with_reducible exact ih_l4 _ _ _ _ _ _ _ _ _ (by first | assumption | exact inr_swap hy ‹_› ‹_› ‹_› ‹_› _ _))
        | (with_reducible exact ih_j6 _ _ _ _ _ _ _ _ (by first | assumption | exact inr_swap hy ‹_› ‹_› ‹_› ‹_› _ _))
        | (with_reducible exact ih_j7 _ _ _ _ _ _ (by first | assumption | exact inr_swap hy ‹_› ‹_› ‹_› ‹_› _ _))
        | (with_reducible exact ih_j8 _ _ _ _ _ _ _ (by first | assumption | exact inr_swap hy ‹_› ‹_› ‹_› ‹_› _ _))
        | (with_reducible exact ih_f _ _ _ _ (by first | assumption | exact inr_swap hy ‹_› ‹_› ‹_› ‹_› _ _))
        | (with_reducible exact Rel.some (by first | assumption | trivial))
        | (with_reducible refine Rel.bindE (cmp_rel (inr_rd hy ‹_› ‹_›) (inr_rd hy ‹_› ‹_›)) (fun _ => ?_))
        | (with_reducible refine Rel.bind (rel_ro _ _ _ _ _ (by assumption)) (fun _ hy_ => ?_))
        | (with_reducible refine Rel.bind (ih_f _ _ _ _ (by assumption)) (fun _ hy_ => ?_))
    · intro y0 y1 y2 hy
      rw [@slices_symMergeCmpFunc_int__order_Order_1.l3.eq_2, @slices_symMergeCmpFunc_int__order_Order_1.l3.eq_2]
      repeat' first
        | (with_reducible exact Rel.none)
        | (with_reducible refine Rel.ite (fun _ => ?_) (fun _ => ?_))
        | (with_reducible exact ih_l0 _ _ _ _ (by first | assumption | exact inr_swap hy ‹_› ‹_› ‹_› ‹_› _ _))
        | (with_reducible exact ih_l1 _ _ _ (by first | assumption | exact inr_swap hy ‹_› ‹_› ‹_› ‹_› _ _))
        | (with_reducible exact ih_l2 _ _ _ _ (by first | assumption | exact inr_swap hy ‹_› ‹_› ‹_› ‹_› _ _))
        | (with_reducible exact ih_l3 _ _ _ (by first | assumption | exact inr_swap hy ‹_› ‹_› ‹_› ‹_› _ _))
        | (with_reducible exact ih_j4 _ _ _ _ _ _ _ _ (by first | assumption | exact inr_swap hy ‹_› ‹_› ‹_› ‹_› _ _))
        | (with_reducible exact ih_l4 _ _ _ _ _ _ _ _ _ (by first | assumption | exact inr_swap hy ‹_› ‹_› ‹_› ‹_› _ _))
        | (with_reducible exact ih_j6 _ _ _ _ _ _ _ _ (by first | assumption | exact inr_swap hy ‹_› ‹_› ‹_› ‹_› _ _))
        | (with_reducible exact ih_j7 _ _ _ _ _ _ (by first | assumption | exact inr_swap hy ‹_› ‹_› ‹_› ‹_› _ _))
        | (with_reducible exact ih_j8 _ _ _ _ _ _ _ (by first | assumption | exact inr_swap hy ‹_› ‹_› ‹_› ‹_› _ _))
        | (with_reducible exact ih_f _ _ _ _ (by first | assumption | exact inr_swap hy ‹_› ‹_› ‹_› ‹_› _ _))
        | (with_reducible exact Rel.some (by first | assumption | trivial))
        | (with_reducible refine Rel.bindE (cmp_rel (inr_rd hy ‹_› ‹_›) (inr_rd hy ‹_› ‹_›)) (fun _ => ?_))
        | (with_reducible refine Rel.bind (rel_ro _ _ _ _ _ (by assumption)) (fun _ hy_ => ?_))
        | (with_reducible refine Rel.bind (ih_f _ _ _ _ (by assumption)) (fun _ hy_ => ?_))
    · intro y0 y1 y2 y3 y4 y5 y6 y7 hy
      rw [@slices_symMergeCmpFunc_int__order_Order_1.j4.eq_2, @slices_symMergeCmpFunc_int__order_Order_1.j4.eq_2]
      repeat' first
        | (with_reducible exact Rel.none)
        | (with_reducible refine Rel.ite (fun _ => ?_) (fun _ => ?_))
        | (with_reducible exact ih_l0 _ _ _ _ (by first | assumption | exact inr_swap hy ‹_› ‹_› ‹_› ‹_› _ _))
        | (with_reducible exact ih_l1 _ _ _ (by first | assumption | exact inr_swap hy ‹_› ‹_› ‹_› ‹_› _ _))
        | (with_reducible exact ih_l2 _ _ _ _ (by first | assumption | exact inr_swap hy ‹_› ‹_› ‹_› ‹_› _ _))
        | (with_reducible exact ih_l3 _ _ _ (by first | assumption | exact inr_swap hy ‹_› ‹_› ‹_› ‹_› _ _))
        | (with_reducible exact ih_j4 _ _ _ _ _ _ _ _ (by first | assumption | exact inr_swap hy ‹_› ‹_› ‹_› ‹_› _ _))
        | (with_reducible exact ih_l4 _ _ _ _ _ _ _ _ _ (by first | assumption | exact inr_swap hy ‹_› ‹_› ‹_› ‹_› _ _))
        | (with_reducible exact ih_j6 _ _ _ _ _ _ _ _ (by first | assumption | exact inr_swap hy ‹_› ‹_› ‹_› ‹_› _ _))
        | (with_reducible exact ih_j7 _ _ _ _ _ _ (by first | assumption | exact inr_swap hy ‹_› ‹_› ‹_› ‹_› _ _))
        | (with_reducible exact ih_j8 _ _ _ _ _ _ _ (by first | assumption | exact inr_swap hy ‹_› ‹_› ‹_› ‹_› _ _))
        | (with_reducible exact ih_f _ _ _ _ (by first | assumption | exact inr_swap hy ‹_› ‹_› ‹_› ‹_› _ _))
        | (with_reducible exact Rel.some (by first | assumption | trivial))
        | (with_reducible refine Rel.bindE (cmp_rel (inr_rd hy ‹_› ‹_›) (inr_rd hy ‹_› ‹_›)) (fun _ => ?_))
        | (with_reducible refine Rel.bind (rel_ro _ _ _ _ _ (by assumption)) (fun _ hy_ => ?_))
        | (with_reducible refine Rel.bind (ih_f _ _ _ _ (by assumption)) (fun _ hy_ => ?_))
    · intro y0 y1 y2 y3 y4 y5 y6 y7 y8 hy
      rw [@slices_symMergeCmpFunc_int__order_Order_1.l4.eq_2, @slices_symMergeCmpFunc_int__order_Order_1.l4.eq_2]
      repeat' first
        | (with_reducible exact Rel.none)
        | (with_reducible refine Rel.ite (fun _ => ?_) (fun _ => ?_))
        | (with_reducible exact ih_l0 _ _ _ _ (by first | assumption | exact inr_swap hy ‹_› ‹_› ‹_› ‹_› _ _))
        | (with_reducible exact ih_l1 _ _ _ (by first | assumption | exact inr_swap hy ‹_› ‹_› ‹_› ‹_› _ _))
        | (with_reducible exact ih_l2 _ _ _ _ (by first | assumption | exact inr_swap hy ‹_› ‹_› ‹_› ‹_› _ _))
        | (with_reducible exact ih_l3 _ _ _ (by first | assumption | exact inr_swap hy ‹_› ‹_› ‹_› ‹_› _ _))
        | (with_reducible exact ih_j4 _ _ _ _ _ _ _ _ (by first | assumption | exact inr_swap hy ‹_› ‹_› ‹_› ‹_› _ _))
        | (with_reducible exact ih_l4 _ _ _ _ _ _ _ _ _ (by first | assumption | exact inr_swap hy ‹_› ‹_› ‹_› ‹_› _ _))
        | (with_reducible exact ih_j6 _ _ _ _ _ _ _ _ (by first | assumption | exact inr_swap hy ‹_› ‹_› ‹_› ‹_› _ _))
        | (with_reducible exact ih_j7 _ _ _ _ _ _ (by first | assumption | exact inr_swap hy ‹_› ‹_› ‹_› ‹_› _ _))
        | (with_reducible exact ih_j8 _ _ _ _ _ _ _ (by first | assumption | exact inr_swap hy ‹_› ‹_› ‹_› ‹_› _ _))
        | (with_reducible exact ih_f _ _ _ _ (by first | assumption | exact inr_swap hy ‹_› ‹_› ‹_› ‹_› _ _))
        | (with_reducible exact Rel.some (by first | assumption | trivial))
        | (with_reducible refine Rel.bindE (cmp_rel (inr_rd hy ‹_› ‹_›) (inr_rd hy ‹_› ‹_›)) (fun _ => ?_))
        | (with_reducible refine Rel.bind (rel_ro _ _ _ _ _ (by assumption)) (fun _ hy_ => ?_))
        | (with_reducible refine Rel.bind (ih_f _ _ _ _ (by assumption)) (fun _ hy_ => ?_))
    · intro y0 y1 y2 y3 y4 y5 y6 y7 hy
      rw [@slices_symMergeCmpFunc_int__order_Order_1.j6.eq_2, @slices_symMergeCmpFunc_int__order_Order_1.j6.eq_2]
      repeat' first
        | (with_reducible exact Rel.none)
        | (with_reducible refine Rel.ite (fun _ => ?_) (fun _ => ?_))
        | (with_reducible exact ih_l0 _ _ _ _ (by first | assumption | exact inr_swap hy ‹_› ‹_› ‹_› ‹_› _ _))
        | (with_reducible exact ih_l1 _ _ _ (by first | assumption | exact inr_swap hy ‹_› ‹_› ‹_› ‹_› _ _))
        | (with_reducible exact ih_l2 _ _ _ _ (by first | assumption | exact inr_swap hy ‹_› ‹_› ‹_› ‹_› _ _))
        | (with_reducible exact ih_l3 _ _ _ (by first | assumption | exact inr_swap hy ‹_› ‹_› ‹_› ‹_› _ _))
        | (with_reducible exact ih_j4 _ _ _ _ _ _ _ _ (by first | assumption | exact inr_swap hy ‹_› ‹_› ‹_› ‹_› _ _))
        | (with_reducible exact ih_l4 _ _ _ _ _ _ _ _ _ (by first | assumption | exact inr_swap hy ‹_› ‹_› ‹_› ‹_› _ _))
        | (with_reducible exact ih_j6 _ _ _ _ _ _ _ _ (by first | assumption | exact inr_swap hy ‹_› ‹_› ‹_› ‹_› _ _))
        | (with_reducible exact ih_j7 _ _ _ _ _ _ (by first | assumption | exact inr_swap hy ‹_› ‹_› ‹_› ‹_› _ _))
        | (with_reducible exact ih_j8 _ _ _ _ _ _ _ (by first | assumption | exact inr_swap hy ‹_› ‹_› ‹_› ‹_› _ _))
        | (with_reducible exact ih_f _ _ _ _ (by first | assumption | exact inr_swap hy ‹_› ‹_› ‹_› ‹_› _ _))
        | (with_reducible exact Rel.some (by first | assumption | trivial))
        | (with_reducible refine Rel.bindE (cmp_rel (inr_rd hy ‹_› ‹_›) (inr_rd hy ‹_› ‹_›)) (fun _ => ?_))
        | (with_reducible refine Rel.bind (rel_ro _ _ _ _ _ (by assumption)) (fun _ hy_ => ?_))
        | (with_reducible refine Rel.bind (ih_f _ _ _ _ (by assumption)) (fun _ hy_ => ?_))
    · intro y0 y1 y2 y3 y4 y5 hy
      rw [@slices_symMergeCmpFunc_int__order_Order_1.j7.eq_2, @slices_symMergeCmpFunc_int__order_Order_1.j7.eq_2]
      repeat' first
        | (with_reducible exact Rel.none)
        | (with_reducible refine Rel.ite (fun _ => ?_) (fun _ => ?_))
        | (with_reducible exact ih_l0 _ _ _ _ (by first | assumption | exact inr_swap hy ‹_› ‹_› ‹_› ‹_› _ _))
        | (with_reducible exact ih_l1 _ _ _ (by first | assumption | exact inr_swap hy ‹_› ‹_› ‹_› ‹_› _ _))
        | (with_reducible exact ih_l2 _ _ _ _ (by first | assumption | exact inr_swap hy ‹_› ‹_› ‹_› ‹_› _ _))
        | (with_reducible exact ih_l3 _ _ _ (by first | assumption | exact inr_swap hy ‹_› ‹_› ‹_› ‹_› _ _))
        | (with_reducible exact ih_j4 _ _ _ _ _ _ _ _ (by first | assumption | exact inr_swap hy ‹_› ‹_› ‹_› ‹_› _ _))
        | (with_reducible exact ih_l4 _ _ _ _ _ _ _ _ _ (by first | assumption | exact inr_swap hy ‹_› ‹_› ‹_› ‹_› _ _))
        | (with_reducible exact ih_j6 _ _ _ _ _ _ _ _ (by first | assumption | exact inr_swap hy ‹_› ‹_› ‹_› ‹_› _ _))
        | (with_reducible exact ih_j7 _ _ _ _ _ _ (by first | assumption | exact inr_swap hy ‹_› ‹_› ‹_› ‹_› _ _))
        | (with_reducible exact ih_j8 _ _ _ _ _ _ _ (by first | assumption | exact inr_swap hy ‹_› ‹_› ‹_› ‹_› _ _))
        | (with_reducible exact ih_f _ _ _ _ (by first | assumption | exact inr_swap hy ‹_› ‹_› ‹_› ‹_› _ _))
        | (with_reducible exact Rel.some (by first | assumption | trivial))
        | (with_reducible refine Rel.bindE (cmp_rel (inr_rd hy ‹_› ‹_›) (inr_rd hy ‹_› ‹_›)) (fun _ => ?_))
        | (with_reducible refine Rel.bind (rel_ro _ _ _ _ _ (by assumption)) (fun _ hy_ => ?_))
        | (with_reducible refine Rel.bind (ih_f _ _ _ _ (by assumption)) (fun _ hy_ => ?_))
    · intro y0 y1 y2 y3 y4 y5 y6 hy
      rw [@slices_symMergeCmpFunc_int__order_Order_1.j8.eq_2, @slices_symMergeCmpFunc_int__order_Order_1.j8.eq_2]
      repeat' first
        | (with_reducible exact Rel.none)
        | (with_reducible refine Rel.ite (fun _ => ?_) (fun _ => ?_))
        | (with_reducible exact ih_l0 _ _ _ _ (by first | assumption | exact inr_swap hy ‹_› ‹_› ‹_› ‹_› _ _))
        | (with_reducible exact ih_l1 _ _ _ (by first | assumption | exact inr_swap hy ‹_› ‹_› ‹_› ‹_› _ _))
        | (with_reducible exact ih_l2 _ _ _ _ (by first | assumption | exact inr_swap hy ‹_› ‹_› ‹_› ‹_› _ _))
        | (with_reducible exact ih_l3 _ _ _ (by first | assumption | exact inr_swap hy ‹_› ‹_› ‹_› ‹_› _ _))
        | (with_reducible exact ih_j4 _ _ _ _ _ _ _ _ (by first | assumption | exact inr_swap hy ‹_› ‹_› ‹_› ‹_› _ _))
        | (with_reducible exact ih_l4 _ _ _ _ _ _ _ _ _ (by first | assumption | exact inr_swap hy ‹_› ‹_› ‹_› ‹_› _ _))
        | (with_reducible exact ih_j6 _ _ _ _ _ _ _ _ (by first | assumption | exact inr_swap hy ‹_› ‹_› ‹_› ‹_› _ _))
        | (with_reducible exact ih_j7 _ _ _ _ _ _ (by first | assumption | exact inr_swap hy ‹_› ‹_› ‹_› ‹_› _ _))
        | (with_reducible exact ih_j8 _ _ _ _ _ _ _ (by first | assumption | exact inr_swap hy ‹_› ‹_› ‹_› ‹_› _ _))
        | (with_reducible exact ih_f _ _ _ _ (by first | assumption | exact inr_swap hy ‹_› ‹_› ‹_› ‹_› _ _))
        | (with_reducible exact Rel.some (by first | assumption | trivial))
        | (with_reducible refine Rel.bindE (cmp_rel (inr_rd hy ‹_› ‹_›) (inr_rd hy ‹_› ‹_›)) (fun _ => ?_))
        | (with_reducible refine Rel.bind (rel_ro _ _ _ _ _ (by assumption)) (fun _ hy_ => ?_))
        | (with_reducible refine Rel.bind (ih_f _ _ _ _ (by assumption)) (fun _ hy_ => ?_))
    · intro y0 y1 y2 y3 hy
      rw [@slices_symMergeCmpFunc_int__order_Order_1.f.eq_2, @slices_symMergeCmpFunc_int__order_Order_1.f.eq_2]
      repeat' first
        | (with_reducible exact Rel.none)
        | (with_reducible refine Rel.ite (fun _ => ?_) (fun _ => ?_))
        | (with_reducible exact ih_l0 _ _ _ _ (by first | assumption | exact inr_swap hy ‹_› ‹_› ‹_› ‹_› _ _))
        | (with_reducible exact ih_l1 _ _ _ (by first | assumption | exact inr_swap hy ‹_› ‹_› ‹_› ‹_› _ _))
        | (with_reducible exact ih_l2 _ _ _ _ (by first | assumption | exact inr_swap hy ‹_› ‹_› ‹_› ‹_› _ _))
        | (with_reducible exact ih_l3 _ _ _ (by first | assumption | exact inr_swap hy ‹_› ‹_› ‹_› ‹_› _ _))
        | (with_reducible exact ih_j4 _ _ _ _ _ _ _ _ (by first | assumption | exact inr_swap hy ‹_› ‹_› ‹_› ‹_› _ _))
        | (with_reducible exact ih_l4 _ _ _ _ _ _ _ _ _ (by first | assumption | exact inr_swap hy ‹_› ‹_› ‹_› ‹_› _ _))
        | (with_reducible exact ih_j6 _ _ _ _ _ _ _ _ (by first | assumption | exact inr_swap hy ‹_› ‹_› ‹_› ‹_› _ _))
        | (with_reducible exact ih_j7 _ _ _ _ _ _ (by first | assumption | exact inr_swap hy ‹_› ‹_› ‹_› ‹_› _ _))
        | (with_reducible exact ih_j8 _ _ _ _ _ _ _ (by first | assumption | exact inr_swap hy ‹_› ‹_› ‹_› ‹_› _ _))
        | (with_reducible exact ih_f _ _ _ _ (by first | assumption | exact inr_swap hy ‹_› ‹_› ‹_› ‹_› _ _))
        | (with_reducible exact Rel.some (by first | assumption | trivial))
        | (with_reducible refine Rel.bindE (cmp_rel (inr_rd hy ‹_› ‹_›) (inr_rd hy ‹_› ‹_›)) (fun _ => ?_))
        | (with_reducible refine Rel.bind (rel_ro _ _ _ _ _ (by assumption)) (fun _ hy_ => ?_))
        | (with_reducible refine Rel.bind (ih_f _ _ _ _ (by assumption)) (fun _ hy_ => ?_))
theorem rel_sy {al : List S32} (k : Nat) (xs : List Int) (a b c : Int) (h : InRs al xs) : Rel (InRs al) (@slices_symMergeCmpFunc_int__order_Order_1.f (CP al) k xs a b c) (@slices_symMergeCmpFunc_int__order_Order_1.f (CT al) k xs a b c) := (rel_symMergeCmpFunc k).2.2.2.2.2.2.2.2.2 _ _ _ _ h
theorem rel_stableCmpFunc : ∀ k, (∀ y0 y1 y2 y3 y4, InRs al y0 → Rel (InRs al) (@slices_stableCmpFunc_int__order_Order_1.l0 (CP al) k y0 y1 y2 y3 y4) (@slices_stableCmpFunc_int__order_Order_1.l0 (CT al) k y0 y1 y2 y3 y4)) ∧ (∀ y0 y1 y2, InRs al y0 → Rel (InRs al) (@slices_stableCmpFunc_int__order_Order_1.l1 (CP al) k y0 y1 y2) (@slices_stableCmpFunc_int__order_Order_1.l1 (CT al) k y0 y1 y2)) ∧ (∀ y0 y1 y2 y3 y4, InRs al y0 → Rel (InRs al) (@slices_stableCmpFunc_int__order_Order_1.l2 (CP al) k y0 y1 y2 y3 y4) (@slices_stableCmpFunc_int__order_Order_1.l2 (CT al) k y0 y1 y2 y3 y4))
  | 0 => ⟨by intros; unfold slices_stableCmpFunc_int__order_Order_1.l0; exact Rel.none, by intros; unfold slices_stableCmpFunc_int__order_Order_1.l1; exact Rel.none, by intros; unfold slices_stableCmpFunc_int__order_Order_1.l2; exact Rel.none⟩
  | k + 1 => by
    obtain ⟨ih_l0, ih_l1, ih_l2⟩ := rel_stableCmpFunc k
    refine ⟨?_, ?_, ?_⟩
    · intro y0 y1 y2 y3 y4 hy
      rw [@slices_stableCmpFunc_int__order_Order_1.l0.eq_2, @slices_stableCmpFunc_int__order_Order_1.l0.eq_2]
      repeat' first
        | (with_reducible exact Rel.none)
        | (with_reducible refine Rel.ite (fun _ => ?_) (fun _ => ?_))
        | (with_reducible exact ih_l0 _ _ _ _ _ (by first | assumption | exact inr_swap hy ‹_› ‹_› ‹_› ‹_› _ _))
        | (with_reducible exact ih_l1 _ _ _ (by first | assumption | exact inr_swap hy ‹_› ‹_› ‹_› ‹_› _ _))
        | (with_reducible exact ih_l2 _ _ _ _ _ (by first | assumption | exact inr_swap hy ‹_› ‹_› ‹_› ‹_› _ _))
        | (with_reducible exact Rel.some (by first | assumption | trivial))
        | (with_reducible refine Rel.bindE (cmp_rel (inr_rd hy ‹_› ‹_›) (inr_rd hy ‹_› ‹_›)) (fun _ => ?_))
        | (with_reducible refine Rel.bind (rel_ins _ _ _ _ (by assumption)) (fun _ hy_ => ?_))
        | (with_reducible refine Rel.bind (rel_sy _ _ _ _ _ (by assumption)) (fun _ hy_ => ?_))
    · intro y0 y1 y2 hy
      rw [@slices_stableCmpFunc_int__order_Order_1.l1.eq_2, @slices_stableCmpFunc_int__order_Order_1.l1.eq_2]
      repeat' first
        | (with_reducible exact Rel.none)
        | (with_reducible refine Rel.ite (fun _ => ?_) (fun _ => ?_))
        | (with_reducible exact ih_l0 _ _ _ _ _ (by first | assumption | exact inr_swap hy ‹_› ‹_› ‹_› ‹_› _ _))
        | (with_reducible exact ih_l1 _ _ _ (by first | assumption | exact inr_swap hy ‹_› ‹_› ‹_› ‹_› _ _))
        | (with_reducible exact ih_l2 _ _ _ _ _ (by first | assumption | exact inr_swap hy ‹_› ‹_› ‹_› ‹_› _ _))
        | (with_reducible exact Rel.some (by first | assumption | trivial))
        | (with_reducible refine Rel.bindE (cmp_rel (inr_rd hy ‹_› ‹_›) (inr_rd hy ‹_› ‹_›)) (fun _ => ?_))
        | (with_reducible refine Rel.bind (rel_ins _ _ _ _ (by assumption)) (fun _ hy_ => ?_))
        | (with_reducible refine Rel.bind (rel_sy _ _ _ _ _ (by assumption)) (fun _ hy_ => ?_))
    · intro y0 y1 y2 y3 y4 hy
      rw [@slices_stableCmpFunc_int__order_Order_1.l2.eq_2, @slices_stableCmpFunc_int__order_Order_1.l2.eq_2]
      repeat' first
        | (with_reducible exact Rel.none)
        | (with_reducible refine Rel.ite (fun _ => ?_) (fun _ => ?_))
        | (with_reducible exact ih_l0 _ _ _ _ _ (by first | assumption | exact inr_swap hy ‹_› ‹_› ‹_› ‹_› _ _))
        | (with_reducible exact ih_l1 _ _ _ (by first | assumption | exact inr_swap hy ‹_› ‹_› ‹_› ‹_› _ _))
        | (with_reducible exact ih_l2 _ _ _ _ _ (by first | assumption | exact inr_swap hy ‹_› ‹_› ‹_› ‹_› _ _))
        | (with_reducible exact Rel.some (by first | assumption | trivial))
        | (with_reducible refine Rel.bindE (cmp_rel (inr_rd hy ‹_› ‹_›) (inr_rd hy ‹_› ‹_›)) (fun _ => ?_))
        | (with_reducible refine Rel.bind (rel_ins _ _ _ _ (by assumption)) (fun _ hy_ => ?_))
        | (with_reducible refine Rel.bind (rel_sy _ _ _ _ _ (by assumption)) (fun _ hy_ => ?_))
theorem rel_st {al : List S32} (k : Nat) (xs : List Int) (a : Int) (h : InRs al xs) : Rel (InRs al) (@slices_stableCmpFunc_int__order_Order_1.f (CP al) k xs a) (@slices_stableCmpFunc_int__order_Order_1.f (CT al) k xs a) := (rel_stableCmpFunc k).1 _ _ _ _ _ h
theorem rel_sort {al : List S32} (k : Nat) (xs : List Int) (h : InRs al xs) : Rel (InRs al) (@slices_SortStableFunc_int__order_Order_1.f (CP al) k xs) (@slices_SortStableFunc_int__order_Order_1.f (CT al) k xs) := Rel.bind (rel_st k xs _ h) (fun _ hr => Rel.some hr)
end Rel
end Go.Proofs.Ytkhfgflcanmefaa.PAll
end
