/- Words, plain functions and contracts of the functions that the law of this claim reaches; no conditions. -/
import Derived.Test.YtedpoahndddgfaaBProfilePlays1
section
namespace Go.Proofs.Ytedpoahndddgfaa.PAll
open Go.RowKit Go.Proofs.YtedpoahndddgfaaW.PrintWords Go.Proofs.YtedpoahndddgfaaW.PrintLast Go.Proofs.YtedpoahndddgfaaW.PrintMore
attribute [local go_sem] max2_int min2_int max_two min_two max_three min_three max_four min_four   -- for this text's walks alone
set_option linter.unusedVariables false
set_option linter.unusedSimpArgs false

/-! ### profile_tidy: function 43 -/
def profile_tidy.l0 : Nat → List (S40) → List (S40) → List (S40) → Int → Int → Option ((List (S40)) × (List (S40)))
 | 0, _, _, _, _, _ => none
 | k + 1, x0, x3, x8, x9, x10 => if x10 < x9 then (if 0 ≤ x10 then (if x10 < (x8.length : Int) then (if (wrap64 (x10 + 1)) < (x0.length : Int) then (if 0 ≤ (wrap64 (x10 + 1)) then (if ((rd_T40 x0 (wrap64 (x10 + 1))).f0) = ((rd_T40 x8 x10).f0) then (profile_tidy.l0 k x0 x3 x8 x9 (wrap64 (x10 + 1))) else (if (x3.length : Int) > 0 then (if 0 ≤ (wrap64 ((x3.length : Int) - 1)) then (if (wrap64 ((x3.length : Int) - 1)) < (x3.length : Int) then (if ((rd_T40 x3 (wrap64 ((x3.length : Int) - 1))).f1) = ((rd_T40 x8 x10).f1) then (profile_tidy.l0 k x0 x3 x8 x9 (wrap64 (x10 + 1))) else (if x3.length < 8796093022208 then (profile_tidy.l0 k x0 (x3 ++ [(⟨(rd_T40 x8 x10).f0, (rd_T40 x8 x10).f1⟩ : S40)]) x8 x9 (wrap64 (x10 + 1))) else (none))) else (none)) else (none)) else (if x3.length < 8796093022208 then (profile_tidy.l0 k x0 (x3 ++ [(⟨(rd_T40 x8 x10).f0, (rd_T40 x8 x10).f1⟩ : S40)]) x8 x9 (wrap64 (x10 + 1))) else (none)))) else (none)) else (if (x3.length : Int) > 0 then (if 0 ≤ (wrap64 ((x3.length : Int) - 1)) then (if (wrap64 ((x3.length : Int) - 1)) < (x3.length : Int) then (if ((rd_T40 x3 (wrap64 ((x3.length : Int) - 1))).f1) = ((rd_T40 x8 x10).f1) then (profile_tidy.l0 k x0 x3 x8 x9 (wrap64 (x10 + 1))) else (if x3.length < 8796093022208 then (profile_tidy.l0 k x0 (x3 ++ [(⟨(rd_T40 x8 x10).f0, (rd_T40 x8 x10).f1⟩ : S40)]) x8 x9 (wrap64 (x10 + 1))) else (none))) else (none)) else (none)) else (if x3.length < 8796093022208 then (profile_tidy.l0 k x0 (x3 ++ [(⟨(rd_T40 x8 x10).f0, (rd_T40 x8 x10).f1⟩ : S40)]) x8 x9 (wrap64 (x10 + 1))) else (none)))) else (none)) else (none)) else ((slices_Clip_Step.f x3).bind fun t133 => (some (t133, x0)))
def profile_tidy.f (k : Nat) (l0 : List (S40)) : Option ((List (S40)) × (List (S40))) := (slices_SortStableFunc_Step__profile_tidy_1.f k l0).bind fun t115 => (profile_tidy.l0 k t115 ([] : List (S40)) t115 (l0.length : Int) 0)
theorem profile_tidy.mono_l : ∀ k, (∀ y0 y1 y2 y3 y4, LeO (profile_tidy.l0 k y0 y1 y2 y3 y4) (profile_tidy.l0 (k + 1) y0 y1 y2 y3 y4))
 | 0 => fun _ _ _ _ _ r h => by simp [profile_tidy.l0] at h
 | k + 1 => by
  have ih0 := profile_tidy.mono_l k
  ·intro y0 y1 y2 y3 y4
   unfold profile_tidy.l0
   repeat' first
   | (with_reducible exact ih0 _ _ _ _ _)
   | (with_reducible exact slices_SortStableFunc_Step__profile_tidy_1.mono _ _)
   | (with_reducible exact LeO.refl _)
   | (with_reducible exact LeO.none _)
   | (with_reducible refine LeO.ite ?_ ?_)
   | (with_reducible refine LeO.bind ?_ (fun _ => ?_))
   | exact ih0 _ _ _ _ _
   | exact slices_SortStableFunc_Step__profile_tidy_1.mono _ _
   | exact LeO.none _
   | refine LeO.ite ?_ ?_
   | refine LeO.bind ?_ (fun _ => ?_)
theorem profile_tidy.mono : ∀ a0 k, LeO (profile_tidy.f k a0) (profile_tidy.f (k + 1) a0) := by
 intro a0 k
 have ih0 := profile_tidy.mono_l k
 unfold profile_tidy.f
 repeat' first
   | (with_reducible exact ih0 _ _ _ _ _)
   | (with_reducible exact slices_SortStableFunc_Step__profile_tidy_1.mono _ _)
   | (with_reducible exact LeO.refl _)
   | (with_reducible exact LeO.none _)
   | (with_reducible refine LeO.ite ?_ ?_)
   | (with_reducible refine LeO.bind ?_ (fun _ => ?_))
   | exact ih0 _ _ _ _ _
   | exact slices_SortStableFunc_Step__profile_tidy_1.mono _ _
   | exact LeO.none _
   | refine LeO.ite ?_ ?_
   | refine LeO.bind ?_ (fun _ => ?_)
set_option maxHeartbeats 8000000 in
set_option maxRecDepth 100000 in
theorem profile_tidy.calls (k : Nat) (P0_ : Nat → Prop) (u9000_ : Value) (l0 : List (S40)) (r1 : List (S40)) (r2 : List (S40)) (w0 w : World) (hB : Below w0.heap.size w0 w) (ho0 : Kd.R k40 40 w w0.heap.size P0_ u9000_ l0) (h : profile_tidy.f k l0 = some (r1, r2)) :
  Calls Try.prog 43 #[u9000_] w fun e w' => ∃ v0_ : Value, e = .returned (v0_) ∧ Kd.V k40 40 w' w0.heap.size (fun k_ => (P0_ k_ ∨ w.heap.size ≤ k_) ∧ some k_ ≠ (u9000_ : Value).ownBlock) v0_ r1 ∧ Kd.R k40 40 w' w0.heap.size (fun k_ => (P0_ k_ ∨ w.heap.size ≤ k_)) u9000_ r2 ∧ Below w0.heap.size w0 w' ∧ Kept w w' (fun k_ => P0_ k_) := by
 have hu40 := Try.underlying40
 have HO0 := Aside0.mk (show Kd.R k40 40 w w0.heap.size (fun k_ => (P0_ k_ ∨ w.heap.size ≤ k_)) u9000_ l0 from Kd.R_mono ho0 (fun k_ hk => (.inl hk)))
 have HK := Aside0.mk (Kept.refl w (fun k_ => P0_ k_))
 have HW0 := Aside0.mk hB.size
 have HB := Aside0.mk hB
 clear hB
 have H : ((slices_SortStableFunc_Step__profile_tidy_1.f k l0).bind fun t115 => (profile_tidy.l0 k t115 ([] : List (S40)) t115 (l0.length : Int) 0)) = some (r1, r2) := h
 clear h
 replace H := Option.bind_eq_some_iff.mp H
 obtain ⟨t115, A20, H⟩ := H
 replace H : (profile_tidy.l0 k t115 ([] : List (S40)) t115 (l0.length : Int) 0) = some (r1, r2) := H
 have A2 := Aside0.mk A20
 clear A20
 have H' := Aside0.mk H
 clear H
 obtain ⟨Ao3, co3, eo3⟩ := Kd.R_slice HO0.out
 subst eo3
 go_enter Try.func43, Try.ntmps43
 go_wp2_with (first | (go_at_call 48; (with_reducible refine (slices_SortStableFunc_Step__profile_tidy_1.calls cmp57 k (fun k_ => some k_ = (.slice Ao3 l0.length co3 : Value).ownBlock) (.slice Ao3 l0.length co3) l0  t115 w0 _ ?side1 ?side2 A2.out).mono ?_); (case side1 => repeat (first | (with_reducible first | exact HB.out | apply below_alloc | apply pw_below_drewN | apply below_drew1) | exact HB.out)); (case side2 => exact Kd.R_tight rfl HO0.out); rintro e w4 ⟨rfl, hy0, hb, hkp⟩; have n0_ := Aside0.mk (Kd.R_reok rfl hy0 (fun k_ e_ => HO0.out.1 k_ e_)); have n1_ := Aside0.mk (Kept.then_ (S := (fun k_ => P0_ k_)) (mK HK.out) hkp (fun k_ hs_ => (fun e_ => (HO0.out.1 k_ e_.symm)) hs_)); have n2_ := Aside0.mk (hb); clear HO0; clear HK; clear HB; have HO0 := n0_; have HK := n1_; have HB := n2_; clear n0_ n1_ n2_; (try clear hb); (try clear hkp); (try clear hy0)))
 repeat (go_quiet (fail); try go_wp2)
 go_loopg [3, 10] k (fun kq v3 v10 w' => ∃ (x3_1 : List (S40)) (x10_1 : Int), v10 = .int .i64 x10_1 ∧ Aside0 (profile_tidy.l0 kq t115 x3_1 t115 (l0.length : Int) x10_1 = some (r1, r2)) ∧ Aside0 (kq ≤ k) ∧ Aside0 (Kd.R k40 40 w' w0.heap.size (fun k_ => (P0_ k_ ∨ w.heap.size ≤ k_) ∧ some k_ ≠ (v3 : Value).ownBlock) (.slice Ao3 l0.length co3) t115) ∧ Aside0 (Kd.R k40 40 w' w0.heap.size (fun k_ => (P0_ k_ ∨ w.heap.size ≤ k_) ∧ some k_ ≠ ((.slice Ao3 l0.length co3) : Value).ownBlock ∧ some k_ ≠ ((.slice Ao3 l0.length co3) : Value).ownBlock) v3 x3_1) ∧ Aside0 (Kd.R k40 40 w' w0.heap.size (fun k_ => (P0_ k_ ∨ w.heap.size ≤ k_) ∧ some k_ ≠ (v3 : Value).ownBlock) (.slice Ao3 l0.length co3) t115) ∧ Aside0 (Kept w w' (fun k_ => P0_ k_)) ∧ Aside0 (Below w0.heap.size w0 w'))
 case atStart => exact ⟨(([] : List (S40))), (0), ez, H', ⟨Nat.le_refl _⟩, ⟨by (with_reducible repeat (first | apply Kd.R_alloc | apply Kd.R_drewN | apply Kd.R_drew)); exact Kd.R_mono HO0.out (fun _ hk => ⟨hk, (by simp [Value.ownBlock])⟩)⟩, ⟨by first | exact Kd.R_nil _ _ _ _ _ | exact Kd.N_nil _ _ _ _ _ | exact Kd.V_nil _ _ _ _ _ | exact Kd.Q_nil _ _ _ _ _ | exact Kd.S_nil _ _ _ _ _⟩, ⟨by (with_reducible repeat (first | apply Kd.R_alloc | apply Kd.R_drewN | apply Kd.R_drew)); exact Kd.R_mono HO0.out (fun _ hk => ⟨hk, (by simp [Value.ownBlock])⟩)⟩, ⟨mK HK.out⟩, ⟨mB HB.out⟩⟩
 case round =>
  clear H'
  (try clear p2); (try clear c4)
  obtain ⟨x3_1, x10_1, rfl, HA, HK1, HO_0, HO_3, HO_8, HK, HB⟩ := hrel
  have hl0_1 := (Kd.R_reads' HO_0.out).1
  rw [hl0_1] at HO_0
  (try simp only [hl0_1])
  (try simp only [hl0_1] at HO_3)
  (try simp only [hl0_1] at HO_8)
  have hl8_1 := (Kd.R_reads' HO_8.out).1
  rw [hl8_1] at HO_8
  (try simp only [hl8_1])
  (try simp only [hl8_1] at HO_0)
  (try simp only [hl8_1] at HO_3)
  cases gk with
  | zero => exact absurd HA.out (by simp [profile_tidy.l0])
  | succ k1 =>
   have H := HA.out
   clear HA
   simp only [profile_tidy.l0] at H
   by_cases c5 : x10_1 < (l0.length : Int)
   ·rw [if_pos c5] at H
    have c5b0 : decide (x10_1 < (l0.length : Int)) = true := decide_eq_true c5
    clear c5
    by_cases c6 : 0 ≤ x10_1
    ·rw [if_pos c6] at H
     have c6b0 : decide (0 ≤ x10_1) = true := decide_eq_true c6
     clear c6
     by_cases c7 : x10_1 < (t115.length : Int)
     ·rw [if_pos c7] at H
      have c7b0 : decide (x10_1 < (t115.length : Int)) = true := decide_eq_true c7
      clear c7
      by_cases c8 : (wrap64 (x10_1 + 1)) < (t115.length : Int)
      ·rw [if_pos c8] at H
       have c8b0 : decide ((wrap64 (x10_1 + 1)) < (t115.length : Int)) = true := decide_eq_true c8
       clear c8
       obtain ⟨ji9, hji9⟩ : ∃ j_ : Int, (wrap64 (x10_1 + 1)) = j_ := ⟨_, rfl⟩
       replace H : (if 0 ≤ (ji9) then (if ((rd_T40 t115 (ji9)).f0) = ((rd_T40 t115 x10_1).f0) then (profile_tidy.l0 k1 t115 x3_1 t115 (l0.length : Int) ji9) else (if (x3_1.length : Int) > 0 then (if 0 ≤ (wrap64 ((x3_1.length : Int) - 1)) then (if (wrap64 ((x3_1.length : Int) - 1)) < (x3_1.length : Int) then (if ((rd_T40 x3_1 (wrap64 ((x3_1.length : Int) - 1))).f1) = ((rd_T40 t115 x10_1).f1) then (profile_tidy.l0 k1 t115 x3_1 t115 (l0.length : Int) ji9) else (if x3_1.length < 8796093022208 then (profile_tidy.l0 k1 t115 (x3_1 ++ [(⟨(rd_T40 t115 x10_1).f0, (rd_T40 t115 x10_1).f1⟩ : S40)]) t115 (l0.length : Int) ji9) else (none))) else (none)) else (none)) else (if x3_1.length < 8796093022208 then (profile_tidy.l0 k1 t115 (x3_1 ++ [(⟨(rd_T40 t115 x10_1).f0, (rd_T40 t115 x10_1).f1⟩ : S40)]) t115 (l0.length : Int) ji9) else (none)))) else (none)) = some (r1, r2) := by first | (rw [hji9] at H; exact H) | (simp only [hji9] at H ⊢; exact H)
       (try rw [hji9] at c8b0)
       have hji9w : (IntKind.i64.wrap (x10_1 + 1)) = ji9 := (i64_w _).trans hji9
       by_cases c10 : 0 ≤ (ji9)
       ·rw [if_pos c10] at H
        have c10b0 : decide (0 ≤ (ji9)) = true := decide_eq_true c10
        clear c10
        by_cases c11 : ((rd_T40 t115 (ji9)).f0) = ((rd_T40 t115 x10_1).f0)
        ·rw [if_pos c11] at H
         have c11b0 : (((rd_T40 t115 (ji9)).f0) == ((rd_T40 t115 x10_1).f0)) = true := beq_iff_eq.mpr c11
         have c11b1 : (((rd_T40 t115 (ji9)).f0) != ((rd_T40 t115 x10_1).f0)) = false := bne_eq_false_iff_eq.mpr c11
         clear c11
         have H' := Aside0.mk H
         clear H
         have p116 : 0 ≤ (x10_1 : Int) := oda
         have q116 : x10_1 < (t115.length : Int) := oda
         obtain ⟨ad116, e116, hx116_0, hx116_1⟩ := at_T40 (Kd.R_reads' HO_8.out).2.2 x10_1 p116 q116
         cases e116
         replace p116 := eq_true p116
         replace q116 := eq_true q116
         go_wp2_with (first | ((with_reducible refine gate_dst (N := 5) rfl ?_); (try (refine gate_guard (by rfl) ?_; dsimp only)); refine box_event ?hg (N := 5) ?hd (cs := #[.int .i64 0, .int .i64 0]) (t := 40) ?hr ?_; (case hd => rfl); (case hg => rfl); (case hr => first | (go_simp; done) | (go_simp; rfl)); intro gb117 hg w12 hbox hb; have n0_ := Aside0.mk (Kd.R_below (Kd.R_elderB (mR HO_0.out) gb117 (Nat.le_of_eq hg.symm)) hb); have n1_ := Aside0.mk (Kd.R_below (Kd.R_elderB (mR HO_3.out) gb117 (Nat.le_of_eq hg.symm)) hb); have n2_ := Aside0.mk (Kd.R_below (Kd.R_elderB (mR HO_8.out) gb117 (Nat.le_of_eq hg.symm)) hb); have n3_ := Aside0.mk (Kept.below (S := (fun k_ => P0_ k_)) (mK HK.out) hb); have n4_ := Aside0.mk (below_step (mB HB.out) hb); have n5_ := Aside0.mk (hbox); have n6_ := Aside0.mk ((by rw [hg]; exact (by first | exact HK.out.1 | exact (show Kept w _ (fun k_ => P0_ k_) from by repeat (first | (with_reducible first | exact HK.out | apply Kept.alloc | apply Kept.drewN | apply Kept.drew) | exact HK.out)).1) : w.heap.size ≤ gb117)); have n7_ := Aside0.mk ((by rw [hg]; exact (below_size (mB HB.out)) : w0.heap.size ≤ gb117)); clear HO_0; clear HO_3; clear HO_8; clear HK; clear HB; have HO_0 := n0_; have HO_3 := n1_; have HO_8 := n2_; have HK := n3_; have HB := n4_; have BK117 := n5_; have GW117 := n6_; have GE117 := n7_; clear n0_ n1_ n2_ n3_ n4_ n5_ n6_ n7_; clear hb hbox hg; have hcz13_0 : w12.cell? ⟨gb117, 0, none⟩ = some (.int .i64 0) := (blk_cell BK117.out 0).trans rfl; have hcz13_1 : w12.cell? ⟨gb117, 1, none⟩ = some (.int .i64 0) := (blk_cell BK117.out 1).trans rfl; have hfz13_0 := blk_frozen BK117.out 0; have hfz13_1 := blk_frozen BK117.out 1; have p118 : 0 ≤ ((ji9) : Int) := oda; have q118 : (ji9) < (t115.length : Int) := oda; obtain ⟨ad118, e118, hx118_0, hx118_1⟩ := at_T40 (Kd.R_reads' HO_0.out).2.2 (ji9) p118 q118; obtain rfl : ad116 = ad118 := (by injection e118); have hn118_0 : ad116.block ≠ gb117 := (by first | exact Kd.own_blk (Kd.R_ne HO_0.out BK117.out (by decide)) | exact Kd.own_blk (Kd.R_away HO_0.out (fun _ h_ => h_.2))); have hn118_1 : ad116.block ≠ gb117 := (by first | exact Kd.own_blk (Kd.R_ne HO_0.out BK117.out (by decide)) | exact Kd.own_blk (Kd.R_away HO_0.out (fun _ h_ => h_.2))); replace hx118_0 := (cell_far (p := ⟨gb117, 0, none⟩) (by first | (rw [add_block]; exact hn118_0) | (show (Addr.add _ _).block ≠ _; rw [add_block]; exact hn118_0) | exact hn118_0) (.int .i64 ((rd_T40 t115 x10_1).f0))).trans hx118_0; replace hx118_1 := (cell_far (p := ⟨gb117, 0, none⟩) (by first | (rw [add_block]; exact hn118_0) | (show (Addr.add _ _).block ≠ _; rw [add_block]; exact hn118_0) | exact hn118_0) (.int .i64 ((rd_T40 t115 x10_1).f0))).trans hx118_1; replace hx118_0 := (cell_far (p := ⟨gb117, 1, none⟩) (by first | (rw [add_block]; exact hn118_1) | (show (Addr.add _ _).block ≠ _; rw [add_block]; exact hn118_1) | exact hn118_1) (.int .i64 ((rd_T40 t115 x10_1).f1))).trans hx118_0; replace hx118_1 := (cell_far (p := ⟨gb117, 1, none⟩) (by first | (rw [add_block]; exact hn118_1) | (show (Addr.add _ _).block ≠ _; rw [add_block]; exact hn118_1) | exact hn118_1) (.int .i64 ((rd_T40 t115 x10_1).f1))).trans hx118_1; (try have hy118_0 := fun (n_ : Nat) => (show ((((w12.drewN n_).setCell ⟨gb117, 0, none⟩ (.int .i64 ((rd_T40 t115 x10_1).f0))).setCell ⟨gb117, 1, none⟩ (.int .i64 ((rd_T40 t115 x10_1).f1)))).cell? _ = some _ from hx118_0)); (try have hy118_1 := fun (n_ : Nat) => (show ((((w12.drewN n_).setCell ⟨gb117, 0, none⟩ (.int .i64 ((rd_T40 t115 x10_1).f0))).setCell ⟨gb117, 1, none⟩ (.int .i64 ((rd_T40 t115 x10_1).f1)))).cell? _ = some _ from hx118_1)); clear hn118_0; clear hn118_1; replace p118 := eq_true p118; replace q118 := eq_true q118))
         repeat (go_quiet (fail); try go_wp2)
         (try simp only [← hl0_1])
         go_roundg k1
         case measure => have := HK1.out; omega
         case rel => exact ⟨(x3_1), (ji9), (by first | rfl | (simp; done) | (simp only [← hji9] <;> (first | rfl | simp)) | (simp [*]; done)), H', ⟨by have := HK1.out; omega⟩, ⟨by (try simp only [hl0_1]); (try simp only [hl8_1]); (with_reducible repeat (first | apply Kd.R_alloc | apply Kd.R_drewN | apply Kd.R_drew)); exact Kd.R_mono (Kd.R_far (p := ⟨gb117, 1, none⟩) (Kd.R_far (p := ⟨gb117, 0, none⟩) (Kd.R_mono HO_0.out (fun k_ hk => (⟨hk, hk.2⟩ : _ ∧ k_ ≠ gb117))) (fun _ hk => hk.2) (.int .i64 ((rd_T40 t115 x10_1).f0))) (fun _ hk => hk.2) (.int .i64 ((rd_T40 t115 x10_1).f1))) (fun _ hk => ⟨hk.1.1.1, hk.1.1.2⟩)⟩, ⟨by (try simp only [hl0_1]); (try simp only [hl8_1]); (with_reducible repeat (first | apply Kd.R_alloc | apply Kd.R_drewN | apply Kd.R_drew)); exact Kd.R_mono (Kd.R_far (p := ⟨gb117, 1, none⟩) (Kd.R_far (p := ⟨gb117, 0, none⟩) (Kd.R_mono HO_3.out (fun k_ hk => (⟨hk, hk.2⟩ : _ ∧ k_ ≠ gb117))) (fun _ hk => hk.2) (.int .i64 ((rd_T40 t115 x10_1).f0))) (fun _ hk => hk.2) (.int .i64 ((rd_T40 t115 x10_1).f1))) (fun _ hk => ⟨hk.1.1.1, ⟨hk.1.1.2.1, hk.1.1.2.2⟩⟩)⟩, ⟨by (try simp only [hl0_1]); (try simp only [hl8_1]); (with_reducible repeat (first | apply Kd.R_alloc | apply Kd.R_drewN | apply Kd.R_drew)); exact Kd.R_mono (Kd.R_far (p := ⟨gb117, 1, none⟩) (Kd.R_far (p := ⟨gb117, 0, none⟩) (Kd.R_mono HO_8.out (fun k_ hk => (⟨hk, hk.2⟩ : _ ∧ k_ ≠ gb117))) (fun _ hk => hk.2) (.int .i64 ((rd_T40 t115 x10_1).f0))) (fun _ hk => hk.2) (.int .i64 ((rd_T40 t115 x10_1).f1))) (fun _ hk => ⟨hk.1.1.1, hk.1.1.2⟩)⟩, ⟨by repeat (first | (with_reducible first | exact HK.out | apply Kept.alloc | apply Kept.drewN | apply Kept.drew | refine Kept.setCell ?_ (.inr GW117.out) _) | exact HK.out)⟩, ⟨mBs HB.out⟩⟩
        ·rw [if_neg c11] at H
         have c11b0 : (((rd_T40 t115 (ji9)).f0) == ((rd_T40 t115 x10_1).f0)) = false := beq_eq_false_iff_ne.mpr c11
         have c11b1 : (((rd_T40 t115 (ji9)).f0) != ((rd_T40 t115 x10_1).f0)) = true := bne_iff_ne.mpr c11
         by_cases c14 : (x3_1.length : Int) > 0
         ·rw [if_pos c14] at H
          have c14b0 : decide (0 < (x3_1.length : Int)) = true := decide_eq_true c14
          have c14b1 : decide (0 < x3_1.length) = true := decide_eq_true (by omega)
          clear c14
          obtain ⟨ji15, hji15⟩ : ∃ j_ : Int, (wrap64 ((x3_1.length : Int) - 1)) = j_ := ⟨_, rfl⟩
          replace H : (if 0 ≤ (ji15) then (if (ji15) < (x3_1.length : Int) then (if ((rd_T40 x3_1 (ji15)).f1) = ((rd_T40 t115 x10_1).f1) then (profile_tidy.l0 k1 t115 x3_1 t115 (l0.length : Int) ji9) else (if x3_1.length < 8796093022208 then (profile_tidy.l0 k1 t115 (x3_1 ++ [(⟨(rd_T40 t115 x10_1).f0, (rd_T40 t115 x10_1).f1⟩ : S40)]) t115 (l0.length : Int) ji9) else (none))) else (none)) else (none)) = some (r1, r2) := by first | (rw [hji15] at H; exact H) | (simp only [hji15] at H ⊢; exact H)
          have hji15w : (IntKind.i64.wrap ((x3_1.length : Int) - 1)) = ji15 := (i64_w _).trans hji15
          (try simp only [hji15] at hji9)
          (try simp only [hji15w] at hji9w)
          by_cases c16 : 0 ≤ (ji15)
          ·rw [if_pos c16] at H
           have c16b0 : decide (0 ≤ (ji15)) = true := decide_eq_true c16
           clear c16
           by_cases c17 : (ji15) < (x3_1.length : Int)
           ·rw [if_pos c17] at H
            have c17b0 : decide ((ji15) < (x3_1.length : Int)) = true := decide_eq_true c17
            clear c17
            by_cases c18 : ((rd_T40 x3_1 (ji15)).f1) = ((rd_T40 t115 x10_1).f1)
            ·rw [if_pos c18] at H
             have c18b0 : (((rd_T40 x3_1 (ji15)).f1) == ((rd_T40 t115 x10_1).f1)) = true := beq_iff_eq.mpr c18
             have c18b1 : (((rd_T40 x3_1 (ji15)).f1) != ((rd_T40 t115 x10_1).f1)) = false := bne_eq_false_iff_eq.mpr c18
             clear c18
             have H' := Aside0.mk H
             clear H
             have p116 : 0 ≤ (x10_1 : Int) := oda
             have q116 : x10_1 < (t115.length : Int) := oda
             obtain ⟨ad116, e116, hx116_0, hx116_1⟩ := at_T40 (Kd.R_reads' HO_8.out).2.2 x10_1 p116 q116
             cases e116
             replace p116 := eq_true p116
             replace q116 := eq_true q116
             go_wp2_with (first | ((with_reducible refine gate_dst (N := 5) rfl ?_); (try (refine gate_guard (by rfl) ?_; dsimp only)); refine box_event ?hg (N := 5) ?hd (cs := #[.int .i64 0, .int .i64 0]) (t := 40) ?hr ?_; (case hd => rfl); (case hg => rfl); (case hr => first | (go_simp; done) | (go_simp; rfl)); intro gb117 hg w19 hbox hb; have n0_ := Aside0.mk (Kd.R_below (Kd.R_elderB (mR HO_0.out) gb117 (Nat.le_of_eq hg.symm)) hb); have n1_ := Aside0.mk (Kd.R_below (Kd.R_elderB (mR HO_3.out) gb117 (Nat.le_of_eq hg.symm)) hb); have n2_ := Aside0.mk (Kd.R_below (Kd.R_elderB (mR HO_8.out) gb117 (Nat.le_of_eq hg.symm)) hb); have n3_ := Aside0.mk (Kept.below (S := (fun k_ => P0_ k_)) (mK HK.out) hb); have n4_ := Aside0.mk (below_step (mB HB.out) hb); have n5_ := Aside0.mk (hbox); have n6_ := Aside0.mk ((by rw [hg]; exact (by first | exact HK.out.1 | exact (show Kept w _ (fun k_ => P0_ k_) from by repeat (first | (with_reducible first | exact HK.out | apply Kept.alloc | apply Kept.drewN | apply Kept.drew) | exact HK.out)).1) : w.heap.size ≤ gb117)); have n7_ := Aside0.mk ((by rw [hg]; exact (below_size (mB HB.out)) : w0.heap.size ≤ gb117)); clear HO_0; clear HO_3; clear HO_8; clear HK; clear HB; have HO_0 := n0_; have HO_3 := n1_; have HO_8 := n2_; have HK := n3_; have HB := n4_; have BK117 := n5_; have GW117 := n6_; have GE117 := n7_; clear n0_ n1_ n2_ n3_ n4_ n5_ n6_ n7_; clear hb hbox hg; have hcz20_0 : w19.cell? ⟨gb117, 0, none⟩ = some (.int .i64 0) := (blk_cell BK117.out 0).trans rfl; have hcz20_1 : w19.cell? ⟨gb117, 1, none⟩ = some (.int .i64 0) := (blk_cell BK117.out 1).trans rfl; have hfz20_0 := blk_frozen BK117.out 0; have hfz20_1 := blk_frozen BK117.out 1; have p118 : 0 ≤ ((ji9) : Int) := oda; have q118 : (ji9) < (t115.length : Int) := oda; obtain ⟨ad118, e118, hx118_0, hx118_1⟩ := at_T40 (Kd.R_reads' HO_0.out).2.2 (ji9) p118 q118; obtain rfl : ad116 = ad118 := (by injection e118); have hn118_0 : ad116.block ≠ gb117 := (by first | exact Kd.own_blk (Kd.R_ne HO_0.out BK117.out (by decide)) | exact Kd.own_blk (Kd.R_away HO_0.out (fun _ h_ => h_.2))); have hn118_1 : ad116.block ≠ gb117 := (by first | exact Kd.own_blk (Kd.R_ne HO_0.out BK117.out (by decide)) | exact Kd.own_blk (Kd.R_away HO_0.out (fun _ h_ => h_.2))); replace hx118_0 := (cell_far (p := ⟨gb117, 0, none⟩) (by first | (rw [add_block]; exact hn118_0) | (show (Addr.add _ _).block ≠ _; rw [add_block]; exact hn118_0) | exact hn118_0) (.int .i64 ((rd_T40 t115 x10_1).f0))).trans hx118_0; replace hx118_1 := (cell_far (p := ⟨gb117, 0, none⟩) (by first | (rw [add_block]; exact hn118_0) | (show (Addr.add _ _).block ≠ _; rw [add_block]; exact hn118_0) | exact hn118_0) (.int .i64 ((rd_T40 t115 x10_1).f0))).trans hx118_1; replace hx118_0 := (cell_far (p := ⟨gb117, 1, none⟩) (by first | (rw [add_block]; exact hn118_1) | (show (Addr.add _ _).block ≠ _; rw [add_block]; exact hn118_1) | exact hn118_1) (.int .i64 ((rd_T40 t115 x10_1).f1))).trans hx118_0; replace hx118_1 := (cell_far (p := ⟨gb117, 1, none⟩) (by first | (rw [add_block]; exact hn118_1) | (show (Addr.add _ _).block ≠ _; rw [add_block]; exact hn118_1) | exact hn118_1) (.int .i64 ((rd_T40 t115 x10_1).f1))).trans hx118_1; (try have hy118_0 := fun (n_ : Nat) => (show ((((w19.drewN n_).setCell ⟨gb117, 0, none⟩ (.int .i64 ((rd_T40 t115 x10_1).f0))).setCell ⟨gb117, 1, none⟩ (.int .i64 ((rd_T40 t115 x10_1).f1)))).cell? _ = some _ from hx118_0)); (try have hy118_1 := fun (n_ : Nat) => (show ((((w19.drewN n_).setCell ⟨gb117, 0, none⟩ (.int .i64 ((rd_T40 t115 x10_1).f0))).setCell ⟨gb117, 1, none⟩ (.int .i64 ((rd_T40 t115 x10_1).f1)))).cell? _ = some _ from hx118_1)); clear hn118_0; clear hn118_1; replace p118 := eq_true p118; replace q118 := eq_true q118; obtain ⟨Ao21, co21, eo21⟩ := Kd.R_slice HO_3.out; subst eo21; have p119 : 0 ≤ ((ji15) : Int) := oda; have q119 : (ji15) < (x3_1.length : Int) := oda; obtain ⟨ad119, e119, hx119_0, hx119_1⟩ := at_T40 (Kd.R_reads' HO_3.out).2.2 (ji15) p119 q119; cases e119; have hn119_0 : ad119.block ≠ gb117 := (by first | exact Kd.own_blk (Kd.R_ne HO_3.out BK117.out (by decide)) | exact Kd.own_blk (Kd.R_away HO_3.out (fun _ h_ => h_.2))); have hn119_1 : ad119.block ≠ gb117 := (by first | exact Kd.own_blk (Kd.R_ne HO_3.out BK117.out (by decide)) | exact Kd.own_blk (Kd.R_away HO_3.out (fun _ h_ => h_.2))); replace hx119_0 := (cell_far (p := ⟨gb117, 0, none⟩) (by first | (rw [add_block]; exact hn119_0) | (show (Addr.add _ _).block ≠ _; rw [add_block]; exact hn119_0) | exact hn119_0) (.int .i64 ((rd_T40 t115 x10_1).f0))).trans hx119_0; replace hx119_1 := (cell_far (p := ⟨gb117, 0, none⟩) (by first | (rw [add_block]; exact hn119_0) | (show (Addr.add _ _).block ≠ _; rw [add_block]; exact hn119_0) | exact hn119_0) (.int .i64 ((rd_T40 t115 x10_1).f0))).trans hx119_1; replace hx119_0 := (cell_far (p := ⟨gb117, 1, none⟩) (by first | (rw [add_block]; exact hn119_1) | (show (Addr.add _ _).block ≠ _; rw [add_block]; exact hn119_1) | exact hn119_1) (.int .i64 ((rd_T40 t115 x10_1).f1))).trans hx119_0; replace hx119_1 := (cell_far (p := ⟨gb117, 1, none⟩) (by first | (rw [add_block]; exact hn119_1) | (show (Addr.add _ _).block ≠ _; rw [add_block]; exact hn119_1) | exact hn119_1) (.int .i64 ((rd_T40 t115 x10_1).f1))).trans hx119_1; (try have hy119_0 := fun (n_ : Nat) => (show ((((w19.drewN n_).setCell ⟨gb117, 0, none⟩ (.int .i64 ((rd_T40 t115 x10_1).f0))).setCell ⟨gb117, 1, none⟩ (.int .i64 ((rd_T40 t115 x10_1).f1)))).cell? _ = some _ from hx119_0)); (try have hy119_1 := fun (n_ : Nat) => (show ((((w19.drewN n_).setCell ⟨gb117, 0, none⟩ (.int .i64 ((rd_T40 t115 x10_1).f0))).setCell ⟨gb117, 1, none⟩ (.int .i64 ((rd_T40 t115 x10_1).f1)))).cell? _ = some _ from hx119_1)); clear hn119_0; clear hn119_1; replace p119 := eq_true p119; replace q119 := eq_true q119))
             repeat (go_quiet (fail); try go_wp2)
             (try simp only [← hl0_1])
             go_roundg k1
             case measure => have := HK1.out; omega
             case rel => exact ⟨(x3_1), (ji9), (by first | rfl | (simp; done) | (simp only [← hji9] <;> (first | rfl | simp)) | (simp [*]; done)), H', ⟨by have := HK1.out; omega⟩, ⟨by (try simp only [hl0_1]); (try simp only [hl8_1]); (with_reducible repeat (first | apply Kd.R_alloc | apply Kd.R_drewN | apply Kd.R_drew)); exact Kd.R_mono (Kd.R_far (p := ⟨gb117, 1, none⟩) (Kd.R_far (p := ⟨gb117, 0, none⟩) (Kd.R_mono HO_0.out (fun k_ hk => (⟨hk, hk.2⟩ : _ ∧ k_ ≠ gb117))) (fun _ hk => hk.2) (.int .i64 ((rd_T40 t115 x10_1).f0))) (fun _ hk => hk.2) (.int .i64 ((rd_T40 t115 x10_1).f1))) (fun _ hk => ⟨hk.1.1.1, hk.1.1.2⟩)⟩, ⟨by (try simp only [hl0_1]); (try simp only [hl8_1]); (with_reducible repeat (first | apply Kd.R_alloc | apply Kd.R_drewN | apply Kd.R_drew)); exact Kd.R_mono (Kd.R_far (p := ⟨gb117, 1, none⟩) (Kd.R_far (p := ⟨gb117, 0, none⟩) (Kd.R_mono HO_3.out (fun k_ hk => (⟨hk, hk.2⟩ : _ ∧ k_ ≠ gb117))) (fun _ hk => hk.2) (.int .i64 ((rd_T40 t115 x10_1).f0))) (fun _ hk => hk.2) (.int .i64 ((rd_T40 t115 x10_1).f1))) (fun _ hk => ⟨hk.1.1.1, ⟨hk.1.1.2.1, hk.1.1.2.2⟩⟩)⟩, ⟨by (try simp only [hl0_1]); (try simp only [hl8_1]); (with_reducible repeat (first | apply Kd.R_alloc | apply Kd.R_drewN | apply Kd.R_drew)); exact Kd.R_mono (Kd.R_far (p := ⟨gb117, 1, none⟩) (Kd.R_far (p := ⟨gb117, 0, none⟩) (Kd.R_mono HO_8.out (fun k_ hk => (⟨hk, hk.2⟩ : _ ∧ k_ ≠ gb117))) (fun _ hk => hk.2) (.int .i64 ((rd_T40 t115 x10_1).f0))) (fun _ hk => hk.2) (.int .i64 ((rd_T40 t115 x10_1).f1))) (fun _ hk => ⟨hk.1.1.1, hk.1.1.2⟩)⟩, ⟨by repeat (first | (with_reducible first | exact HK.out | apply Kept.alloc | apply Kept.drewN | apply Kept.drew | refine Kept.setCell ?_ (.inr GW117.out) _) | exact HK.out)⟩, ⟨mBs HB.out⟩⟩
            ·rw [if_neg c18] at H
             have c18b0 : (((rd_T40 x3_1 (ji15)).f1) == ((rd_T40 t115 x10_1).f1)) = false := beq_eq_false_iff_ne.mpr c18
             have c18b1 : (((rd_T40 x3_1 (ji15)).f1) != ((rd_T40 t115 x10_1).f1)) = true := bne_iff_ne.mpr c18
             by_cases c22 : x3_1.length < 8796093022208
             ·rw [if_pos c22] at H
              have LMc22 := Aside0.mk c22
              clear c22
              obtain ⟨y120, hy120⟩ : ∃ y_ : List (S40), y_ = (x3_1 ++ [(⟨(rd_T40 t115 x10_1).f0, (rd_T40 t115 x10_1).f1⟩ : S40)]) := ⟨_, rfl⟩
              replace H : (profile_tidy.l0 k1 t115 y120 t115 (l0.length : Int) ji9) = some (r1, r2) := mH hy120 H
              have Ny120 := Aside0.mk hy120
              clear hy120
              have H' := Aside0.mk H
              clear H
              have p116 : 0 ≤ (x10_1 : Int) := oda
              have q116 : x10_1 < (t115.length : Int) := oda
              obtain ⟨ad116, e116, hx116_0, hx116_1⟩ := at_T40 (Kd.R_reads' HO_8.out).2.2 x10_1 p116 q116
              cases e116
              replace p116 := eq_true p116
              replace q116 := eq_true q116
              go_wp2_with (first | ((with_reducible refine gate_dst (N := 5) rfl ?_); (try (refine gate_guard (by rfl) ?_; dsimp only)); refine box_event ?hg (N := 5) ?hd (cs := #[.int .i64 0, .int .i64 0]) (t := 40) ?hr ?_; (case hd => rfl); (case hg => rfl); (case hr => first | (go_simp; done) | (go_simp; rfl)); intro gb117 hg w23 hbox hb; have n0_ := Aside0.mk (Kd.R_below (Kd.R_elderB (mR HO_0.out) gb117 (Nat.le_of_eq hg.symm)) hb); have n1_ := Aside0.mk (Kd.R_below (Kd.R_elderB (mR HO_3.out) gb117 (Nat.le_of_eq hg.symm)) hb); have n2_ := Aside0.mk (Kd.R_below (Kd.R_elderB (mR HO_8.out) gb117 (Nat.le_of_eq hg.symm)) hb); have n3_ := Aside0.mk (Kept.below (S := (fun k_ => P0_ k_)) (mK HK.out) hb); have n4_ := Aside0.mk (below_step (mB HB.out) hb); have n5_ := Aside0.mk (hbox); have n6_ := Aside0.mk ((by rw [hg]; exact (by first | exact HK.out.1 | exact (show Kept w _ (fun k_ => P0_ k_) from by repeat (first | (with_reducible first | exact HK.out | apply Kept.alloc | apply Kept.drewN | apply Kept.drew) | exact HK.out)).1) : w.heap.size ≤ gb117)); have n7_ := Aside0.mk ((by rw [hg]; exact (below_size (mB HB.out)) : w0.heap.size ≤ gb117)); clear HO_0; clear HO_3; clear HO_8; clear HK; clear HB; have HO_0 := n0_; have HO_3 := n1_; have HO_8 := n2_; have HK := n3_; have HB := n4_; have BK117 := n5_; have GW117 := n6_; have GE117 := n7_; clear n0_ n1_ n2_ n3_ n4_ n5_ n6_ n7_; clear hb hbox hg; have hcz24_0 : w23.cell? ⟨gb117, 0, none⟩ = some (.int .i64 0) := (blk_cell BK117.out 0).trans rfl; have hcz24_1 : w23.cell? ⟨gb117, 1, none⟩ = some (.int .i64 0) := (blk_cell BK117.out 1).trans rfl; have hfz24_0 := blk_frozen BK117.out 0; have hfz24_1 := blk_frozen BK117.out 1; have p118 : 0 ≤ ((ji9) : Int) := oda; have q118 : (ji9) < (t115.length : Int) := oda; obtain ⟨ad118, e118, hx118_0, hx118_1⟩ := at_T40 (Kd.R_reads' HO_0.out).2.2 (ji9) p118 q118; obtain rfl : ad116 = ad118 := (by injection e118); have hn118_0 : ad116.block ≠ gb117 := (by first | exact Kd.own_blk (Kd.R_ne HO_0.out BK117.out (by decide)) | exact Kd.own_blk (Kd.R_away HO_0.out (fun _ h_ => h_.2))); have hn118_1 : ad116.block ≠ gb117 := (by first | exact Kd.own_blk (Kd.R_ne HO_0.out BK117.out (by decide)) | exact Kd.own_blk (Kd.R_away HO_0.out (fun _ h_ => h_.2))); replace hx118_0 := (cell_far (p := ⟨gb117, 0, none⟩) (by first | (rw [add_block]; exact hn118_0) | (show (Addr.add _ _).block ≠ _; rw [add_block]; exact hn118_0) | exact hn118_0) (.int .i64 ((rd_T40 t115 x10_1).f0))).trans hx118_0; replace hx118_1 := (cell_far (p := ⟨gb117, 0, none⟩) (by first | (rw [add_block]; exact hn118_0) | (show (Addr.add _ _).block ≠ _; rw [add_block]; exact hn118_0) | exact hn118_0) (.int .i64 ((rd_T40 t115 x10_1).f0))).trans hx118_1; replace hx118_0 := (cell_far (p := ⟨gb117, 1, none⟩) (by first | (rw [add_block]; exact hn118_1) | (show (Addr.add _ _).block ≠ _; rw [add_block]; exact hn118_1) | exact hn118_1) (.int .i64 ((rd_T40 t115 x10_1).f1))).trans hx118_0; replace hx118_1 := (cell_far (p := ⟨gb117, 1, none⟩) (by first | (rw [add_block]; exact hn118_1) | (show (Addr.add _ _).block ≠ _; rw [add_block]; exact hn118_1) | exact hn118_1) (.int .i64 ((rd_T40 t115 x10_1).f1))).trans hx118_1; (try have hy118_0 := fun (n_ : Nat) => (show ((((w23.drewN n_).setCell ⟨gb117, 0, none⟩ (.int .i64 ((rd_T40 t115 x10_1).f0))).setCell ⟨gb117, 1, none⟩ (.int .i64 ((rd_T40 t115 x10_1).f1)))).cell? _ = some _ from hx118_0)); (try have hy118_1 := fun (n_ : Nat) => (show ((((w23.drewN n_).setCell ⟨gb117, 0, none⟩ (.int .i64 ((rd_T40 t115 x10_1).f0))).setCell ⟨gb117, 1, none⟩ (.int .i64 ((rd_T40 t115 x10_1).f1)))).cell? _ = some _ from hx118_1)); clear hn118_0; clear hn118_1; replace p118 := eq_true p118; replace q118 := eq_true q118; obtain ⟨Ao25, co25, eo25⟩ := Kd.R_slice HO_3.out; subst eo25; have p119 : 0 ≤ ((ji15) : Int) := oda; have q119 : (ji15) < (x3_1.length : Int) := oda; obtain ⟨ad119, e119, hx119_0, hx119_1⟩ := at_T40 (Kd.R_reads' HO_3.out).2.2 (ji15) p119 q119; cases e119; have hn119_0 : ad119.block ≠ gb117 := (by first | exact Kd.own_blk (Kd.R_ne HO_3.out BK117.out (by decide)) | exact Kd.own_blk (Kd.R_away HO_3.out (fun _ h_ => h_.2))); have hn119_1 : ad119.block ≠ gb117 := (by first | exact Kd.own_blk (Kd.R_ne HO_3.out BK117.out (by decide)) | exact Kd.own_blk (Kd.R_away HO_3.out (fun _ h_ => h_.2))); replace hx119_0 := (cell_far (p := ⟨gb117, 0, none⟩) (by first | (rw [add_block]; exact hn119_0) | (show (Addr.add _ _).block ≠ _; rw [add_block]; exact hn119_0) | exact hn119_0) (.int .i64 ((rd_T40 t115 x10_1).f0))).trans hx119_0; replace hx119_1 := (cell_far (p := ⟨gb117, 0, none⟩) (by first | (rw [add_block]; exact hn119_0) | (show (Addr.add _ _).block ≠ _; rw [add_block]; exact hn119_0) | exact hn119_0) (.int .i64 ((rd_T40 t115 x10_1).f0))).trans hx119_1; replace hx119_0 := (cell_far (p := ⟨gb117, 1, none⟩) (by first | (rw [add_block]; exact hn119_1) | (show (Addr.add _ _).block ≠ _; rw [add_block]; exact hn119_1) | exact hn119_1) (.int .i64 ((rd_T40 t115 x10_1).f1))).trans hx119_0; replace hx119_1 := (cell_far (p := ⟨gb117, 1, none⟩) (by first | (rw [add_block]; exact hn119_1) | (show (Addr.add _ _).block ≠ _; rw [add_block]; exact hn119_1) | exact hn119_1) (.int .i64 ((rd_T40 t115 x10_1).f1))).trans hx119_1; (try have hy119_0 := fun (n_ : Nat) => (show ((((w23.drewN n_).setCell ⟨gb117, 0, none⟩ (.int .i64 ((rd_T40 t115 x10_1).f0))).setCell ⟨gb117, 1, none⟩ (.int .i64 ((rd_T40 t115 x10_1).f1)))).cell? _ = some _ from hx119_0)); (try have hy119_1 := fun (n_ : Nat) => (show ((((w23.drewN n_).setCell ⟨gb117, 0, none⟩ (.int .i64 ((rd_T40 t115 x10_1).f0))).setCell ⟨gb117, 1, none⟩ (.int .i64 ((rd_T40 t115 x10_1).f1)))).cell? _ = some _ from hx119_1)); clear hn119_0; clear hn119_1; replace p119 := eq_true p119; replace q119 := eq_true q119) | ((with_reducible refine gate_builtin (b := .append) (xs := #[.tmp 48, .tmp 50]) rfl ?_); (try (refine gate_guard (by rfl) ?_; dsimp only)); at_builtin; refine Kd.R_append k40 (w0 := w0) w0.heap.size rfl (.tmp 48) (.tmp 50) 25 40 (.agg #[(.int .i64 0), (.int .i64 0)]) 16 rfl Try.underlying25 info40 rfl (by decide) (by omega) (.slice (some ad119) x3_1.length co25) x3_1 (⟨(rd_T40 t115 x10_1).f0, (rd_T40 t115 x10_1).f1⟩ : S40) [.int .i64 ((rd_T40 t115 x10_1).f0), .int .i64 ((rd_T40 t115 x10_1).f1)] (fun k_ => (P0_ k_ ∨ w.heap.size ≤ k_) ∧ some k_ ≠ (.slice (some ad116) t115.length co3 : Value).ownBlock ∧ some k_ ≠ (.slice (some ad116) t115.length co3 : Value).ownBlock ∧ k_ ≠ gb117) (fun _ => False) rfl (by first | (go_simp; done) | (go_simp; rfl)) ?aP (fun _ hk => hk.elim) ?aF ?aO ?aB ?aS ?aL ?_; (case aP => exact k40_mkM _ _ _ (⟨(rd_T40 t115 x10_1).f0, (rd_T40 t115 x10_1).f1⟩ : S40)); (case aB => exact (mBs HB.out)); (case aF => exact (fun k_ hk => ⟨(.inr (Nat.le_trans (show Kept w _ (fun k_ => P0_ k_) from by repeat (first | (with_reducible first | exact HK.out | apply Kept.alloc | apply Kept.drewN | apply Kept.drew | refine Kept.setCell ?_ (.inr GW117.out) _) | exact HK.out)).1 hk)), Kd.fresh' (Kd.R_lt (by (with_reducible repeat (first | apply Kd.R_alloc | apply Kd.R_drewN | apply Kd.R_drew)); exact (Kd.R_mono (Kd.R_far (p := ⟨gb117, 1, none⟩) (Kd.R_far (p := ⟨gb117, 0, none⟩) (Kd.R_mono HO_0.out (fun k_ hk => (⟨hk, hk.2⟩ : _ ∧ k_ ≠ gb117))) (fun _ hk => hk.2) (.int .i64 ((rd_T40 t115 x10_1).f0))) (fun _ hk => hk.2) (.int .i64 ((rd_T40 t115 x10_1).f1))) (fun _ h_ => h_.1)))) k_ hk, Kd.fresh' (Kd.R_lt (by (with_reducible repeat (first | apply Kd.R_alloc | apply Kd.R_drewN | apply Kd.R_drew)); exact (Kd.R_mono (Kd.R_far (p := ⟨gb117, 1, none⟩) (Kd.R_far (p := ⟨gb117, 0, none⟩) (Kd.R_mono HO_8.out (fun k_ hk => (⟨hk, hk.2⟩ : _ ∧ k_ ≠ gb117))) (fun _ hk => hk.2) (.int .i64 ((rd_T40 t115 x10_1).f0))) (fun _ hk => hk.2) (.int .i64 ((rd_T40 t115 x10_1).f1))) (fun _ h_ => h_.1)))) k_ hk, Kd.freshB (g := gb117) (o := .cells #[.int .i64 ((rd_T40 t115 x10_1).f0), .int .i64 ((rd_T40 t115 x10_1).f1)] 40 (0, 0)) (by (with_reducible repeat (first | refine blk_drewN ?_ _ | refine blk_drew ?_ | refine blk_alloc ?_ _)); refine blk_put (cs := #[.int .i64 ((rd_T40 t115 x10_1).f0), .int .i64 0]) ?_ 1 _ rfl; (with_reducible repeat (first | refine blk_drewN ?_ _ | refine blk_drew ?_ | refine blk_alloc ?_ _)); refine blk_put (cs := #[.int .i64 0, .int .i64 0]) ?_ 0 _ rfl; (with_reducible repeat (first | refine blk_drewN ?_ _ | refine blk_drew ?_ | refine blk_alloc ?_ _)); exact BK117.out) k_ hk⟩)); (case aO => exact (by (with_reducible repeat (first | apply Kd.R_alloc | apply Kd.R_drewN | apply Kd.R_drew)); exact Kd.R_mono (Kd.R_far (p := ⟨gb117, 1, none⟩) (Kd.R_far (p := ⟨gb117, 0, none⟩) (Kd.R_mono HO_3.out (fun k_ hk => (⟨hk, hk.2⟩ : _ ∧ k_ ≠ gb117))) (fun _ hk => hk.2) (.int .i64 ((rd_T40 t115 x10_1).f0))) (fun _ hk => hk.2) (.int .i64 ((rd_T40 t115 x10_1).f1))) (fun _ hk => ⟨hk.1.1.1, ⟨hk.1.1.2.1, ⟨hk.1.1.2.2, hk.1.2⟩⟩⟩))); (case aS => exact (below_size (mBs HB.out))); (case aL => have := LMc22.out; omega); intro v121 w26 ho hb hg hat; rw [← Ny120.out] at ho; have n0_ := Aside0.mk (Kd.R_after (ok := (fun k_ => (P0_ k_ ∨ w.heap.size ≤ k_) ∧ k_ ≠ gb117)) (by (with_reducible repeat (first | apply Kd.R_alloc | apply Kd.R_drewN | apply Kd.R_drew)); exact Kd.R_mono (Kd.R_far (p := ⟨gb117, 1, none⟩) (Kd.R_far (p := ⟨gb117, 0, none⟩) (Kd.R_mono HO_0.out (fun k_ hk => (⟨hk, hk.2⟩ : _ ∧ k_ ≠ gb117))) (fun _ hk => hk.2) (.int .i64 ((rd_T40 t115 x10_1).f0))) (fun _ hk => hk.2) (.int .i64 ((rd_T40 t115 x10_1).f1))) (fun _ hk => ⟨⟨hk.1.1.1, hk.1.2⟩, hk.1.1.2⟩)) hg hat); have n1_ := Aside0.mk (Kd.R_after (ok := (fun k_ => (P0_ k_ ∨ w.heap.size ≤ k_) ∧ k_ ≠ gb117)) (by (with_reducible repeat (first | apply Kd.R_alloc | apply Kd.R_drewN | apply Kd.R_drew)); exact Kd.R_mono (Kd.R_far (p := ⟨gb117, 1, none⟩) (Kd.R_far (p := ⟨gb117, 0, none⟩) (Kd.R_mono HO_8.out (fun k_ hk => (⟨hk, hk.2⟩ : _ ∧ k_ ≠ gb117))) (fun _ hk => hk.2) (.int .i64 ((rd_T40 t115 x10_1).f0))) (fun _ hk => hk.2) (.int .i64 ((rd_T40 t115 x10_1).f1))) (fun _ hk => ⟨⟨hk.1.1.1, hk.1.2⟩, hk.1.1.2⟩)) hg hat); have n2_ := Aside0.mk (blk_grown (g := gb117) (o := .cells #[.int .i64 ((rd_T40 t115 x10_1).f0), .int .i64 ((rd_T40 t115 x10_1).f1)] 40 (0, 0)) (by (with_reducible repeat (first | refine blk_drewN ?_ _ | refine blk_drew ?_ | refine blk_alloc ?_ _)); refine blk_put (cs := #[.int .i64 ((rd_T40 t115 x10_1).f0), .int .i64 0]) ?_ 1 _ rfl; (with_reducible repeat (first | refine blk_drewN ?_ _ | refine blk_drew ?_ | refine blk_alloc ?_ _)); refine blk_put (cs := #[.int .i64 0, .int .i64 0]) ?_ 0 _ rfl; (with_reducible repeat (first | refine blk_drewN ?_ _ | refine blk_drew ?_ | refine blk_alloc ?_ _)); exact BK117.out) hg (Kd.R_away HO_3.out (fun _ hk => hk.2))); have n3_ := Aside0.mk (hb); have n4_ := Aside0.mk (Kept.of_grown (S := (fun k_ => P0_ k_)) hg (by repeat (first | (with_reducible first | exact HK.out | apply Kept.alloc | apply Kept.drewN | apply Kept.drew | refine Kept.setCell ?_ (.inr GW117.out) _) | exact HK.out)) (fun k_ e_ => (HO_3.out.1 k_ e_).1.1)); have n5_ := Aside0.mk (ho); clear HO_0; clear HO_8; clear BK117; clear HB; clear HK; clear HO_3; have HO_0 := n0_; have HO_8 := n1_; have BK117 := n2_; have HB := n3_; have HK := n4_; have HO122 := n5_; clear n0_ n1_ n2_ n3_ n4_ n5_; clear ho hb hg hat))
              repeat (go_quiet (fail); try go_wp2_with (first | ((with_reducible refine gate_dst (N := 5) rfl ?_); (try (refine gate_guard (by rfl) ?_; dsimp only)); refine box_event ?hg (N := 5) ?hd (cs := #[.int .i64 0, .int .i64 0]) (t := 40) ?hr ?_; (case hd => rfl); (case hg => rfl); (case hr => first | (go_simp; done) | (go_simp; rfl)); intro gb117 hg w23 hbox hb; have n0_ := Aside0.mk (Kd.R_below (Kd.R_elderB (mR HO_0.out) gb117 (Nat.le_of_eq hg.symm)) hb); have n1_ := Aside0.mk (Kd.R_below (Kd.R_elderB (mR HO_3.out) gb117 (Nat.le_of_eq hg.symm)) hb); have n2_ := Aside0.mk (Kd.R_below (Kd.R_elderB (mR HO_8.out) gb117 (Nat.le_of_eq hg.symm)) hb); have n3_ := Aside0.mk (Kept.below (S := (fun k_ => P0_ k_)) (mK HK.out) hb); have n4_ := Aside0.mk (below_step (mB HB.out) hb); have n5_ := Aside0.mk (hbox); have n6_ := Aside0.mk ((by rw [hg]; exact (by first | exact HK.out.1 | exact (show Kept w _ (fun k_ => P0_ k_) from by repeat (first | (with_reducible first | exact HK.out | apply Kept.alloc | apply Kept.drewN | apply Kept.drew) | exact HK.out)).1) : w.heap.size ≤ gb117)); have n7_ := Aside0.mk ((by rw [hg]; exact (below_size (mB HB.out)) : w0.heap.size ≤ gb117)); clear HO_0; clear HO_3; clear HO_8; clear HK; clear HB; have HO_0 := n0_; have HO_3 := n1_; have HO_8 := n2_; have HK := n3_; have HB := n4_; have BK117 := n5_; have GW117 := n6_; have GE117 := n7_; clear n0_ n1_ n2_ n3_ n4_ n5_ n6_ n7_; clear hb hbox hg; have hcz24_0 : w23.cell? ⟨gb117, 0, none⟩ = some (.int .i64 0) := (blk_cell BK117.out 0).trans rfl; have hcz24_1 : w23.cell? ⟨gb117, 1, none⟩ = some (.int .i64 0) := (blk_cell BK117.out 1).trans rfl; have hfz24_0 := blk_frozen BK117.out 0; have hfz24_1 := blk_frozen BK117.out 1; have p118 : 0 ≤ ((ji9) : Int) := oda; have q118 : (ji9) < (t115.length : Int) := oda; obtain ⟨ad118, e118, hx118_0, hx118_1⟩ := at_T40 (Kd.R_reads' HO_0.out).2.2 (ji9) p118 q118; obtain rfl : ad116 = ad118 := (by injection e118); have hn118_0 : ad116.block ≠ gb117 := (by first | exact Kd.own_blk (Kd.R_ne HO_0.out BK117.out (by decide)) | exact Kd.own_blk (Kd.R_away HO_0.out (fun _ h_ => h_.2))); have hn118_1 : ad116.block ≠ gb117 := (by first | exact Kd.own_blk (Kd.R_ne HO_0.out BK117.out (by decide)) | exact Kd.own_blk (Kd.R_away HO_0.out (fun _ h_ => h_.2))); replace hx118_0 := (cell_far (p := ⟨gb117, 0, none⟩) (by first | (rw [add_block]; exact hn118_0) | (show (Addr.add _ _).block ≠ _; rw [add_block]; exact hn118_0) | exact hn118_0) (.int .i64 ((rd_T40 t115 x10_1).f0))).trans hx118_0; replace hx118_1 := (cell_far (p := ⟨gb117, 0, none⟩) (by first | (rw [add_block]; exact hn118_0) | (show (Addr.add _ _).block ≠ _; rw [add_block]; exact hn118_0) | exact hn118_0) (.int .i64 ((rd_T40 t115 x10_1).f0))).trans hx118_1; replace hx118_0 := (cell_far (p := ⟨gb117, 1, none⟩) (by first | (rw [add_block]; exact hn118_1) | (show (Addr.add _ _).block ≠ _; rw [add_block]; exact hn118_1) | exact hn118_1) (.int .i64 ((rd_T40 t115 x10_1).f1))).trans hx118_0; replace hx118_1 := (cell_far (p := ⟨gb117, 1, none⟩) (by first | (rw [add_block]; exact hn118_1) | (show (Addr.add _ _).block ≠ _; rw [add_block]; exact hn118_1) | exact hn118_1) (.int .i64 ((rd_T40 t115 x10_1).f1))).trans hx118_1; (try have hy118_0 := fun (n_ : Nat) => (show ((((w23.drewN n_).setCell ⟨gb117, 0, none⟩ (.int .i64 ((rd_T40 t115 x10_1).f0))).setCell ⟨gb117, 1, none⟩ (.int .i64 ((rd_T40 t115 x10_1).f1)))).cell? _ = some _ from hx118_0)); (try have hy118_1 := fun (n_ : Nat) => (show ((((w23.drewN n_).setCell ⟨gb117, 0, none⟩ (.int .i64 ((rd_T40 t115 x10_1).f0))).setCell ⟨gb117, 1, none⟩ (.int .i64 ((rd_T40 t115 x10_1).f1)))).cell? _ = some _ from hx118_1)); clear hn118_0; clear hn118_1; replace p118 := eq_true p118; replace q118 := eq_true q118; obtain ⟨Ao25, co25, eo25⟩ := Kd.R_slice HO_3.out; subst eo25; have p119 : 0 ≤ ((ji15) : Int) := oda; have q119 : (ji15) < (x3_1.length : Int) := oda; obtain ⟨ad119, e119, hx119_0, hx119_1⟩ := at_T40 (Kd.R_reads' HO_3.out).2.2 (ji15) p119 q119; cases e119; have hn119_0 : ad119.block ≠ gb117 := (by first | exact Kd.own_blk (Kd.R_ne HO_3.out BK117.out (by decide)) | exact Kd.own_blk (Kd.R_away HO_3.out (fun _ h_ => h_.2))); have hn119_1 : ad119.block ≠ gb117 := (by first | exact Kd.own_blk (Kd.R_ne HO_3.out BK117.out (by decide)) | exact Kd.own_blk (Kd.R_away HO_3.out (fun _ h_ => h_.2))); replace hx119_0 := (cell_far (p := ⟨gb117, 0, none⟩) (by first | (rw [add_block]; exact hn119_0) | (show (Addr.add _ _).block ≠ _; rw [add_block]; exact hn119_0) | exact hn119_0) (.int .i64 ((rd_T40 t115 x10_1).f0))).trans hx119_0; replace hx119_1 := (cell_far (p := ⟨gb117, 0, none⟩) (by first | (rw [add_block]; exact hn119_0) | (show (Addr.add _ _).block ≠ _; rw [add_block]; exact hn119_0) | exact hn119_0) (.int .i64 ((rd_T40 t115 x10_1).f0))).trans hx119_1; replace hx119_0 := (cell_far (p := ⟨gb117, 1, none⟩) (by first | (rw [add_block]; exact hn119_1) | (show (Addr.add _ _).block ≠ _; rw [add_block]; exact hn119_1) | exact hn119_1) (.int .i64 ((rd_T40 t115 x10_1).f1))).trans hx119_0; replace hx119_1 := (cell_far (p := ⟨gb117, 1, none⟩) (by first | (rw [add_block]; exact hn119_1) | (show (Addr.add _ _).block ≠ _; rw [add_block]; exact hn119_1) | exact hn119_1) (.int .i64 ((rd_T40 t115 x10_1).f1))).trans hx119_1; (try have hy119_0 := fun (n_ : Nat) => (show ((((w23.drewN n_).setCell ⟨gb117, 0, none⟩ (.int .i64 ((rd_T40 t115 x10_1).f0))).setCell ⟨gb117, 1, none⟩ (.int .i64 ((rd_T40 t115 x10_1).f1)))).cell? _ = some _ from hx119_0)); (try have hy119_1 := fun (n_ : Nat) => (show ((((w23.drewN n_).setCell ⟨gb117, 0, none⟩ (.int .i64 ((rd_T40 t115 x10_1).f0))).setCell ⟨gb117, 1, none⟩ (.int .i64 ((rd_T40 t115 x10_1).f1)))).cell? _ = some _ from hx119_1)); clear hn119_0; clear hn119_1; replace p119 := eq_true p119; replace q119 := eq_true q119) | ((with_reducible refine gate_builtin (b := .append) (xs := #[.tmp 48, .tmp 50]) rfl ?_); (try (refine gate_guard (by rfl) ?_; dsimp only)); at_builtin; refine Kd.R_append k40 (w0 := w0) w0.heap.size rfl (.tmp 48) (.tmp 50) 25 40 (.agg #[(.int .i64 0), (.int .i64 0)]) 16 rfl Try.underlying25 info40 rfl (by decide) (by omega) (.slice (some ad119) x3_1.length co25) x3_1 (⟨(rd_T40 t115 x10_1).f0, (rd_T40 t115 x10_1).f1⟩ : S40) [.int .i64 ((rd_T40 t115 x10_1).f0), .int .i64 ((rd_T40 t115 x10_1).f1)] (fun k_ => (P0_ k_ ∨ w.heap.size ≤ k_) ∧ some k_ ≠ (.slice (some ad116) t115.length co3 : Value).ownBlock ∧ some k_ ≠ (.slice (some ad116) t115.length co3 : Value).ownBlock ∧ k_ ≠ gb117) (fun _ => False) rfl (by first | (go_simp; done) | (go_simp; rfl)) ?aP (fun _ hk => hk.elim) ?aF ?aO ?aB ?aS ?aL ?_; (case aP => exact k40_mkM _ _ _ (⟨(rd_T40 t115 x10_1).f0, (rd_T40 t115 x10_1).f1⟩ : S40)); (case aB => exact (mBs HB.out)); (case aF => exact (fun k_ hk => ⟨(.inr (Nat.le_trans (show Kept w _ (fun k_ => P0_ k_) from by repeat (first | (with_reducible first | exact HK.out | apply Kept.alloc | apply Kept.drewN | apply Kept.drew | refine Kept.setCell ?_ (.inr GW117.out) _) | exact HK.out)).1 hk)), Kd.fresh' (Kd.R_lt (by (with_reducible repeat (first | apply Kd.R_alloc | apply Kd.R_drewN | apply Kd.R_drew)); exact (Kd.R_mono (Kd.R_far (p := ⟨gb117, 1, none⟩) (Kd.R_far (p := ⟨gb117, 0, none⟩) (Kd.R_mono HO_0.out (fun k_ hk => (⟨hk, hk.2⟩ : _ ∧ k_ ≠ gb117))) (fun _ hk => hk.2) (.int .i64 ((rd_T40 t115 x10_1).f0))) (fun _ hk => hk.2) (.int .i64 ((rd_T40 t115 x10_1).f1))) (fun _ h_ => h_.1)))) k_ hk, Kd.fresh' (Kd.R_lt (by (with_reducible repeat (first | apply Kd.R_alloc | apply Kd.R_drewN | apply Kd.R_drew)); exact (Kd.R_mono (Kd.R_far (p := ⟨gb117, 1, none⟩) (Kd.R_far (p := ⟨gb117, 0, none⟩) (Kd.R_mono HO_8.out (fun k_ hk => (⟨hk, hk.2⟩ : _ ∧ k_ ≠ gb117))) (fun _ hk => hk.2) (.int .i64 ((rd_T40 t115 x10_1).f0))) (fun _ hk => hk.2) (.int .i64 ((rd_T40 t115 x10_1).f1))) (fun _ h_ => h_.1)))) k_ hk, Kd.freshB (g := gb117) (o := .cells #[.int .i64 ((rd_T40 t115 x10_1).f0), .int .i64 ((rd_T40 t115 x10_1).f1)] 40 (0, 0)) (by (with_reducible repeat (first | refine blk_drewN ?_ _ | refine blk_drew ?_ | refine blk_alloc ?_ _)); refine blk_put (cs := #[.int .i64 ((rd_T40 t115 x10_1).f0), .int .i64 0]) ?_ 1 _ rfl; (with_reducible repeat (first | refine blk_drewN ?_ _ | refine blk_drew ?_ | refine blk_alloc ?_ _)); refine blk_put (cs := #[.int .i64 0, .int .i64 0]) ?_ 0 _ rfl; (with_reducible repeat (first | refine blk_drewN ?_ _ | refine blk_drew ?_ | refine blk_alloc ?_ _)); exact BK117.out) k_ hk⟩)); (case aO => exact (by (with_reducible repeat (first | apply Kd.R_alloc | apply Kd.R_drewN | apply Kd.R_drew)); exact Kd.R_mono (Kd.R_far (p := ⟨gb117, 1, none⟩) (Kd.R_far (p := ⟨gb117, 0, none⟩) (Kd.R_mono HO_3.out (fun k_ hk => (⟨hk, hk.2⟩ : _ ∧ k_ ≠ gb117))) (fun _ hk => hk.2) (.int .i64 ((rd_T40 t115 x10_1).f0))) (fun _ hk => hk.2) (.int .i64 ((rd_T40 t115 x10_1).f1))) (fun _ hk => ⟨hk.1.1.1, ⟨hk.1.1.2.1, ⟨hk.1.1.2.2, hk.1.2⟩⟩⟩))); (case aS => exact (below_size (mBs HB.out))); (case aL => have := LMc22.out; omega); intro v121 w26 ho hb hg hat; rw [← Ny120.out] at ho; have n0_ := Aside0.mk (Kd.R_after (ok := (fun k_ => (P0_ k_ ∨ w.heap.size ≤ k_) ∧ k_ ≠ gb117)) (by (with_reducible repeat (first | apply Kd.R_alloc | apply Kd.R_drewN | apply Kd.R_drew)); exact Kd.R_mono (Kd.R_far (p := ⟨gb117, 1, none⟩) (Kd.R_far (p := ⟨gb117, 0, none⟩) (Kd.R_mono HO_0.out (fun k_ hk => (⟨hk, hk.2⟩ : _ ∧ k_ ≠ gb117))) (fun _ hk => hk.2) (.int .i64 ((rd_T40 t115 x10_1).f0))) (fun _ hk => hk.2) (.int .i64 ((rd_T40 t115 x10_1).f1))) (fun _ hk => ⟨⟨hk.1.1.1, hk.1.2⟩, hk.1.1.2⟩)) hg hat); have n1_ := Aside0.mk (Kd.R_after (ok := (fun k_ => (P0_ k_ ∨ w.heap.size ≤ k_) ∧ k_ ≠ gb117)) (by (with_reducible repeat (first | apply Kd.R_alloc | apply Kd.R_drewN | apply Kd.R_drew)); exact Kd.R_mono (Kd.R_far (p := ⟨gb117, 1, none⟩) (Kd.R_far (p := ⟨gb117, 0, none⟩) (Kd.R_mono HO_8.out (fun k_ hk => (⟨hk, hk.2⟩ : _ ∧ k_ ≠ gb117))) (fun _ hk => hk.2) (.int .i64 ((rd_T40 t115 x10_1).f0))) (fun _ hk => hk.2) (.int .i64 ((rd_T40 t115 x10_1).f1))) (fun _ hk => ⟨⟨hk.1.1.1, hk.1.2⟩, hk.1.1.2⟩)) hg hat); have n2_ := Aside0.mk (blk_grown (g := gb117) (o := .cells #[.int .i64 ((rd_T40 t115 x10_1).f0), .int .i64 ((rd_T40 t115 x10_1).f1)] 40 (0, 0)) (by (with_reducible repeat (first | refine blk_drewN ?_ _ | refine blk_drew ?_ | refine blk_alloc ?_ _)); refine blk_put (cs := #[.int .i64 ((rd_T40 t115 x10_1).f0), .int .i64 0]) ?_ 1 _ rfl; (with_reducible repeat (first | refine blk_drewN ?_ _ | refine blk_drew ?_ | refine blk_alloc ?_ _)); refine blk_put (cs := #[.int .i64 0, .int .i64 0]) ?_ 0 _ rfl; (with_reducible repeat (first | refine blk_drewN ?_ _ | refine blk_drew ?_ | refine blk_alloc ?_ _)); exact BK117.out) hg (Kd.R_away HO_3.out (fun _ hk => hk.2))); have n3_ := Aside0.mk (hb); have n4_ := Aside0.mk (Kept.of_grown (S := (fun k_ => P0_ k_)) hg (by repeat (first | (with_reducible first | exact HK.out | apply Kept.alloc | apply Kept.drewN | apply Kept.drew | refine Kept.setCell ?_ (.inr GW117.out) _) | exact HK.out)) (fun k_ e_ => (HO_3.out.1 k_ e_).1.1)); have n5_ := Aside0.mk (ho); clear HO_0; clear HO_8; clear BK117; clear HB; clear HK; clear HO_3; have HO_0 := n0_; have HO_8 := n1_; have BK117 := n2_; have HB := n3_; have HK := n4_; have HO122 := n5_; clear n0_ n1_ n2_ n3_ n4_ n5_; clear ho hb hg hat)))
              (try simp only [← hl0_1])
              go_roundg k1
              case measure => have := HK1.out; omega
              case rel => exact ⟨(y120), (ji9), (by first | rfl | (simp; done) | (simp only [← hji9] <;> (first | rfl | simp)) | (simp [*]; done)), H', ⟨by have := HK1.out; omega⟩, ⟨by (try simp only [hl0_1]); (try simp only [hl8_1]); (with_reducible repeat (first | apply Kd.R_alloc | apply Kd.R_drewN | apply Kd.R_drew)); exact Kd.R_mono HO_0.out (fun _ hk => ⟨hk.1.1, hk.2⟩)⟩, ⟨by (try simp only [hl0_1]); (try simp only [hl8_1]); (with_reducible repeat (first | apply Kd.R_alloc | apply Kd.R_drewN | apply Kd.R_drew)); exact Kd.R_mono HO122.out (fun _ hk => ⟨hk.1, ⟨hk.2.1, hk.2.2.1⟩⟩)⟩, ⟨by (try simp only [hl0_1]); (try simp only [hl8_1]); (with_reducible repeat (first | apply Kd.R_alloc | apply Kd.R_drewN | apply Kd.R_drew)); exact Kd.R_mono HO_8.out (fun _ hk => ⟨hk.1.1, hk.2⟩)⟩, ⟨by repeat (first | (with_reducible first | exact HK.out | apply Kept.alloc | apply Kept.drewN | apply Kept.drew | refine Kept.setCell ?_ (.inr GW117.out) _) | exact HK.out)⟩, ⟨mBs HB.out⟩⟩
             ·rw [if_neg c22] at H
              exact absurd H (by simp)
           ·rw [if_neg c17] at H
            exact absurd H (by simp)
          ·rw [if_neg c16] at H
           exact absurd H (by simp)
         ·rw [if_neg c14] at H
          have c14b0 : decide (0 < (x3_1.length : Int)) = false := decide_eq_false c14
          have c14b1 : decide (0 < x3_1.length) = false := decide_eq_false (by omega)
          clear c14
          by_cases c27 : x3_1.length < 8796093022208
          ·rw [if_pos c27] at H
           have LMc27 := Aside0.mk c27
           clear c27
           obtain ⟨y123, hy123⟩ : ∃ y_ : List (S40), y_ = (x3_1 ++ [(⟨(rd_T40 t115 x10_1).f0, (rd_T40 t115 x10_1).f1⟩ : S40)]) := ⟨_, rfl⟩
           replace H : (profile_tidy.l0 k1 t115 y123 t115 (l0.length : Int) ji9) = some (r1, r2) := mH hy123 H
           have Ny123 := Aside0.mk hy123
           clear hy123
           have H' := Aside0.mk H
           clear H
           have p116 : 0 ≤ (x10_1 : Int) := oda
           have q116 : x10_1 < (t115.length : Int) := oda
           obtain ⟨ad116, e116, hx116_0, hx116_1⟩ := at_T40 (Kd.R_reads' HO_8.out).2.2 x10_1 p116 q116
           cases e116
           replace p116 := eq_true p116
           replace q116 := eq_true q116
           go_wp2_with (first | ((with_reducible refine gate_dst (N := 5) rfl ?_); (try (refine gate_guard (by rfl) ?_; dsimp only)); refine box_event ?hg (N := 5) ?hd (cs := #[.int .i64 0, .int .i64 0]) (t := 40) ?hr ?_; (case hd => rfl); (case hg => rfl); (case hr => first | (go_simp; done) | (go_simp; rfl)); intro gb117 hg w28 hbox hb; have n0_ := Aside0.mk (Kd.R_below (Kd.R_elderB (mR HO_0.out) gb117 (Nat.le_of_eq hg.symm)) hb); have n1_ := Aside0.mk (Kd.R_below (Kd.R_elderB (mR HO_3.out) gb117 (Nat.le_of_eq hg.symm)) hb); have n2_ := Aside0.mk (Kd.R_below (Kd.R_elderB (mR HO_8.out) gb117 (Nat.le_of_eq hg.symm)) hb); have n3_ := Aside0.mk (Kept.below (S := (fun k_ => P0_ k_)) (mK HK.out) hb); have n4_ := Aside0.mk (below_step (mB HB.out) hb); have n5_ := Aside0.mk (hbox); have n6_ := Aside0.mk ((by rw [hg]; exact (by first | exact HK.out.1 | exact (show Kept w _ (fun k_ => P0_ k_) from by repeat (first | (with_reducible first | exact HK.out | apply Kept.alloc | apply Kept.drewN | apply Kept.drew) | exact HK.out)).1) : w.heap.size ≤ gb117)); have n7_ := Aside0.mk ((by rw [hg]; exact (below_size (mB HB.out)) : w0.heap.size ≤ gb117)); clear HO_0; clear HO_3; clear HO_8; clear HK; clear HB; have HO_0 := n0_; have HO_3 := n1_; have HO_8 := n2_; have HK := n3_; have HB := n4_; have BK117 := n5_; have GW117 := n6_; have GE117 := n7_; clear n0_ n1_ n2_ n3_ n4_ n5_ n6_ n7_; clear hb hbox hg; have hcz29_0 : w28.cell? ⟨gb117, 0, none⟩ = some (.int .i64 0) := (blk_cell BK117.out 0).trans rfl; have hcz29_1 : w28.cell? ⟨gb117, 1, none⟩ = some (.int .i64 0) := (blk_cell BK117.out 1).trans rfl; have hfz29_0 := blk_frozen BK117.out 0; have hfz29_1 := blk_frozen BK117.out 1; have p118 : 0 ≤ ((ji9) : Int) := oda; have q118 : (ji9) < (t115.length : Int) := oda; obtain ⟨ad118, e118, hx118_0, hx118_1⟩ := at_T40 (Kd.R_reads' HO_0.out).2.2 (ji9) p118 q118; obtain rfl : ad116 = ad118 := (by injection e118); have hn118_0 : ad116.block ≠ gb117 := (by first | exact Kd.own_blk (Kd.R_ne HO_0.out BK117.out (by decide)) | exact Kd.own_blk (Kd.R_away HO_0.out (fun _ h_ => h_.2))); have hn118_1 : ad116.block ≠ gb117 := (by first | exact Kd.own_blk (Kd.R_ne HO_0.out BK117.out (by decide)) | exact Kd.own_blk (Kd.R_away HO_0.out (fun _ h_ => h_.2))); replace hx118_0 := (cell_far (p := ⟨gb117, 0, none⟩) (by first | (rw [add_block]; exact hn118_0) | (show (Addr.add _ _).block ≠ _; rw [add_block]; exact hn118_0) | exact hn118_0) (.int .i64 ((rd_T40 t115 x10_1).f0))).trans hx118_0; replace hx118_1 := (cell_far (p := ⟨gb117, 0, none⟩) (by first | (rw [add_block]; exact hn118_0) | (show (Addr.add _ _).block ≠ _; rw [add_block]; exact hn118_0) | exact hn118_0) (.int .i64 ((rd_T40 t115 x10_1).f0))).trans hx118_1; replace hx118_0 := (cell_far (p := ⟨gb117, 1, none⟩) (by first | (rw [add_block]; exact hn118_1) | (show (Addr.add _ _).block ≠ _; rw [add_block]; exact hn118_1) | exact hn118_1) (.int .i64 ((rd_T40 t115 x10_1).f1))).trans hx118_0; replace hx118_1 := (cell_far (p := ⟨gb117, 1, none⟩) (by first | (rw [add_block]; exact hn118_1) | (show (Addr.add _ _).block ≠ _; rw [add_block]; exact hn118_1) | exact hn118_1) (.int .i64 ((rd_T40 t115 x10_1).f1))).trans hx118_1; (try have hy118_0 := fun (n_ : Nat) => (show ((((w28.drewN n_).setCell ⟨gb117, 0, none⟩ (.int .i64 ((rd_T40 t115 x10_1).f0))).setCell ⟨gb117, 1, none⟩ (.int .i64 ((rd_T40 t115 x10_1).f1)))).cell? _ = some _ from hx118_0)); (try have hy118_1 := fun (n_ : Nat) => (show ((((w28.drewN n_).setCell ⟨gb117, 0, none⟩ (.int .i64 ((rd_T40 t115 x10_1).f0))).setCell ⟨gb117, 1, none⟩ (.int .i64 ((rd_T40 t115 x10_1).f1)))).cell? _ = some _ from hx118_1)); clear hn118_0; clear hn118_1; replace p118 := eq_true p118; replace q118 := eq_true q118; obtain ⟨Ao30, co30, eo30⟩ := Kd.R_slice HO_3.out; subst eo30) | ((with_reducible refine gate_builtin (b := .append) (xs := #[.tmp 48, .tmp 50]) rfl ?_); (try (refine gate_guard (by rfl) ?_; dsimp only)); at_builtin; refine Kd.R_append k40 (w0 := w0) w0.heap.size rfl (.tmp 48) (.tmp 50) 25 40 (.agg #[(.int .i64 0), (.int .i64 0)]) 16 rfl Try.underlying25 info40 rfl (by decide) (by omega) (.slice Ao30 x3_1.length co30) x3_1 (⟨(rd_T40 t115 x10_1).f0, (rd_T40 t115 x10_1).f1⟩ : S40) [.int .i64 ((rd_T40 t115 x10_1).f0), .int .i64 ((rd_T40 t115 x10_1).f1)] (fun k_ => (P0_ k_ ∨ w.heap.size ≤ k_) ∧ some k_ ≠ (.slice (some ad116) t115.length co3 : Value).ownBlock ∧ some k_ ≠ (.slice (some ad116) t115.length co3 : Value).ownBlock ∧ k_ ≠ gb117) (fun _ => False) rfl (by first | (go_simp; done) | (go_simp; rfl)) ?aP (fun _ hk => hk.elim) ?aF ?aO ?aB ?aS ?aL ?_; (case aP => exact k40_mkM _ _ _ (⟨(rd_T40 t115 x10_1).f0, (rd_T40 t115 x10_1).f1⟩ : S40)); (case aB => exact (mBs HB.out)); (case aF => exact (fun k_ hk => ⟨(.inr (Nat.le_trans (show Kept w _ (fun k_ => P0_ k_) from by repeat (first | (with_reducible first | exact HK.out | apply Kept.alloc | apply Kept.drewN | apply Kept.drew | refine Kept.setCell ?_ (.inr GW117.out) _) | exact HK.out)).1 hk)), Kd.fresh' (Kd.R_lt (by (with_reducible repeat (first | apply Kd.R_alloc | apply Kd.R_drewN | apply Kd.R_drew)); exact (Kd.R_mono (Kd.R_far (p := ⟨gb117, 1, none⟩) (Kd.R_far (p := ⟨gb117, 0, none⟩) (Kd.R_mono HO_0.out (fun k_ hk => (⟨hk, hk.2⟩ : _ ∧ k_ ≠ gb117))) (fun _ hk => hk.2) (.int .i64 ((rd_T40 t115 x10_1).f0))) (fun _ hk => hk.2) (.int .i64 ((rd_T40 t115 x10_1).f1))) (fun _ h_ => h_.1)))) k_ hk, Kd.fresh' (Kd.R_lt (by (with_reducible repeat (first | apply Kd.R_alloc | apply Kd.R_drewN | apply Kd.R_drew)); exact (Kd.R_mono (Kd.R_far (p := ⟨gb117, 1, none⟩) (Kd.R_far (p := ⟨gb117, 0, none⟩) (Kd.R_mono HO_8.out (fun k_ hk => (⟨hk, hk.2⟩ : _ ∧ k_ ≠ gb117))) (fun _ hk => hk.2) (.int .i64 ((rd_T40 t115 x10_1).f0))) (fun _ hk => hk.2) (.int .i64 ((rd_T40 t115 x10_1).f1))) (fun _ h_ => h_.1)))) k_ hk, Kd.freshB (g := gb117) (o := .cells #[.int .i64 ((rd_T40 t115 x10_1).f0), .int .i64 ((rd_T40 t115 x10_1).f1)] 40 (0, 0)) (by (with_reducible repeat (first | refine blk_drewN ?_ _ | refine blk_drew ?_ | refine blk_alloc ?_ _)); refine blk_put (cs := #[.int .i64 ((rd_T40 t115 x10_1).f0), .int .i64 0]) ?_ 1 _ rfl; (with_reducible repeat (first | refine blk_drewN ?_ _ | refine blk_drew ?_ | refine blk_alloc ?_ _)); refine blk_put (cs := #[.int .i64 0, .int .i64 0]) ?_ 0 _ rfl; (with_reducible repeat (first | refine blk_drewN ?_ _ | refine blk_drew ?_ | refine blk_alloc ?_ _)); exact BK117.out) k_ hk⟩)); (case aO => exact (by (with_reducible repeat (first | apply Kd.R_alloc | apply Kd.R_drewN | apply Kd.R_drew)); exact Kd.R_mono (Kd.R_far (p := ⟨gb117, 1, none⟩) (Kd.R_far (p := ⟨gb117, 0, none⟩) (Kd.R_mono HO_3.out (fun k_ hk => (⟨hk, hk.2⟩ : _ ∧ k_ ≠ gb117))) (fun _ hk => hk.2) (.int .i64 ((rd_T40 t115 x10_1).f0))) (fun _ hk => hk.2) (.int .i64 ((rd_T40 t115 x10_1).f1))) (fun _ hk => ⟨hk.1.1.1, ⟨hk.1.1.2.1, ⟨hk.1.1.2.2, hk.1.2⟩⟩⟩))); (case aS => exact (below_size (mBs HB.out))); (case aL => have := LMc27.out; omega); intro v124 w31 ho hb hg hat; rw [← Ny123.out] at ho; have n0_ := Aside0.mk (Kd.R_after (ok := (fun k_ => (P0_ k_ ∨ w.heap.size ≤ k_) ∧ k_ ≠ gb117)) (by (with_reducible repeat (first | apply Kd.R_alloc | apply Kd.R_drewN | apply Kd.R_drew)); exact Kd.R_mono (Kd.R_far (p := ⟨gb117, 1, none⟩) (Kd.R_far (p := ⟨gb117, 0, none⟩) (Kd.R_mono HO_0.out (fun k_ hk => (⟨hk, hk.2⟩ : _ ∧ k_ ≠ gb117))) (fun _ hk => hk.2) (.int .i64 ((rd_T40 t115 x10_1).f0))) (fun _ hk => hk.2) (.int .i64 ((rd_T40 t115 x10_1).f1))) (fun _ hk => ⟨⟨hk.1.1.1, hk.1.2⟩, hk.1.1.2⟩)) hg hat); have n1_ := Aside0.mk (Kd.R_after (ok := (fun k_ => (P0_ k_ ∨ w.heap.size ≤ k_) ∧ k_ ≠ gb117)) (by (with_reducible repeat (first | apply Kd.R_alloc | apply Kd.R_drewN | apply Kd.R_drew)); exact Kd.R_mono (Kd.R_far (p := ⟨gb117, 1, none⟩) (Kd.R_far (p := ⟨gb117, 0, none⟩) (Kd.R_mono HO_8.out (fun k_ hk => (⟨hk, hk.2⟩ : _ ∧ k_ ≠ gb117))) (fun _ hk => hk.2) (.int .i64 ((rd_T40 t115 x10_1).f0))) (fun _ hk => hk.2) (.int .i64 ((rd_T40 t115 x10_1).f1))) (fun _ hk => ⟨⟨hk.1.1.1, hk.1.2⟩, hk.1.1.2⟩)) hg hat); have n2_ := Aside0.mk (blk_grown (g := gb117) (o := .cells #[.int .i64 ((rd_T40 t115 x10_1).f0), .int .i64 ((rd_T40 t115 x10_1).f1)] 40 (0, 0)) (by (with_reducible repeat (first | refine blk_drewN ?_ _ | refine blk_drew ?_ | refine blk_alloc ?_ _)); refine blk_put (cs := #[.int .i64 ((rd_T40 t115 x10_1).f0), .int .i64 0]) ?_ 1 _ rfl; (with_reducible repeat (first | refine blk_drewN ?_ _ | refine blk_drew ?_ | refine blk_alloc ?_ _)); refine blk_put (cs := #[.int .i64 0, .int .i64 0]) ?_ 0 _ rfl; (with_reducible repeat (first | refine blk_drewN ?_ _ | refine blk_drew ?_ | refine blk_alloc ?_ _)); exact BK117.out) hg (Kd.R_away HO_3.out (fun _ hk => hk.2))); have n3_ := Aside0.mk (hb); have n4_ := Aside0.mk (Kept.of_grown (S := (fun k_ => P0_ k_)) hg (by repeat (first | (with_reducible first | exact HK.out | apply Kept.alloc | apply Kept.drewN | apply Kept.drew | refine Kept.setCell ?_ (.inr GW117.out) _) | exact HK.out)) (fun k_ e_ => (HO_3.out.1 k_ e_).1.1)); have n5_ := Aside0.mk (ho); clear HO_0; clear HO_8; clear BK117; clear HB; clear HK; clear HO_3; have HO_0 := n0_; have HO_8 := n1_; have BK117 := n2_; have HB := n3_; have HK := n4_; have HO125 := n5_; clear n0_ n1_ n2_ n3_ n4_ n5_; clear ho hb hg hat))
           repeat (go_quiet (fail); try go_wp2_with (first | ((with_reducible refine gate_dst (N := 5) rfl ?_); (try (refine gate_guard (by rfl) ?_; dsimp only)); refine box_event ?hg (N := 5) ?hd (cs := #[.int .i64 0, .int .i64 0]) (t := 40) ?hr ?_; (case hd => rfl); (case hg => rfl); (case hr => first | (go_simp; done) | (go_simp; rfl)); intro gb117 hg w28 hbox hb; have n0_ := Aside0.mk (Kd.R_below (Kd.R_elderB (mR HO_0.out) gb117 (Nat.le_of_eq hg.symm)) hb); have n1_ := Aside0.mk (Kd.R_below (Kd.R_elderB (mR HO_3.out) gb117 (Nat.le_of_eq hg.symm)) hb); have n2_ := Aside0.mk (Kd.R_below (Kd.R_elderB (mR HO_8.out) gb117 (Nat.le_of_eq hg.symm)) hb); have n3_ := Aside0.mk (Kept.below (S := (fun k_ => P0_ k_)) (mK HK.out) hb); have n4_ := Aside0.mk (below_step (mB HB.out) hb); have n5_ := Aside0.mk (hbox); have n6_ := Aside0.mk ((by rw [hg]; exact (by first | exact HK.out.1 | exact (show Kept w _ (fun k_ => P0_ k_) from by repeat (first | (with_reducible first | exact HK.out | apply Kept.alloc | apply Kept.drewN | apply Kept.drew) | exact HK.out)).1) : w.heap.size ≤ gb117)); have n7_ := Aside0.mk ((by rw [hg]; exact (below_size (mB HB.out)) : w0.heap.size ≤ gb117)); clear HO_0; clear HO_3; clear HO_8; clear HK; clear HB; have HO_0 := n0_; have HO_3 := n1_; have HO_8 := n2_; have HK := n3_; have HB := n4_; have BK117 := n5_; have GW117 := n6_; have GE117 := n7_; clear n0_ n1_ n2_ n3_ n4_ n5_ n6_ n7_; clear hb hbox hg; have hcz29_0 : w28.cell? ⟨gb117, 0, none⟩ = some (.int .i64 0) := (blk_cell BK117.out 0).trans rfl; have hcz29_1 : w28.cell? ⟨gb117, 1, none⟩ = some (.int .i64 0) := (blk_cell BK117.out 1).trans rfl; have hfz29_0 := blk_frozen BK117.out 0; have hfz29_1 := blk_frozen BK117.out 1; have p118 : 0 ≤ ((ji9) : Int) := oda; have q118 : (ji9) < (t115.length : Int) := oda; obtain ⟨ad118, e118, hx118_0, hx118_1⟩ := at_T40 (Kd.R_reads' HO_0.out).2.2 (ji9) p118 q118; obtain rfl : ad116 = ad118 := (by injection e118); have hn118_0 : ad116.block ≠ gb117 := (by first | exact Kd.own_blk (Kd.R_ne HO_0.out BK117.out (by decide)) | exact Kd.own_blk (Kd.R_away HO_0.out (fun _ h_ => h_.2))); have hn118_1 : ad116.block ≠ gb117 := (by first | exact Kd.own_blk (Kd.R_ne HO_0.out BK117.out (by decide)) | exact Kd.own_blk (Kd.R_away HO_0.out (fun _ h_ => h_.2))); replace hx118_0 := (cell_far (p := ⟨gb117, 0, none⟩) (by first | (rw [add_block]; exact hn118_0) | (show (Addr.add _ _).block ≠ _; rw [add_block]; exact hn118_0) | exact hn118_0) (.int .i64 ((rd_T40 t115 x10_1).f0))).trans hx118_0; replace hx118_1 := (cell_far (p := ⟨gb117, 0, none⟩) (by first | (rw [add_block]; exact hn118_0) | (show (Addr.add _ _).block ≠ _; rw [add_block]; exact hn118_0) | exact hn118_0) (.int .i64 ((rd_T40 t115 x10_1).f0))).trans hx118_1; replace hx118_0 := (cell_far (p := ⟨gb117, 1, none⟩) (by first | (rw [add_block]; exact hn118_1) | (show (Addr.add _ _).block ≠ _; rw [add_block]; exact hn118_1) | exact hn118_1) (.int .i64 ((rd_T40 t115 x10_1).f1))).trans hx118_0; replace hx118_1 := (cell_far (p := ⟨gb117, 1, none⟩) (by first | (rw [add_block]; exact hn118_1) | (show (Addr.add _ _).block ≠ _; rw [add_block]; exact hn118_1) | exact hn118_1) (.int .i64 ((rd_T40 t115 x10_1).f1))).trans hx118_1; (try have hy118_0 := fun (n_ : Nat) => (show ((((w28.drewN n_).setCell ⟨gb117, 0, none⟩ (.int .i64 ((rd_T40 t115 x10_1).f0))).setCell ⟨gb117, 1, none⟩ (.int .i64 ((rd_T40 t115 x10_1).f1)))).cell? _ = some _ from hx118_0)); (try have hy118_1 := fun (n_ : Nat) => (show ((((w28.drewN n_).setCell ⟨gb117, 0, none⟩ (.int .i64 ((rd_T40 t115 x10_1).f0))).setCell ⟨gb117, 1, none⟩ (.int .i64 ((rd_T40 t115 x10_1).f1)))).cell? _ = some _ from hx118_1)); clear hn118_0; clear hn118_1; replace p118 := eq_true p118; replace q118 := eq_true q118; obtain ⟨Ao30, co30, eo30⟩ := Kd.R_slice HO_3.out; subst eo30) | ((with_reducible refine gate_builtin (b := .append) (xs := #[.tmp 48, .tmp 50]) rfl ?_); (try (refine gate_guard (by rfl) ?_; dsimp only)); at_builtin; refine Kd.R_append k40 (w0 := w0) w0.heap.size rfl (.tmp 48) (.tmp 50) 25 40 (.agg #[(.int .i64 0), (.int .i64 0)]) 16 rfl Try.underlying25 info40 rfl (by decide) (by omega) (.slice Ao30 x3_1.length co30) x3_1 (⟨(rd_T40 t115 x10_1).f0, (rd_T40 t115 x10_1).f1⟩ : S40) [.int .i64 ((rd_T40 t115 x10_1).f0), .int .i64 ((rd_T40 t115 x10_1).f1)] (fun k_ => (P0_ k_ ∨ w.heap.size ≤ k_) ∧ some k_ ≠ (.slice (some ad116) t115.length co3 : Value).ownBlock ∧ some k_ ≠ (.slice (some ad116) t115.length co3 : Value).ownBlock ∧ k_ ≠ gb117) (fun _ => False) rfl (by first | (go_simp; done) | (go_simp; rfl)) ?aP (fun _ hk => hk.elim) ?aF ?aO ?aB ?aS ?aL ?_; (case aP => exact k40_mkM _ _ _ (⟨(rd_T40 t115 x10_1).f0, (rd_T40 t115 x10_1).f1⟩ : S40)); (case aB => exact (mBs HB.out)); (case aF => exact (fun k_ hk => ⟨(.inr (Nat.le_trans (show Kept w _ (fun k_ => P0_ k_) from by repeat (first | (with_reducible first | exact HK.out | apply Kept.alloc | apply Kept.drewN | apply Kept.drew | refine Kept.setCell ?_ (.inr GW117.out) _) | exact HK.out)).1 hk)), Kd.fresh' (Kd.R_lt (by (with_reducible repeat (first | apply Kd.R_alloc | apply Kd.R_drewN | apply Kd.R_drew)); exact (Kd.R_mono (Kd.R_far (p := ⟨gb117, 1, none⟩) (Kd.R_far (p := ⟨gb117, 0, none⟩) (Kd.R_mono HO_0.out (fun k_ hk => (⟨hk, hk.2⟩ : _ ∧ k_ ≠ gb117))) (fun _ hk => hk.2) (.int .i64 ((rd_T40 t115 x10_1).f0))) (fun _ hk => hk.2) (.int .i64 ((rd_T40 t115 x10_1).f1))) (fun _ h_ => h_.1)))) k_ hk, Kd.fresh' (Kd.R_lt (by (with_reducible repeat (first | apply Kd.R_alloc | apply Kd.R_drewN | apply Kd.R_drew)); exact (Kd.R_mono (Kd.R_far (p := ⟨gb117, 1, none⟩) (Kd.R_far (p := ⟨gb117, 0, none⟩) (Kd.R_mono HO_8.out (fun k_ hk => (⟨hk, hk.2⟩ : _ ∧ k_ ≠ gb117))) (fun _ hk => hk.2) (.int .i64 ((rd_T40 t115 x10_1).f0))) (fun _ hk => hk.2) (.int .i64 ((rd_T40 t115 x10_1).f1))) (fun _ h_ => h_.1)))) k_ hk, Kd.freshB (g := gb117) (o := .cells #[.int .i64 ((rd_T40 t115 x10_1).f0), .int .i64 ((rd_T40 t115 x10_1).f1)] 40 (0, 0)) (by (with_reducible repeat (first | refine blk_drewN ?_ _ | refine blk_drew ?_ | refine blk_alloc ?_ _)); refine blk_put (cs := #[.int .i64 ((rd_T40 t115 x10_1).f0), .int .i64 0]) ?_ 1 _ rfl; (with_reducible repeat (first | refine blk_drewN ?_ _ | refine blk_drew ?_ | refine blk_alloc ?_ _)); refine blk_put (cs := #[.int .i64 0, .int .i64 0]) ?_ 0 _ rfl; (with_reducible repeat (first | refine blk_drewN ?_ _ | refine blk_drew ?_ | refine blk_alloc ?_ _)); exact BK117.out) k_ hk⟩)); (case aO => exact (by (with_reducible repeat (first | apply Kd.R_alloc | apply Kd.R_drewN | apply Kd.R_drew)); exact Kd.R_mono (Kd.R_far (p := ⟨gb117, 1, none⟩) (Kd.R_far (p := ⟨gb117, 0, none⟩) (Kd.R_mono HO_3.out (fun k_ hk => (⟨hk, hk.2⟩ : _ ∧ k_ ≠ gb117))) (fun _ hk => hk.2) (.int .i64 ((rd_T40 t115 x10_1).f0))) (fun _ hk => hk.2) (.int .i64 ((rd_T40 t115 x10_1).f1))) (fun _ hk => ⟨hk.1.1.1, ⟨hk.1.1.2.1, ⟨hk.1.1.2.2, hk.1.2⟩⟩⟩))); (case aS => exact (below_size (mBs HB.out))); (case aL => have := LMc27.out; omega); intro v124 w31 ho hb hg hat; rw [← Ny123.out] at ho; have n0_ := Aside0.mk (Kd.R_after (ok := (fun k_ => (P0_ k_ ∨ w.heap.size ≤ k_) ∧ k_ ≠ gb117)) (by (with_reducible repeat (first | apply Kd.R_alloc | apply Kd.R_drewN | apply Kd.R_drew)); exact Kd.R_mono (Kd.R_far (p := ⟨gb117, 1, none⟩) (Kd.R_far (p := ⟨gb117, 0, none⟩) (Kd.R_mono HO_0.out (fun k_ hk => (⟨hk, hk.2⟩ : _ ∧ k_ ≠ gb117))) (fun _ hk => hk.2) (.int .i64 ((rd_T40 t115 x10_1).f0))) (fun _ hk => hk.2) (.int .i64 ((rd_T40 t115 x10_1).f1))) (fun _ hk => ⟨⟨hk.1.1.1, hk.1.2⟩, hk.1.1.2⟩)) hg hat); have n1_ := Aside0.mk (Kd.R_after (ok := (fun k_ => (P0_ k_ ∨ w.heap.size ≤ k_) ∧ k_ ≠ gb117)) (by (with_reducible repeat (first | apply Kd.R_alloc | apply Kd.R_drewN | apply Kd.R_drew)); exact Kd.R_mono (Kd.R_far (p := ⟨gb117, 1, none⟩) (Kd.R_far (p := ⟨gb117, 0, none⟩) (Kd.R_mono HO_8.out (fun k_ hk => (⟨hk, hk.2⟩ : _ ∧ k_ ≠ gb117))) (fun _ hk => hk.2) (.int .i64 ((rd_T40 t115 x10_1).f0))) (fun _ hk => hk.2) (.int .i64 ((rd_T40 t115 x10_1).f1))) (fun _ hk => ⟨⟨hk.1.1.1, hk.1.2⟩, hk.1.1.2⟩)) hg hat); have n2_ := Aside0.mk (blk_grown (g := gb117) (o := .cells #[.int .i64 ((rd_T40 t115 x10_1).f0), .int .i64 ((rd_T40 t115 x10_1).f1)] 40 (0, 0)) (by (with_reducible repeat (first | refine blk_drewN ?_ _ | refine blk_drew ?_ | refine blk_alloc ?_ _)); refine blk_put (cs := #[.int .i64 ((rd_T40 t115 x10_1).f0), .int .i64 0]) ?_ 1 _ rfl; (with_reducible repeat (first | refine blk_drewN ?_ _ | refine blk_drew ?_ | refine blk_alloc ?_ _)); refine blk_put (cs := #[.int .i64 0, .int .i64 0]) ?_ 0 _ rfl; (with_reducible repeat (first | refine blk_drewN ?_ _ | refine blk_drew ?_ | refine blk_alloc ?_ _)); exact BK117.out) hg (Kd.R_away HO_3.out (fun _ hk => hk.2))); have n3_ := Aside0.mk (hb); have n4_ := Aside0.mk (Kept.of_grown (S := (fun k_ => P0_ k_)) hg (by repeat (first | (with_reducible first | exact HK.out | apply Kept.alloc | apply Kept.drewN | apply Kept.drew | refine Kept.setCell ?_ (.inr GW117.out) _) | exact HK.out)) (fun k_ e_ => (HO_3.out.1 k_ e_).1.1)); have n5_ := Aside0.mk (ho); clear HO_0; clear HO_8; clear BK117; clear HB; clear HK; clear HO_3; have HO_0 := n0_; have HO_8 := n1_; have BK117 := n2_; have HB := n3_; have HK := n4_; have HO125 := n5_; clear n0_ n1_ n2_ n3_ n4_ n5_; clear ho hb hg hat)))
           (try simp only [← hl0_1])
           go_roundg k1
           case measure => have := HK1.out; omega
           case rel => exact ⟨(y123), (ji9), (by first | rfl | (simp; done) | (simp only [← hji9] <;> (first | rfl | simp)) | (simp [*]; done)), H', ⟨by have := HK1.out; omega⟩, ⟨by (try simp only [hl0_1]); (try simp only [hl8_1]); (with_reducible repeat (first | apply Kd.R_alloc | apply Kd.R_drewN | apply Kd.R_drew)); exact Kd.R_mono HO_0.out (fun _ hk => ⟨hk.1.1, hk.2⟩)⟩, ⟨by (try simp only [hl0_1]); (try simp only [hl8_1]); (with_reducible repeat (first | apply Kd.R_alloc | apply Kd.R_drewN | apply Kd.R_drew)); exact Kd.R_mono HO125.out (fun _ hk => ⟨hk.1, ⟨hk.2.1, hk.2.2.1⟩⟩)⟩, ⟨by (try simp only [hl0_1]); (try simp only [hl8_1]); (with_reducible repeat (first | apply Kd.R_alloc | apply Kd.R_drewN | apply Kd.R_drew)); exact Kd.R_mono HO_8.out (fun _ hk => ⟨hk.1.1, hk.2⟩)⟩, ⟨by repeat (first | (with_reducible first | exact HK.out | apply Kept.alloc | apply Kept.drewN | apply Kept.drew | refine Kept.setCell ?_ (.inr GW117.out) _) | exact HK.out)⟩, ⟨mBs HB.out⟩⟩
          ·rw [if_neg c27] at H
           exact absurd H (by simp)
       ·rw [if_neg c10] at H
        exact absurd H (by simp)
      ·rw [if_neg c8] at H
       have c8b0 : decide ((wrap64 (x10_1 + 1)) < (t115.length : Int)) = false := decide_eq_false c8
       clear c8
       by_cases c32 : (x3_1.length : Int) > 0
       ·rw [if_pos c32] at H
        have c32b0 : decide (0 < (x3_1.length : Int)) = true := decide_eq_true c32
        have c32b1 : decide (0 < x3_1.length) = true := decide_eq_true (by omega)
        clear c32
        obtain ⟨ji33, hji33⟩ : ∃ j_ : Int, (wrap64 ((x3_1.length : Int) - 1)) = j_ := ⟨_, rfl⟩
        replace H : (if 0 ≤ (ji33) then (if (ji33) < (x3_1.length : Int) then (if ((rd_T40 x3_1 (ji33)).f1) = ((rd_T40 t115 x10_1).f1) then (profile_tidy.l0 k1 t115 x3_1 t115 (l0.length : Int) (wrap64 (x10_1 + 1))) else (if x3_1.length < 8796093022208 then (profile_tidy.l0 k1 t115 (x3_1 ++ [(⟨(rd_T40 t115 x10_1).f0, (rd_T40 t115 x10_1).f1⟩ : S40)]) t115 (l0.length : Int) (wrap64 (x10_1 + 1))) else (none))) else (none)) else (none)) = some (r1, r2) := by first | (rw [hji33] at H; exact H) | (simp only [hji33] at H ⊢; exact H)
        have hji33w : (IntKind.i64.wrap ((x3_1.length : Int) - 1)) = ji33 := (i64_w _).trans hji33
        by_cases c34 : 0 ≤ (ji33)
        ·rw [if_pos c34] at H
         have c34b0 : decide (0 ≤ (ji33)) = true := decide_eq_true c34
         clear c34
         by_cases c35 : (ji33) < (x3_1.length : Int)
         ·rw [if_pos c35] at H
          have c35b0 : decide ((ji33) < (x3_1.length : Int)) = true := decide_eq_true c35
          clear c35
          by_cases c36 : ((rd_T40 x3_1 (ji33)).f1) = ((rd_T40 t115 x10_1).f1)
          ·rw [if_pos c36] at H
           have c36b0 : (((rd_T40 x3_1 (ji33)).f1) == ((rd_T40 t115 x10_1).f1)) = true := beq_iff_eq.mpr c36
           have c36b1 : (((rd_T40 x3_1 (ji33)).f1) != ((rd_T40 t115 x10_1).f1)) = false := bne_eq_false_iff_eq.mpr c36
           clear c36
           have H' := Aside0.mk H
           clear H
           have p116 : 0 ≤ (x10_1 : Int) := oda
           have q116 : x10_1 < (t115.length : Int) := oda
           obtain ⟨ad116, e116, hx116_0, hx116_1⟩ := at_T40 (Kd.R_reads' HO_8.out).2.2 x10_1 p116 q116
           cases e116
           replace p116 := eq_true p116
           replace q116 := eq_true q116
           go_wp2_with (first | ((with_reducible refine gate_dst (N := 5) rfl ?_); (try (refine gate_guard (by rfl) ?_; dsimp only)); refine box_event ?hg (N := 5) ?hd (cs := #[.int .i64 0, .int .i64 0]) (t := 40) ?hr ?_; (case hd => rfl); (case hg => rfl); (case hr => first | (go_simp; done) | (go_simp; rfl)); intro gb117 hg w37 hbox hb; have n0_ := Aside0.mk (Kd.R_below (Kd.R_elderB (mR HO_0.out) gb117 (Nat.le_of_eq hg.symm)) hb); have n1_ := Aside0.mk (Kd.R_below (Kd.R_elderB (mR HO_3.out) gb117 (Nat.le_of_eq hg.symm)) hb); have n2_ := Aside0.mk (Kd.R_below (Kd.R_elderB (mR HO_8.out) gb117 (Nat.le_of_eq hg.symm)) hb); have n3_ := Aside0.mk (Kept.below (S := (fun k_ => P0_ k_)) (mK HK.out) hb); have n4_ := Aside0.mk (below_step (mB HB.out) hb); have n5_ := Aside0.mk (hbox); have n6_ := Aside0.mk ((by rw [hg]; exact (by first | exact HK.out.1 | exact (show Kept w _ (fun k_ => P0_ k_) from by repeat (first | (with_reducible first | exact HK.out | apply Kept.alloc | apply Kept.drewN | apply Kept.drew) | exact HK.out)).1) : w.heap.size ≤ gb117)); have n7_ := Aside0.mk ((by rw [hg]; exact (below_size (mB HB.out)) : w0.heap.size ≤ gb117)); clear HO_0; clear HO_3; clear HO_8; clear HK; clear HB; have HO_0 := n0_; have HO_3 := n1_; have HO_8 := n2_; have HK := n3_; have HB := n4_; have BK117 := n5_; have GW117 := n6_; have GE117 := n7_; clear n0_ n1_ n2_ n3_ n4_ n5_ n6_ n7_; clear hb hbox hg; have hcz38_0 : w37.cell? ⟨gb117, 0, none⟩ = some (.int .i64 0) := (blk_cell BK117.out 0).trans rfl; have hcz38_1 : w37.cell? ⟨gb117, 1, none⟩ = some (.int .i64 0) := (blk_cell BK117.out 1).trans rfl; have hfz38_0 := blk_frozen BK117.out 0; have hfz38_1 := blk_frozen BK117.out 1; obtain ⟨Ao39, co39, eo39⟩ := Kd.R_slice HO_3.out; subst eo39; have p126 : 0 ≤ ((ji33) : Int) := oda; have q126 : (ji33) < (x3_1.length : Int) := oda; obtain ⟨ad126, e126, hx126_0, hx126_1⟩ := at_T40 (Kd.R_reads' HO_3.out).2.2 (ji33) p126 q126; cases e126; have hn126_0 : ad126.block ≠ gb117 := (by first | exact Kd.own_blk (Kd.R_ne HO_3.out BK117.out (by decide)) | exact Kd.own_blk (Kd.R_away HO_3.out (fun _ h_ => h_.2))); have hn126_1 : ad126.block ≠ gb117 := (by first | exact Kd.own_blk (Kd.R_ne HO_3.out BK117.out (by decide)) | exact Kd.own_blk (Kd.R_away HO_3.out (fun _ h_ => h_.2))); replace hx126_0 := (cell_far (p := ⟨gb117, 0, none⟩) (by first | (rw [add_block]; exact hn126_0) | (show (Addr.add _ _).block ≠ _; rw [add_block]; exact hn126_0) | exact hn126_0) (.int .i64 ((rd_T40 t115 x10_1).f0))).trans hx126_0; replace hx126_1 := (cell_far (p := ⟨gb117, 0, none⟩) (by first | (rw [add_block]; exact hn126_0) | (show (Addr.add _ _).block ≠ _; rw [add_block]; exact hn126_0) | exact hn126_0) (.int .i64 ((rd_T40 t115 x10_1).f0))).trans hx126_1; replace hx126_0 := (cell_far (p := ⟨gb117, 1, none⟩) (by first | (rw [add_block]; exact hn126_1) | (show (Addr.add _ _).block ≠ _; rw [add_block]; exact hn126_1) | exact hn126_1) (.int .i64 ((rd_T40 t115 x10_1).f1))).trans hx126_0; replace hx126_1 := (cell_far (p := ⟨gb117, 1, none⟩) (by first | (rw [add_block]; exact hn126_1) | (show (Addr.add _ _).block ≠ _; rw [add_block]; exact hn126_1) | exact hn126_1) (.int .i64 ((rd_T40 t115 x10_1).f1))).trans hx126_1; (try have hy126_0 := fun (n_ : Nat) => (show ((((w37.drewN n_).setCell ⟨gb117, 0, none⟩ (.int .i64 ((rd_T40 t115 x10_1).f0))).setCell ⟨gb117, 1, none⟩ (.int .i64 ((rd_T40 t115 x10_1).f1)))).cell? _ = some _ from hx126_0)); (try have hy126_1 := fun (n_ : Nat) => (show ((((w37.drewN n_).setCell ⟨gb117, 0, none⟩ (.int .i64 ((rd_T40 t115 x10_1).f0))).setCell ⟨gb117, 1, none⟩ (.int .i64 ((rd_T40 t115 x10_1).f1)))).cell? _ = some _ from hx126_1)); clear hn126_0; clear hn126_1; replace p126 := eq_true p126; replace q126 := eq_true q126))
           repeat (go_quiet (fail); try go_wp2)
           (try simp only [← hl0_1])
           go_roundg k1
           case measure => have := HK1.out; omega
           case rel => exact ⟨(x3_1), (wrap64 (x10_1 + 1)), ez, H', ⟨by have := HK1.out; omega⟩, ⟨by (try simp only [hl0_1]); (try simp only [hl8_1]); (with_reducible repeat (first | apply Kd.R_alloc | apply Kd.R_drewN | apply Kd.R_drew)); exact Kd.R_mono (Kd.R_far (p := ⟨gb117, 1, none⟩) (Kd.R_far (p := ⟨gb117, 0, none⟩) (Kd.R_mono HO_0.out (fun k_ hk => (⟨hk, hk.2⟩ : _ ∧ k_ ≠ gb117))) (fun _ hk => hk.2) (.int .i64 ((rd_T40 t115 x10_1).f0))) (fun _ hk => hk.2) (.int .i64 ((rd_T40 t115 x10_1).f1))) (fun _ hk => ⟨hk.1.1.1, hk.1.1.2⟩)⟩, ⟨by (try simp only [hl0_1]); (try simp only [hl8_1]); (with_reducible repeat (first | apply Kd.R_alloc | apply Kd.R_drewN | apply Kd.R_drew)); exact Kd.R_mono (Kd.R_far (p := ⟨gb117, 1, none⟩) (Kd.R_far (p := ⟨gb117, 0, none⟩) (Kd.R_mono HO_3.out (fun k_ hk => (⟨hk, hk.2⟩ : _ ∧ k_ ≠ gb117))) (fun _ hk => hk.2) (.int .i64 ((rd_T40 t115 x10_1).f0))) (fun _ hk => hk.2) (.int .i64 ((rd_T40 t115 x10_1).f1))) (fun _ hk => ⟨hk.1.1.1, ⟨hk.1.1.2.1, hk.1.1.2.2⟩⟩)⟩, ⟨by (try simp only [hl0_1]); (try simp only [hl8_1]); (with_reducible repeat (first | apply Kd.R_alloc | apply Kd.R_drewN | apply Kd.R_drew)); exact Kd.R_mono (Kd.R_far (p := ⟨gb117, 1, none⟩) (Kd.R_far (p := ⟨gb117, 0, none⟩) (Kd.R_mono HO_8.out (fun k_ hk => (⟨hk, hk.2⟩ : _ ∧ k_ ≠ gb117))) (fun _ hk => hk.2) (.int .i64 ((rd_T40 t115 x10_1).f0))) (fun _ hk => hk.2) (.int .i64 ((rd_T40 t115 x10_1).f1))) (fun _ hk => ⟨hk.1.1.1, hk.1.1.2⟩)⟩, ⟨by repeat (first | (with_reducible first | exact HK.out | apply Kept.alloc | apply Kept.drewN | apply Kept.drew | refine Kept.setCell ?_ (.inr GW117.out) _) | exact HK.out)⟩, ⟨mBs HB.out⟩⟩
          ·rw [if_neg c36] at H
           have c36b0 : (((rd_T40 x3_1 (ji33)).f1) == ((rd_T40 t115 x10_1).f1)) = false := beq_eq_false_iff_ne.mpr c36
           have c36b1 : (((rd_T40 x3_1 (ji33)).f1) != ((rd_T40 t115 x10_1).f1)) = true := bne_iff_ne.mpr c36
           by_cases c40 : x3_1.length < 8796093022208
           ·rw [if_pos c40] at H
            have LMc40 := Aside0.mk c40
            clear c40
            obtain ⟨y127, hy127⟩ : ∃ y_ : List (S40), y_ = (x3_1 ++ [(⟨(rd_T40 t115 x10_1).f0, (rd_T40 t115 x10_1).f1⟩ : S40)]) := ⟨_, rfl⟩
            replace H : (profile_tidy.l0 k1 t115 y127 t115 (l0.length : Int) (wrap64 (x10_1 + 1))) = some (r1, r2) := mH hy127 H
            have Ny127 := Aside0.mk hy127
            clear hy127
            have H' := Aside0.mk H
            clear H
            have p116 : 0 ≤ (x10_1 : Int) := oda
            have q116 : x10_1 < (t115.length : Int) := oda
            obtain ⟨ad116, e116, hx116_0, hx116_1⟩ := at_T40 (Kd.R_reads' HO_8.out).2.2 x10_1 p116 q116
            cases e116
            replace p116 := eq_true p116
            replace q116 := eq_true q116
            go_wp2_with (first | ((with_reducible refine gate_dst (N := 5) rfl ?_); (try (refine gate_guard (by rfl) ?_; dsimp only)); refine box_event ?hg (N := 5) ?hd (cs := #[.int .i64 0, .int .i64 0]) (t := 40) ?hr ?_; (case hd => rfl); (case hg => rfl); (case hr => first | (go_simp; done) | (go_simp; rfl)); intro gb117 hg w41 hbox hb; have n0_ := Aside0.mk (Kd.R_below (Kd.R_elderB (mR HO_0.out) gb117 (Nat.le_of_eq hg.symm)) hb); have n1_ := Aside0.mk (Kd.R_below (Kd.R_elderB (mR HO_3.out) gb117 (Nat.le_of_eq hg.symm)) hb); have n2_ := Aside0.mk (Kd.R_below (Kd.R_elderB (mR HO_8.out) gb117 (Nat.le_of_eq hg.symm)) hb); have n3_ := Aside0.mk (Kept.below (S := (fun k_ => P0_ k_)) (mK HK.out) hb); have n4_ := Aside0.mk (below_step (mB HB.out) hb); have n5_ := Aside0.mk (hbox); have n6_ := Aside0.mk ((by rw [hg]; exact (by first | exact HK.out.1 | exact (show Kept w _ (fun k_ => P0_ k_) from by repeat (first | (with_reducible first | exact HK.out | apply Kept.alloc | apply Kept.drewN | apply Kept.drew) | exact HK.out)).1) : w.heap.size ≤ gb117)); have n7_ := Aside0.mk ((by rw [hg]; exact (below_size (mB HB.out)) : w0.heap.size ≤ gb117)); clear HO_0; clear HO_3; clear HO_8; clear HK; clear HB; have HO_0 := n0_; have HO_3 := n1_; have HO_8 := n2_; have HK := n3_; have HB := n4_; have BK117 := n5_; have GW117 := n6_; have GE117 := n7_; clear n0_ n1_ n2_ n3_ n4_ n5_ n6_ n7_; clear hb hbox hg; have hcz42_0 : w41.cell? ⟨gb117, 0, none⟩ = some (.int .i64 0) := (blk_cell BK117.out 0).trans rfl; have hcz42_1 : w41.cell? ⟨gb117, 1, none⟩ = some (.int .i64 0) := (blk_cell BK117.out 1).trans rfl; have hfz42_0 := blk_frozen BK117.out 0; have hfz42_1 := blk_frozen BK117.out 1; obtain ⟨Ao43, co43, eo43⟩ := Kd.R_slice HO_3.out; subst eo43; have p126 : 0 ≤ ((ji33) : Int) := oda; have q126 : (ji33) < (x3_1.length : Int) := oda; obtain ⟨ad126, e126, hx126_0, hx126_1⟩ := at_T40 (Kd.R_reads' HO_3.out).2.2 (ji33) p126 q126; cases e126; have hn126_0 : ad126.block ≠ gb117 := (by first | exact Kd.own_blk (Kd.R_ne HO_3.out BK117.out (by decide)) | exact Kd.own_blk (Kd.R_away HO_3.out (fun _ h_ => h_.2))); have hn126_1 : ad126.block ≠ gb117 := (by first | exact Kd.own_blk (Kd.R_ne HO_3.out BK117.out (by decide)) | exact Kd.own_blk (Kd.R_away HO_3.out (fun _ h_ => h_.2))); replace hx126_0 := (cell_far (p := ⟨gb117, 0, none⟩) (by first | (rw [add_block]; exact hn126_0) | (show (Addr.add _ _).block ≠ _; rw [add_block]; exact hn126_0) | exact hn126_0) (.int .i64 ((rd_T40 t115 x10_1).f0))).trans hx126_0; replace hx126_1 := (cell_far (p := ⟨gb117, 0, none⟩) (by first | (rw [add_block]; exact hn126_0) | (show (Addr.add _ _).block ≠ _; rw [add_block]; exact hn126_0) | exact hn126_0) (.int .i64 ((rd_T40 t115 x10_1).f0))).trans hx126_1; replace hx126_0 := (cell_far (p := ⟨gb117, 1, none⟩) (by first | (rw [add_block]; exact hn126_1) | (show (Addr.add _ _).block ≠ _; rw [add_block]; exact hn126_1) | exact hn126_1) (.int .i64 ((rd_T40 t115 x10_1).f1))).trans hx126_0; replace hx126_1 := (cell_far (p := ⟨gb117, 1, none⟩) (by first | (rw [add_block]; exact hn126_1) | (show (Addr.add _ _).block ≠ _; rw [add_block]; exact hn126_1) | exact hn126_1) (.int .i64 ((rd_T40 t115 x10_1).f1))).trans hx126_1; (try have hy126_0 := fun (n_ : Nat) => (show ((((w41.drewN n_).setCell ⟨gb117, 0, none⟩ (.int .i64 ((rd_T40 t115 x10_1).f0))).setCell ⟨gb117, 1, none⟩ (.int .i64 ((rd_T40 t115 x10_1).f1)))).cell? _ = some _ from hx126_0)); (try have hy126_1 := fun (n_ : Nat) => (show ((((w41.drewN n_).setCell ⟨gb117, 0, none⟩ (.int .i64 ((rd_T40 t115 x10_1).f0))).setCell ⟨gb117, 1, none⟩ (.int .i64 ((rd_T40 t115 x10_1).f1)))).cell? _ = some _ from hx126_1)); clear hn126_0; clear hn126_1; replace p126 := eq_true p126; replace q126 := eq_true q126) | ((with_reducible refine gate_builtin (b := .append) (xs := #[.tmp 48, .tmp 50]) rfl ?_); (try (refine gate_guard (by rfl) ?_; dsimp only)); at_builtin; refine Kd.R_append k40 (w0 := w0) w0.heap.size rfl (.tmp 48) (.tmp 50) 25 40 (.agg #[(.int .i64 0), (.int .i64 0)]) 16 rfl Try.underlying25 info40 rfl (by decide) (by omega) (.slice (some ad126) x3_1.length co43) x3_1 (⟨(rd_T40 t115 x10_1).f0, (rd_T40 t115 x10_1).f1⟩ : S40) [.int .i64 ((rd_T40 t115 x10_1).f0), .int .i64 ((rd_T40 t115 x10_1).f1)] (fun k_ => (P0_ k_ ∨ w.heap.size ≤ k_) ∧ some k_ ≠ (.slice (some ad116) t115.length co3 : Value).ownBlock ∧ some k_ ≠ (.slice (some ad116) t115.length co3 : Value).ownBlock ∧ k_ ≠ gb117) (fun _ => False) rfl (by first | (go_simp; done) | (go_simp; rfl)) ?aP (fun _ hk => hk.elim) ?aF ?aO ?aB ?aS ?aL ?_; (case aP => exact k40_mkM _ _ _ (⟨(rd_T40 t115 x10_1).f0, (rd_T40 t115 x10_1).f1⟩ : S40)); (case aB => exact (mBs HB.out)); (case aF => exact (fun k_ hk => ⟨(.inr (Nat.le_trans (show Kept w _ (fun k_ => P0_ k_) from by repeat (first | (with_reducible first | exact HK.out | apply Kept.alloc | apply Kept.drewN | apply Kept.drew | refine Kept.setCell ?_ (.inr GW117.out) _) | exact HK.out)).1 hk)), Kd.fresh' (Kd.R_lt (by (with_reducible repeat (first | apply Kd.R_alloc | apply Kd.R_drewN | apply Kd.R_drew)); exact (Kd.R_mono (Kd.R_far (p := ⟨gb117, 1, none⟩) (Kd.R_far (p := ⟨gb117, 0, none⟩) (Kd.R_mono HO_0.out (fun k_ hk => (⟨hk, hk.2⟩ : _ ∧ k_ ≠ gb117))) (fun _ hk => hk.2) (.int .i64 ((rd_T40 t115 x10_1).f0))) (fun _ hk => hk.2) (.int .i64 ((rd_T40 t115 x10_1).f1))) (fun _ h_ => h_.1)))) k_ hk, Kd.fresh' (Kd.R_lt (by (with_reducible repeat (first | apply Kd.R_alloc | apply Kd.R_drewN | apply Kd.R_drew)); exact (Kd.R_mono (Kd.R_far (p := ⟨gb117, 1, none⟩) (Kd.R_far (p := ⟨gb117, 0, none⟩) (Kd.R_mono HO_8.out (fun k_ hk => (⟨hk, hk.2⟩ : _ ∧ k_ ≠ gb117))) (fun _ hk => hk.2) (.int .i64 ((rd_T40 t115 x10_1).f0))) (fun _ hk => hk.2) (.int .i64 ((rd_T40 t115 x10_1).f1))) (fun _ h_ => h_.1)))) k_ hk, Kd.freshB (g := gb117) (o := .cells #[.int .i64 ((rd_T40 t115 x10_1).f0), .int .i64 ((rd_T40 t115 x10_1).f1)] 40 (0, 0)) (by (with_reducible repeat (first | refine blk_drewN ?_ _ | refine blk_drew ?_ | refine blk_alloc ?_ _)); refine blk_put (cs := #[.int .i64 ((rd_T40 t115 x10_1).f0), .int .i64 0]) ?_ 1 _ rfl; (with_reducible repeat (first | refine blk_drewN ?_ _ | refine blk_drew ?_ | refine blk_alloc ?_ _)); refine blk_put (cs := #[.int .i64 0, .int .i64 0]) ?_ 0 _ rfl; (with_reducible repeat (first | refine blk_drewN ?_ _ | refine blk_drew ?_ | refine blk_alloc ?_ _)); exact BK117.out) k_ hk⟩)); (case aO => exact (by (with_reducible repeat (first | apply Kd.R_alloc | apply Kd.R_drewN | apply Kd.R_drew)); exact Kd.R_mono (Kd.R_far (p := ⟨gb117, 1, none⟩) (Kd.R_far (p := ⟨gb117, 0, none⟩) (Kd.R_mono HO_3.out (fun k_ hk => (⟨hk, hk.2⟩ : _ ∧ k_ ≠ gb117))) (fun _ hk => hk.2) (.int .i64 ((rd_T40 t115 x10_1).f0))) (fun _ hk => hk.2) (.int .i64 ((rd_T40 t115 x10_1).f1))) (fun _ hk => ⟨hk.1.1.1, ⟨hk.1.1.2.1, ⟨hk.1.1.2.2, hk.1.2⟩⟩⟩))); (case aS => exact (below_size (mBs HB.out))); (case aL => have := LMc40.out; omega); intro v128 w44 ho hb hg hat; rw [← Ny127.out] at ho; have n0_ := Aside0.mk (Kd.R_after (ok := (fun k_ => (P0_ k_ ∨ w.heap.size ≤ k_) ∧ k_ ≠ gb117)) (by (with_reducible repeat (first | apply Kd.R_alloc | apply Kd.R_drewN | apply Kd.R_drew)); exact Kd.R_mono (Kd.R_far (p := ⟨gb117, 1, none⟩) (Kd.R_far (p := ⟨gb117, 0, none⟩) (Kd.R_mono HO_0.out (fun k_ hk => (⟨hk, hk.2⟩ : _ ∧ k_ ≠ gb117))) (fun _ hk => hk.2) (.int .i64 ((rd_T40 t115 x10_1).f0))) (fun _ hk => hk.2) (.int .i64 ((rd_T40 t115 x10_1).f1))) (fun _ hk => ⟨⟨hk.1.1.1, hk.1.2⟩, hk.1.1.2⟩)) hg hat); have n1_ := Aside0.mk (Kd.R_after (ok := (fun k_ => (P0_ k_ ∨ w.heap.size ≤ k_) ∧ k_ ≠ gb117)) (by (with_reducible repeat (first | apply Kd.R_alloc | apply Kd.R_drewN | apply Kd.R_drew)); exact Kd.R_mono (Kd.R_far (p := ⟨gb117, 1, none⟩) (Kd.R_far (p := ⟨gb117, 0, none⟩) (Kd.R_mono HO_8.out (fun k_ hk => (⟨hk, hk.2⟩ : _ ∧ k_ ≠ gb117))) (fun _ hk => hk.2) (.int .i64 ((rd_T40 t115 x10_1).f0))) (fun _ hk => hk.2) (.int .i64 ((rd_T40 t115 x10_1).f1))) (fun _ hk => ⟨⟨hk.1.1.1, hk.1.2⟩, hk.1.1.2⟩)) hg hat); have n2_ := Aside0.mk (blk_grown (g := gb117) (o := .cells #[.int .i64 ((rd_T40 t115 x10_1).f0), .int .i64 ((rd_T40 t115 x10_1).f1)] 40 (0, 0)) (by (with_reducible repeat (first | refine blk_drewN ?_ _ | refine blk_drew ?_ | refine blk_alloc ?_ _)); refine blk_put (cs := #[.int .i64 ((rd_T40 t115 x10_1).f0), .int .i64 0]) ?_ 1 _ rfl; (with_reducible repeat (first | refine blk_drewN ?_ _ | refine blk_drew ?_ | refine blk_alloc ?_ _)); refine blk_put (cs := #[.int .i64 0, .int .i64 0]) ?_ 0 _ rfl; (with_reducible repeat (first | refine blk_drewN ?_ _ | refine blk_drew ?_ | refine blk_alloc ?_ _)); exact BK117.out) hg (Kd.R_away HO_3.out (fun _ hk => hk.2))); have n3_ := Aside0.mk (hb); have n4_ := Aside0.mk (Kept.of_grown (S := (fun k_ => P0_ k_)) hg (by repeat (first | (with_reducible first | exact HK.out | apply Kept.alloc | apply Kept.drewN | apply Kept.drew | refine Kept.setCell ?_ (.inr GW117.out) _) | exact HK.out)) (fun k_ e_ => (HO_3.out.1 k_ e_).1.1)); have n5_ := Aside0.mk (ho); clear HO_0; clear HO_8; clear BK117; clear HB; clear HK; clear HO_3; have HO_0 := n0_; have HO_8 := n1_; have BK117 := n2_; have HB := n3_; have HK := n4_; have HO129 := n5_; clear n0_ n1_ n2_ n3_ n4_ n5_; clear ho hb hg hat))
            repeat (go_quiet (fail); try go_wp2_with (first | ((with_reducible refine gate_dst (N := 5) rfl ?_); (try (refine gate_guard (by rfl) ?_; dsimp only)); refine box_event ?hg (N := 5) ?hd (cs := #[.int .i64 0, .int .i64 0]) (t := 40) ?hr ?_; (case hd => rfl); (case hg => rfl); (case hr => first | (go_simp; done) | (go_simp; rfl)); intro gb117 hg w41 hbox hb; have n0_ := Aside0.mk (Kd.R_below (Kd.R_elderB (mR HO_0.out) gb117 (Nat.le_of_eq hg.symm)) hb); have n1_ := Aside0.mk (Kd.R_below (Kd.R_elderB (mR HO_3.out) gb117 (Nat.le_of_eq hg.symm)) hb); have n2_ := Aside0.mk (Kd.R_below (Kd.R_elderB (mR HO_8.out) gb117 (Nat.le_of_eq hg.symm)) hb); have n3_ := Aside0.mk (Kept.below (S := (fun k_ => P0_ k_)) (mK HK.out) hb); have n4_ := Aside0.mk (below_step (mB HB.out) hb); have n5_ := Aside0.mk (hbox); have n6_ := Aside0.mk ((by rw [hg]; exact (by first | exact HK.out.1 | exact (show Kept w _ (fun k_ => P0_ k_) from by repeat (first | (with_reducible first | exact HK.out | apply Kept.alloc | apply Kept.drewN | apply Kept.drew) | exact HK.out)).1) : w.heap.size ≤ gb117)); have n7_ := Aside0.mk ((by rw [hg]; exact (below_size (mB HB.out)) : w0.heap.size ≤ gb117)); clear HO_0; clear HO_3; clear HO_8; clear HK; clear HB; have HO_0 := n0_; have HO_3 := n1_; have HO_8 := n2_; have HK := n3_; have HB := n4_; have BK117 := n5_; have GW117 := n6_; have GE117 := n7_; clear n0_ n1_ n2_ n3_ n4_ n5_ n6_ n7_; clear hb hbox hg; have hcz42_0 : w41.cell? ⟨gb117, 0, none⟩ = some (.int .i64 0) := (blk_cell BK117.out 0).trans rfl; have hcz42_1 : w41.cell? ⟨gb117, 1, none⟩ = some (.int .i64 0) := (blk_cell BK117.out 1).trans rfl; have hfz42_0 := blk_frozen BK117.out 0; have hfz42_1 := blk_frozen BK117.out 1; obtain ⟨Ao43, co43, eo43⟩ := Kd.R_slice HO_3.out; subst eo43; have p126 : 0 ≤ ((ji33) : Int) := oda; have q126 : (ji33) < (x3_1.length : Int) := oda; obtain ⟨ad126, e126, hx126_0, hx126_1⟩ := at_T40 (Kd.R_reads' HO_3.out).2.2 (ji33) p126 q126; cases e126; have hn126_0 : ad126.block ≠ gb117 := (by first | exact Kd.own_blk (Kd.R_ne HO_3.out BK117.out (by decide)) | exact Kd.own_blk (Kd.R_away HO_3.out (fun _ h_ => h_.2))); have hn126_1 : ad126.block ≠ gb117 := (by first | exact Kd.own_blk (Kd.R_ne HO_3.out BK117.out (by decide)) | exact Kd.own_blk (Kd.R_away HO_3.out (fun _ h_ => h_.2))); replace hx126_0 := (cell_far (p := ⟨gb117, 0, none⟩) (by first | (rw [add_block]; exact hn126_0) | (show (Addr.add _ _).block ≠ _; rw [add_block]; exact hn126_0) | exact hn126_0) (.int .i64 ((rd_T40 t115 x10_1).f0))).trans hx126_0; replace hx126_1 := (cell_far (p := ⟨gb117, 0, none⟩) (by first | (rw [add_block]; exact hn126_0) | (show (Addr.add _ _).block ≠ _; rw [add_block]; exact hn126_0) | exact hn126_0) (.int .i64 ((rd_T40 t115 x10_1).f0))).trans hx126_1; replace hx126_0 := (cell_far (p := ⟨gb117, 1, none⟩) (by first | (rw [add_block]; exact hn126_1) | (show (Addr.add _ _).block ≠ _; rw [add_block]; exact hn126_1) | exact hn126_1) (.int .i64 ((rd_T40 t115 x10_1).f1))).trans hx126_0; replace hx126_1 := (cell_far (p := ⟨gb117, 1, none⟩) (by first | (rw [add_block]; exact hn126_1) | (show (Addr.add _ _).block ≠ _; rw [add_block]; exact hn126_1) | exact hn126_1) (.int .i64 ((rd_T40 t115 x10_1).f1))).trans hx126_1; (try have hy126_0 := fun (n_ : Nat) => (show ((((w41.drewN n_).setCell ⟨gb117, 0, none⟩ (.int .i64 ((rd_T40 t115 x10_1).f0))).setCell ⟨gb117, 1, none⟩ (.int .i64 ((rd_T40 t115 x10_1).f1)))).cell? _ = some _ from hx126_0)); (try have hy126_1 := fun (n_ : Nat) => (show ((((w41.drewN n_).setCell ⟨gb117, 0, none⟩ (.int .i64 ((rd_T40 t115 x10_1).f0))).setCell ⟨gb117, 1, none⟩ (.int .i64 ((rd_T40 t115 x10_1).f1)))).cell? _ = some _ from hx126_1)); clear hn126_0; clear hn126_1; replace p126 := eq_true p126; replace q126 := eq_true q126) | ((with_reducible refine gate_builtin (b := .append) (xs := #[.tmp 48, .tmp 50]) rfl ?_); (try (refine gate_guard (by rfl) ?_; dsimp only)); at_builtin; refine Kd.R_append k40 (w0 := w0) w0.heap.size rfl (.tmp 48) (.tmp 50) 25 40 (.agg #[(.int .i64 0), (.int .i64 0)]) 16 rfl Try.underlying25 info40 rfl (by decide) (by omega) (.slice (some ad126) x3_1.length co43) x3_1 (⟨(rd_T40 t115 x10_1).f0, (rd_T40 t115 x10_1).f1⟩ : S40) [.int .i64 ((rd_T40 t115 x10_1).f0), .int .i64 ((rd_T40 t115 x10_1).f1)] (fun k_ => (P0_ k_ ∨ w.heap.size ≤ k_) ∧ some k_ ≠ (.slice (some ad116) t115.length co3 : Value).ownBlock ∧ some k_ ≠ (.slice (some ad116) t115.length co3 : Value).ownBlock ∧ k_ ≠ gb117) (fun _ => False) rfl (by first | (go_simp; done) | (go_simp; rfl)) ?aP (fun _ hk => hk.elim) ?aF ?aO ?aB ?aS ?aL ?_; (case aP => exact k40_mkM _ _ _ (⟨(rd_T40 t115 x10_1).f0, (rd_T40 t115 x10_1).f1⟩ : S40)); (case aB => exact (mBs HB.out)); (case aF => exact (fun k_ hk => ⟨(.inr (Nat.le_trans (show Kept w _ (fun k_ => P0_ k_) from by repeat (first | (with_reducible first | exact HK.out | apply Kept.alloc | apply Kept.drewN | apply Kept.drew | refine Kept.setCell ?_ (.inr GW117.out) _) | exact HK.out)).1 hk)), Kd.fresh' (Kd.R_lt (by (with_reducible repeat (first | apply Kd.R_alloc | apply Kd.R_drewN | apply Kd.R_drew)); exact (Kd.R_mono (Kd.R_far (p := ⟨gb117, 1, none⟩) (Kd.R_far (p := ⟨gb117, 0, none⟩) (Kd.R_mono HO_0.out (fun k_ hk => (⟨hk, hk.2⟩ : _ ∧ k_ ≠ gb117))) (fun _ hk => hk.2) (.int .i64 ((rd_T40 t115 x10_1).f0))) (fun _ hk => hk.2) (.int .i64 ((rd_T40 t115 x10_1).f1))) (fun _ h_ => h_.1)))) k_ hk, Kd.fresh' (Kd.R_lt (by (with_reducible repeat (first | apply Kd.R_alloc | apply Kd.R_drewN | apply Kd.R_drew)); exact (Kd.R_mono (Kd.R_far (p := ⟨gb117, 1, none⟩) (Kd.R_far (p := ⟨gb117, 0, none⟩) (Kd.R_mono HO_8.out (fun k_ hk => (⟨hk, hk.2⟩ : _ ∧ k_ ≠ gb117))) (fun _ hk => hk.2) (.int .i64 ((rd_T40 t115 x10_1).f0))) (fun _ hk => hk.2) (.int .i64 ((rd_T40 t115 x10_1).f1))) (fun _ h_ => h_.1)))) k_ hk, Kd.freshB (g := gb117) (o := .cells #[.int .i64 ((rd_T40 t115 x10_1).f0), .int .i64 ((rd_T40 t115 x10_1).f1)] 40 (0, 0)) (by (with_reducible repeat (first | refine blk_drewN ?_ _ | refine blk_drew ?_ | refine blk_alloc ?_ _)); refine blk_put (cs := #[.int .i64 ((rd_T40 t115 x10_1).f0), .int .i64 0]) ?_ 1 _ rfl; (with_reducible repeat (first | refine blk_drewN ?_ _ | refine blk_drew ?_ | refine blk_alloc ?_ _)); refine blk_put (cs := #[.int .i64 0, .int .i64 0]) ?_ 0 _ rfl; (with_reducible repeat (first | refine blk_drewN ?_ _ | refine blk_drew ?_ | refine blk_alloc ?_ _)); exact BK117.out) k_ hk⟩)); (case aO => exact (by (with_reducible repeat (first | apply Kd.R_alloc | apply Kd.R_drewN | apply Kd.R_drew)); exact Kd.R_mono (Kd.R_far (p := ⟨gb117, 1, none⟩) (Kd.R_far (p := ⟨gb117, 0, none⟩) (Kd.R_mono HO_3.out (fun k_ hk => (⟨hk, hk.2⟩ : _ ∧ k_ ≠ gb117))) (fun _ hk => hk.2) (.int .i64 ((rd_T40 t115 x10_1).f0))) (fun _ hk => hk.2) (.int .i64 ((rd_T40 t115 x10_1).f1))) (fun _ hk => ⟨hk.1.1.1, ⟨hk.1.1.2.1, ⟨hk.1.1.2.2, hk.1.2⟩⟩⟩))); (case aS => exact (below_size (mBs HB.out))); (case aL => have := LMc40.out; omega); intro v128 w44 ho hb hg hat; rw [← Ny127.out] at ho; have n0_ := Aside0.mk (Kd.R_after (ok := (fun k_ => (P0_ k_ ∨ w.heap.size ≤ k_) ∧ k_ ≠ gb117)) (by (with_reducible repeat (first | apply Kd.R_alloc | apply Kd.R_drewN | apply Kd.R_drew)); exact Kd.R_mono (Kd.R_far (p := ⟨gb117, 1, none⟩) (Kd.R_far (p := ⟨gb117, 0, none⟩) (Kd.R_mono HO_0.out (fun k_ hk => (⟨hk, hk.2⟩ : _ ∧ k_ ≠ gb117))) (fun _ hk => hk.2) (.int .i64 ((rd_T40 t115 x10_1).f0))) (fun _ hk => hk.2) (.int .i64 ((rd_T40 t115 x10_1).f1))) (fun _ hk => ⟨⟨hk.1.1.1, hk.1.2⟩, hk.1.1.2⟩)) hg hat); have n1_ := Aside0.mk (Kd.R_after (ok := (fun k_ => (P0_ k_ ∨ w.heap.size ≤ k_) ∧ k_ ≠ gb117)) (by (with_reducible repeat (first | apply Kd.R_alloc | apply Kd.R_drewN | apply Kd.R_drew)); exact Kd.R_mono (Kd.R_far (p := ⟨gb117, 1, none⟩) (Kd.R_far (p := ⟨gb117, 0, none⟩) (Kd.R_mono HO_8.out (fun k_ hk => (⟨hk, hk.2⟩ : _ ∧ k_ ≠ gb117))) (fun _ hk => hk.2) (.int .i64 ((rd_T40 t115 x10_1).f0))) (fun _ hk => hk.2) (.int .i64 ((rd_T40 t115 x10_1).f1))) (fun _ hk => ⟨⟨hk.1.1.1, hk.1.2⟩, hk.1.1.2⟩)) hg hat); have n2_ := Aside0.mk (blk_grown (g := gb117) (o := .cells #[.int .i64 ((rd_T40 t115 x10_1).f0), .int .i64 ((rd_T40 t115 x10_1).f1)] 40 (0, 0)) (by (with_reducible repeat (first | refine blk_drewN ?_ _ | refine blk_drew ?_ | refine blk_alloc ?_ _)); refine blk_put (cs := #[.int .i64 ((rd_T40 t115 x10_1).f0), .int .i64 0]) ?_ 1 _ rfl; (with_reducible repeat (first | refine blk_drewN ?_ _ | refine blk_drew ?_ | refine blk_alloc ?_ _)); refine blk_put (cs := #[.int .i64 0, .int .i64 0]) ?_ 0 _ rfl; (with_reducible repeat (first | refine blk_drewN ?_ _ | refine blk_drew ?_ | refine blk_alloc ?_ _)); exact BK117.out) hg (Kd.R_away HO_3.out (fun _ hk => hk.2))); have n3_ := Aside0.mk (hb); have n4_ := Aside0.mk (Kept.of_grown (S := (fun k_ => P0_ k_)) hg (by repeat (first | (with_reducible first | exact HK.out | apply Kept.alloc | apply Kept.drewN | apply Kept.drew | refine Kept.setCell ?_ (.inr GW117.out) _) | exact HK.out)) (fun k_ e_ => (HO_3.out.1 k_ e_).1.1)); have n5_ := Aside0.mk (ho); clear HO_0; clear HO_8; clear BK117; clear HB; clear HK; clear HO_3; have HO_0 := n0_; have HO_8 := n1_; have BK117 := n2_; have HB := n3_; have HK := n4_; have HO129 := n5_; clear n0_ n1_ n2_ n3_ n4_ n5_; clear ho hb hg hat)))
            (try simp only [← hl0_1])
            go_roundg k1
            case measure => have := HK1.out; omega
            case rel => exact ⟨(y127), (wrap64 (x10_1 + 1)), ez, H', ⟨by have := HK1.out; omega⟩, ⟨by (try simp only [hl0_1]); (try simp only [hl8_1]); (with_reducible repeat (first | apply Kd.R_alloc | apply Kd.R_drewN | apply Kd.R_drew)); exact Kd.R_mono HO_0.out (fun _ hk => ⟨hk.1.1, hk.2⟩)⟩, ⟨by (try simp only [hl0_1]); (try simp only [hl8_1]); (with_reducible repeat (first | apply Kd.R_alloc | apply Kd.R_drewN | apply Kd.R_drew)); exact Kd.R_mono HO129.out (fun _ hk => ⟨hk.1, ⟨hk.2.1, hk.2.2.1⟩⟩)⟩, ⟨by (try simp only [hl0_1]); (try simp only [hl8_1]); (with_reducible repeat (first | apply Kd.R_alloc | apply Kd.R_drewN | apply Kd.R_drew)); exact Kd.R_mono HO_8.out (fun _ hk => ⟨hk.1.1, hk.2⟩)⟩, ⟨by repeat (first | (with_reducible first | exact HK.out | apply Kept.alloc | apply Kept.drewN | apply Kept.drew | refine Kept.setCell ?_ (.inr GW117.out) _) | exact HK.out)⟩, ⟨mBs HB.out⟩⟩
           ·rw [if_neg c40] at H
            exact absurd H (by simp)
         ·rw [if_neg c35] at H
          exact absurd H (by simp)
        ·rw [if_neg c34] at H
         exact absurd H (by simp)
       ·rw [if_neg c32] at H
        have c32b0 : decide (0 < (x3_1.length : Int)) = false := decide_eq_false c32
        have c32b1 : decide (0 < x3_1.length) = false := decide_eq_false (by omega)
        clear c32
        by_cases c45 : x3_1.length < 8796093022208
        ·rw [if_pos c45] at H
         have LMc45 := Aside0.mk c45
         clear c45
         obtain ⟨y130, hy130⟩ : ∃ y_ : List (S40), y_ = (x3_1 ++ [(⟨(rd_T40 t115 x10_1).f0, (rd_T40 t115 x10_1).f1⟩ : S40)]) := ⟨_, rfl⟩
         replace H : (profile_tidy.l0 k1 t115 y130 t115 (l0.length : Int) (wrap64 (x10_1 + 1))) = some (r1, r2) := mH hy130 H
         have Ny130 := Aside0.mk hy130
         clear hy130
         have H' := Aside0.mk H
         clear H
         have p116 : 0 ≤ (x10_1 : Int) := oda
         have q116 : x10_1 < (t115.length : Int) := oda
         obtain ⟨ad116, e116, hx116_0, hx116_1⟩ := at_T40 (Kd.R_reads' HO_8.out).2.2 x10_1 p116 q116
         cases e116
         replace p116 := eq_true p116
         replace q116 := eq_true q116
         go_wp2_with (first | ((with_reducible refine gate_dst (N := 5) rfl ?_); (try (refine gate_guard (by rfl) ?_; dsimp only)); refine box_event ?hg (N := 5) ?hd (cs := #[.int .i64 0, .int .i64 0]) (t := 40) ?hr ?_; (case hd => rfl); (case hg => rfl); (case hr => first | (go_simp; done) | (go_simp; rfl)); intro gb117 hg w46 hbox hb; have n0_ := Aside0.mk (Kd.R_below (Kd.R_elderB (mR HO_0.out) gb117 (Nat.le_of_eq hg.symm)) hb); have n1_ := Aside0.mk (Kd.R_below (Kd.R_elderB (mR HO_3.out) gb117 (Nat.le_of_eq hg.symm)) hb); have n2_ := Aside0.mk (Kd.R_below (Kd.R_elderB (mR HO_8.out) gb117 (Nat.le_of_eq hg.symm)) hb); have n3_ := Aside0.mk (Kept.below (S := (fun k_ => P0_ k_)) (mK HK.out) hb); have n4_ := Aside0.mk (below_step (mB HB.out) hb); have n5_ := Aside0.mk (hbox); have n6_ := Aside0.mk ((by rw [hg]; exact (by first | exact HK.out.1 | exact (show Kept w _ (fun k_ => P0_ k_) from by repeat (first | (with_reducible first | exact HK.out | apply Kept.alloc | apply Kept.drewN | apply Kept.drew) | exact HK.out)).1) : w.heap.size ≤ gb117)); have n7_ := Aside0.mk ((by rw [hg]; exact (below_size (mB HB.out)) : w0.heap.size ≤ gb117)); clear HO_0; clear HO_3; clear HO_8; clear HK; clear HB; have HO_0 := n0_; have HO_3 := n1_; have HO_8 := n2_; have HK := n3_; have HB := n4_; have BK117 := n5_; have GW117 := n6_; have GE117 := n7_; clear n0_ n1_ n2_ n3_ n4_ n5_ n6_ n7_; clear hb hbox hg; have hcz47_0 : w46.cell? ⟨gb117, 0, none⟩ = some (.int .i64 0) := (blk_cell BK117.out 0).trans rfl; have hcz47_1 : w46.cell? ⟨gb117, 1, none⟩ = some (.int .i64 0) := (blk_cell BK117.out 1).trans rfl; have hfz47_0 := blk_frozen BK117.out 0; have hfz47_1 := blk_frozen BK117.out 1; obtain ⟨Ao48, co48, eo48⟩ := Kd.R_slice HO_3.out; subst eo48) | ((with_reducible refine gate_builtin (b := .append) (xs := #[.tmp 48, .tmp 50]) rfl ?_); (try (refine gate_guard (by rfl) ?_; dsimp only)); at_builtin; refine Kd.R_append k40 (w0 := w0) w0.heap.size rfl (.tmp 48) (.tmp 50) 25 40 (.agg #[(.int .i64 0), (.int .i64 0)]) 16 rfl Try.underlying25 info40 rfl (by decide) (by omega) (.slice Ao48 x3_1.length co48) x3_1 (⟨(rd_T40 t115 x10_1).f0, (rd_T40 t115 x10_1).f1⟩ : S40) [.int .i64 ((rd_T40 t115 x10_1).f0), .int .i64 ((rd_T40 t115 x10_1).f1)] (fun k_ => (P0_ k_ ∨ w.heap.size ≤ k_) ∧ some k_ ≠ (.slice (some ad116) t115.length co3 : Value).ownBlock ∧ some k_ ≠ (.slice (some ad116) t115.length co3 : Value).ownBlock ∧ k_ ≠ gb117) (fun _ => False) rfl (by first | (go_simp; done) | (go_simp; rfl)) ?aP (fun _ hk => hk.elim) ?aF ?aO ?aB ?aS ?aL ?_; (case aP => exact k40_mkM _ _ _ (⟨(rd_T40 t115 x10_1).f0, (rd_T40 t115 x10_1).f1⟩ : S40)); (case aB => exact (mBs HB.out)); (case aF => exact (fun k_ hk => ⟨(.inr (Nat.le_trans (show Kept w _ (fun k_ => P0_ k_) from by repeat (first | (with_reducible first | exact HK.out | apply Kept.alloc | apply Kept.drewN | apply Kept.drew | refine Kept.setCell ?_ (.inr GW117.out) _) | exact HK.out)).1 hk)), Kd.fresh' (Kd.R_lt (by (with_reducible repeat (first | apply Kd.R_alloc | apply Kd.R_drewN | apply Kd.R_drew)); exact (Kd.R_mono (Kd.R_far (p := ⟨gb117, 1, none⟩) (Kd.R_far (p := ⟨gb117, 0, none⟩) (Kd.R_mono HO_0.out (fun k_ hk => (⟨hk, hk.2⟩ : _ ∧ k_ ≠ gb117))) (fun _ hk => hk.2) (.int .i64 ((rd_T40 t115 x10_1).f0))) (fun _ hk => hk.2) (.int .i64 ((rd_T40 t115 x10_1).f1))) (fun _ h_ => h_.1)))) k_ hk, Kd.fresh' (Kd.R_lt (by (with_reducible repeat (first | apply Kd.R_alloc | apply Kd.R_drewN | apply Kd.R_drew)); exact (Kd.R_mono (Kd.R_far (p := ⟨gb117, 1, none⟩) (Kd.R_far (p := ⟨gb117, 0, none⟩) (Kd.R_mono HO_8.out (fun k_ hk => (⟨hk, hk.2⟩ : _ ∧ k_ ≠ gb117))) (fun _ hk => hk.2) (.int .i64 ((rd_T40 t115 x10_1).f0))) (fun _ hk => hk.2) (.int .i64 ((rd_T40 t115 x10_1).f1))) (fun _ h_ => h_.1)))) k_ hk, Kd.freshB (g := gb117) (o := .cells #[.int .i64 ((rd_T40 t115 x10_1).f0), .int .i64 ((rd_T40 t115 x10_1).f1)] 40 (0, 0)) (by (with_reducible repeat (first | refine blk_drewN ?_ _ | refine blk_drew ?_ | refine blk_alloc ?_ _)); refine blk_put (cs := #[.int .i64 ((rd_T40 t115 x10_1).f0), .int .i64 0]) ?_ 1 _ rfl; (with_reducible repeat (first | refine blk_drewN ?_ _ | refine blk_drew ?_ | refine blk_alloc ?_ _)); refine blk_put (cs := #[.int .i64 0, .int .i64 0]) ?_ 0 _ rfl; (with_reducible repeat (first | refine blk_drewN ?_ _ | refine blk_drew ?_ | refine blk_alloc ?_ _)); exact BK117.out) k_ hk⟩)); (case aO => exact (by (with_reducible repeat (first | apply Kd.R_alloc | apply Kd.R_drewN | apply Kd.R_drew)); exact Kd.R_mono (Kd.R_far (p := ⟨gb117, 1, none⟩) (Kd.R_far (p := ⟨gb117, 0, none⟩) (Kd.R_mono HO_3.out (fun k_ hk => (⟨hk, hk.2⟩ : _ ∧ k_ ≠ gb117))) (fun _ hk => hk.2) (.int .i64 ((rd_T40 t115 x10_1).f0))) (fun _ hk => hk.2) (.int .i64 ((rd_T40 t115 x10_1).f1))) (fun _ hk => ⟨hk.1.1.1, ⟨hk.1.1.2.1, ⟨hk.1.1.2.2, hk.1.2⟩⟩⟩))); (case aS => exact (below_size (mBs HB.out))); (case aL => have := LMc45.out; omega); intro v131 w49 ho hb hg hat; rw [← Ny130.out] at ho; have n0_ := Aside0.mk (Kd.R_after (ok := (fun k_ => (P0_ k_ ∨ w.heap.size ≤ k_) ∧ k_ ≠ gb117)) (by (with_reducible repeat (first | apply Kd.R_alloc | apply Kd.R_drewN | apply Kd.R_drew)); exact Kd.R_mono (Kd.R_far (p := ⟨gb117, 1, none⟩) (Kd.R_far (p := ⟨gb117, 0, none⟩) (Kd.R_mono HO_0.out (fun k_ hk => (⟨hk, hk.2⟩ : _ ∧ k_ ≠ gb117))) (fun _ hk => hk.2) (.int .i64 ((rd_T40 t115 x10_1).f0))) (fun _ hk => hk.2) (.int .i64 ((rd_T40 t115 x10_1).f1))) (fun _ hk => ⟨⟨hk.1.1.1, hk.1.2⟩, hk.1.1.2⟩)) hg hat); have n1_ := Aside0.mk (Kd.R_after (ok := (fun k_ => (P0_ k_ ∨ w.heap.size ≤ k_) ∧ k_ ≠ gb117)) (by (with_reducible repeat (first | apply Kd.R_alloc | apply Kd.R_drewN | apply Kd.R_drew)); exact Kd.R_mono (Kd.R_far (p := ⟨gb117, 1, none⟩) (Kd.R_far (p := ⟨gb117, 0, none⟩) (Kd.R_mono HO_8.out (fun k_ hk => (⟨hk, hk.2⟩ : _ ∧ k_ ≠ gb117))) (fun _ hk => hk.2) (.int .i64 ((rd_T40 t115 x10_1).f0))) (fun _ hk => hk.2) (.int .i64 ((rd_T40 t115 x10_1).f1))) (fun _ hk => ⟨⟨hk.1.1.1, hk.1.2⟩, hk.1.1.2⟩)) hg hat); have n2_ := Aside0.mk (blk_grown (g := gb117) (o := .cells #[.int .i64 ((rd_T40 t115 x10_1).f0), .int .i64 ((rd_T40 t115 x10_1).f1)] 40 (0, 0)) (by (with_reducible repeat (first | refine blk_drewN ?_ _ | refine blk_drew ?_ | refine blk_alloc ?_ _)); refine blk_put (cs := #[.int .i64 ((rd_T40 t115 x10_1).f0), .int .i64 0]) ?_ 1 _ rfl; (with_reducible repeat (first | refine blk_drewN ?_ _ | refine blk_drew ?_ | refine blk_alloc ?_ _)); refine blk_put (cs := #[.int .i64 0, .int .i64 0]) ?_ 0 _ rfl; (with_reducible repeat (first | refine blk_drewN ?_ _ | refine blk_drew ?_ | refine blk_alloc ?_ _)); exact BK117.out) hg (Kd.R_away HO_3.out (fun _ hk => hk.2))); have n3_ := Aside0.mk (hb); have n4_ := Aside0.mk (Kept.of_grown (S := (fun k_ => P0_ k_)) hg (by repeat (first | (with_reducible first | exact HK.out | apply Kept.alloc | apply Kept.drewN | apply Kept.drew | refine Kept.setCell ?_ (.inr GW117.out) _) | exact HK.out)) (fun k_ e_ => (HO_3.out.1 k_ e_).1.1)); have n5_ := Aside0.mk (ho); clear HO_0; clear HO_8; clear BK117; clear HB; clear HK; clear HO_3; have HO_0 := n0_; have HO_8 := n1_; have BK117 := n2_; have HB := n3_; have HK := n4_; have HO132 := n5_; clear n0_ n1_ n2_ n3_ n4_ n5_; clear ho hb hg hat))
         repeat (go_quiet (fail); try go_wp2_with (first | ((with_reducible refine gate_dst (N := 5) rfl ?_); (try (refine gate_guard (by rfl) ?_; dsimp only)); refine box_event ?hg (N := 5) ?hd (cs := #[.int .i64 0, .int .i64 0]) (t := 40) ?hr ?_; (case hd => rfl); (case hg => rfl); (case hr => first | (go_simp; done) | (go_simp; rfl)); intro gb117 hg w46 hbox hb; have n0_ := Aside0.mk (Kd.R_below (Kd.R_elderB (mR HO_0.out) gb117 (Nat.le_of_eq hg.symm)) hb); have n1_ := Aside0.mk (Kd.R_below (Kd.R_elderB (mR HO_3.out) gb117 (Nat.le_of_eq hg.symm)) hb); have n2_ := Aside0.mk (Kd.R_below (Kd.R_elderB (mR HO_8.out) gb117 (Nat.le_of_eq hg.symm)) hb); have n3_ := Aside0.mk (Kept.below (S := (fun k_ => P0_ k_)) (mK HK.out) hb); have n4_ := Aside0.mk (below_step (mB HB.out) hb); have n5_ := Aside0.mk (hbox); have n6_ := Aside0.mk ((by rw [hg]; exact (by first | exact HK.out.1 | exact (show Kept w _ (fun k_ => P0_ k_) from by repeat (first | (with_reducible first | exact HK.out | apply Kept.alloc | apply Kept.drewN | apply Kept.drew) | exact HK.out)).1) : w.heap.size ≤ gb117)); have n7_ := Aside0.mk ((by rw [hg]; exact (below_size (mB HB.out)) : w0.heap.size ≤ gb117)); clear HO_0; clear HO_3; clear HO_8; clear HK; clear HB; have HO_0 := n0_; have HO_3 := n1_; have HO_8 := n2_; have HK := n3_; have HB := n4_; have BK117 := n5_; have GW117 := n6_; have GE117 := n7_; clear n0_ n1_ n2_ n3_ n4_ n5_ n6_ n7_; clear hb hbox hg; have hcz47_0 : w46.cell? ⟨gb117, 0, none⟩ = some (.int .i64 0) := (blk_cell BK117.out 0).trans rfl; have hcz47_1 : w46.cell? ⟨gb117, 1, none⟩ = some (.int .i64 0) := (blk_cell BK117.out 1).trans rfl; have hfz47_0 := blk_frozen BK117.out 0; have hfz47_1 := blk_frozen BK117.out 1; obtain ⟨Ao48, co48, eo48⟩ := Kd.R_slice HO_3.out; subst eo48) | ((with_reducible refine gate_builtin (b := .append) (xs := #[.tmp 48, .tmp 50]) rfl ?_); (try (refine gate_guard (by rfl) ?_; dsimp only)); at_builtin; refine Kd.R_append k40 (w0 := w0) w0.heap.size rfl (.tmp 48) (.tmp 50) 25 40 (.agg #[(.int .i64 0), (.int .i64 0)]) 16 rfl Try.underlying25 info40 rfl (by decide) (by omega) (.slice Ao48 x3_1.length co48) x3_1 (⟨(rd_T40 t115 x10_1).f0, (rd_T40 t115 x10_1).f1⟩ : S40) [.int .i64 ((rd_T40 t115 x10_1).f0), .int .i64 ((rd_T40 t115 x10_1).f1)] (fun k_ => (P0_ k_ ∨ w.heap.size ≤ k_) ∧ some k_ ≠ (.slice (some ad116) t115.length co3 : Value).ownBlock ∧ some k_ ≠ (.slice (some ad116) t115.length co3 : Value).ownBlock ∧ k_ ≠ gb117) (fun _ => False) rfl (by first | (go_simp; done) | (go_simp; rfl)) ?aP (fun _ hk => hk.elim) ?aF ?aO ?aB ?aS ?aL ?_; (case aP => exact k40_mkM _ _ _ (⟨(rd_T40 t115 x10_1).f0, (rd_T40 t115 x10_1).f1⟩ : S40)); (case aB => exact (mBs HB.out)); (case aF => exact (fun k_ hk => ⟨(.inr (Nat.le_trans (show Kept w _ (fun k_ => P0_ k_) from by repeat (first | (with_reducible first | exact HK.out | apply Kept.alloc | apply Kept.drewN | apply Kept.drew | refine Kept.setCell ?_ (.inr GW117.out) _) | exact HK.out)).1 hk)), Kd.fresh' (Kd.R_lt (by (with_reducible repeat (first | apply Kd.R_alloc | apply Kd.R_drewN | apply Kd.R_drew)); exact (Kd.R_mono (Kd.R_far (p := ⟨gb117, 1, none⟩) (Kd.R_far (p := ⟨gb117, 0, none⟩) (Kd.R_mono HO_0.out (fun k_ hk => (⟨hk, hk.2⟩ : _ ∧ k_ ≠ gb117))) (fun _ hk => hk.2) (.int .i64 ((rd_T40 t115 x10_1).f0))) (fun _ hk => hk.2) (.int .i64 ((rd_T40 t115 x10_1).f1))) (fun _ h_ => h_.1)))) k_ hk, Kd.fresh' (Kd.R_lt (by (with_reducible repeat (first | apply Kd.R_alloc | apply Kd.R_drewN | apply Kd.R_drew)); exact (Kd.R_mono (Kd.R_far (p := ⟨gb117, 1, none⟩) (Kd.R_far (p := ⟨gb117, 0, none⟩) (Kd.R_mono HO_8.out (fun k_ hk => (⟨hk, hk.2⟩ : _ ∧ k_ ≠ gb117))) (fun _ hk => hk.2) (.int .i64 ((rd_T40 t115 x10_1).f0))) (fun _ hk => hk.2) (.int .i64 ((rd_T40 t115 x10_1).f1))) (fun _ h_ => h_.1)))) k_ hk, Kd.freshB (g := gb117) (o := .cells #[.int .i64 ((rd_T40 t115 x10_1).f0), .int .i64 ((rd_T40 t115 x10_1).f1)] 40 (0, 0)) (by (with_reducible repeat (first | refine blk_drewN ?_ _ | refine blk_drew ?_ | refine blk_alloc ?_ _)); refine blk_put (cs := #[.int .i64 ((rd_T40 t115 x10_1).f0), .int .i64 0]) ?_ 1 _ rfl; (with_reducible repeat (first | refine blk_drewN ?_ _ | refine blk_drew ?_ | refine blk_alloc ?_ _)); refine blk_put (cs := #[.int .i64 0, .int .i64 0]) ?_ 0 _ rfl; (with_reducible repeat (first | refine blk_drewN ?_ _ | refine blk_drew ?_ | refine blk_alloc ?_ _)); exact BK117.out) k_ hk⟩)); (case aO => exact (by (with_reducible repeat (first | apply Kd.R_alloc | apply Kd.R_drewN | apply Kd.R_drew)); exact Kd.R_mono (Kd.R_far (p := ⟨gb117, 1, none⟩) (Kd.R_far (p := ⟨gb117, 0, none⟩) (Kd.R_mono HO_3.out (fun k_ hk => (⟨hk, hk.2⟩ : _ ∧ k_ ≠ gb117))) (fun _ hk => hk.2) (.int .i64 ((rd_T40 t115 x10_1).f0))) (fun _ hk => hk.2) (.int .i64 ((rd_T40 t115 x10_1).f1))) (fun _ hk => ⟨hk.1.1.1, ⟨hk.1.1.2.1, ⟨hk.1.1.2.2, hk.1.2⟩⟩⟩))); (case aS => exact (below_size (mBs HB.out))); (case aL => have := LMc45.out; omega); intro v131 w49 ho hb hg hat; rw [← Ny130.out] at ho; have n0_ := Aside0.mk (Kd.R_after (ok := (fun k_ => (P0_ k_ ∨ w.heap.size ≤ k_) ∧ k_ ≠ gb117)) (by (with_reducible repeat (first | apply Kd.R_alloc | apply Kd.R_drewN | apply Kd.R_drew)); exact Kd.R_mono (Kd.R_far (p := ⟨gb117, 1, none⟩) (Kd.R_far (p := ⟨gb117, 0, none⟩) (Kd.R_mono HO_0.out (fun k_ hk => (⟨hk, hk.2⟩ : _ ∧ k_ ≠ gb117))) (fun _ hk => hk.2) (.int .i64 ((rd_T40 t115 x10_1).f0))) (fun _ hk => hk.2) (.int .i64 ((rd_T40 t115 x10_1).f1))) (fun _ hk => ⟨⟨hk.1.1.1, hk.1.2⟩, hk.1.1.2⟩)) hg hat); have n1_ := Aside0.mk (Kd.R_after (ok := (fun k_ => (P0_ k_ ∨ w.heap.size ≤ k_) ∧ k_ ≠ gb117)) (by (with_reducible repeat (first | apply Kd.R_alloc | apply Kd.R_drewN | apply Kd.R_drew)); exact Kd.R_mono (Kd.R_far (p := ⟨gb117, 1, none⟩) (Kd.R_far (p := ⟨gb117, 0, none⟩) (Kd.R_mono HO_8.out (fun k_ hk => (⟨hk, hk.2⟩ : _ ∧ k_ ≠ gb117))) (fun _ hk => hk.2) (.int .i64 ((rd_T40 t115 x10_1).f0))) (fun _ hk => hk.2) (.int .i64 ((rd_T40 t115 x10_1).f1))) (fun _ hk => ⟨⟨hk.1.1.1, hk.1.2⟩, hk.1.1.2⟩)) hg hat); have n2_ := Aside0.mk (blk_grown (g := gb117) (o := .cells #[.int .i64 ((rd_T40 t115 x10_1).f0), .int .i64 ((rd_T40 t115 x10_1).f1)] 40 (0, 0)) (by (with_reducible repeat (first | refine blk_drewN ?_ _ | refine blk_drew ?_ | refine blk_alloc ?_ _)); refine blk_put (cs := #[.int .i64 ((rd_T40 t115 x10_1).f0), .int .i64 0]) ?_ 1 _ rfl; (with_reducible repeat (first | refine blk_drewN ?_ _ | refine blk_drew ?_ | refine blk_alloc ?_ _)); refine blk_put (cs := #[.int .i64 0, .int .i64 0]) ?_ 0 _ rfl; (with_reducible repeat (first | refine blk_drewN ?_ _ | refine blk_drew ?_ | refine blk_alloc ?_ _)); exact BK117.out) hg (Kd.R_away HO_3.out (fun _ hk => hk.2))); have n3_ := Aside0.mk (hb); have n4_ := Aside0.mk (Kept.of_grown (S := (fun k_ => P0_ k_)) hg (by repeat (first | (with_reducible first | exact HK.out | apply Kept.alloc | apply Kept.drewN | apply Kept.drew | refine Kept.setCell ?_ (.inr GW117.out) _) | exact HK.out)) (fun k_ e_ => (HO_3.out.1 k_ e_).1.1)); have n5_ := Aside0.mk (ho); clear HO_0; clear HO_8; clear BK117; clear HB; clear HK; clear HO_3; have HO_0 := n0_; have HO_8 := n1_; have BK117 := n2_; have HB := n3_; have HK := n4_; have HO132 := n5_; clear n0_ n1_ n2_ n3_ n4_ n5_; clear ho hb hg hat)))
         (try simp only [← hl0_1])
         go_roundg k1
         case measure => have := HK1.out; omega
         case rel => exact ⟨(y130), (wrap64 (x10_1 + 1)), ez, H', ⟨by have := HK1.out; omega⟩, ⟨by (try simp only [hl0_1]); (try simp only [hl8_1]); (with_reducible repeat (first | apply Kd.R_alloc | apply Kd.R_drewN | apply Kd.R_drew)); exact Kd.R_mono HO_0.out (fun _ hk => ⟨hk.1.1, hk.2⟩)⟩, ⟨by (try simp only [hl0_1]); (try simp only [hl8_1]); (with_reducible repeat (first | apply Kd.R_alloc | apply Kd.R_drewN | apply Kd.R_drew)); exact Kd.R_mono HO132.out (fun _ hk => ⟨hk.1, ⟨hk.2.1, hk.2.2.1⟩⟩)⟩, ⟨by (try simp only [hl0_1]); (try simp only [hl8_1]); (with_reducible repeat (first | apply Kd.R_alloc | apply Kd.R_drewN | apply Kd.R_drew)); exact Kd.R_mono HO_8.out (fun _ hk => ⟨hk.1.1, hk.2⟩)⟩, ⟨by repeat (first | (with_reducible first | exact HK.out | apply Kept.alloc | apply Kept.drewN | apply Kept.drew | refine Kept.setCell ?_ (.inr GW117.out) _) | exact HK.out)⟩, ⟨mBs HB.out⟩⟩
        ·rw [if_neg c45] at H
         exact absurd H (by simp)
     ·rw [if_neg c7] at H
      exact absurd H (by simp)
    ·rw [if_neg c6] at H
     exact absurd H (by simp)
   ·rw [if_neg c5] at H
    have c5b0 : decide (x10_1 < (l0.length : Int)) = false := decide_eq_false c5
    have c5b9 := c5b0
    (try rw [hl0_1] at c5b9)
    clear c5
    replace H := Option.bind_eq_some_iff.mp H
    obtain ⟨t133, A500, H⟩ := H
    replace H : (some (t133, t115)) = some (r1, r2) := H
    have A50 := Aside0.mk A500
    clear A500
    simp only [Option.some.injEq, Prod.mk.injEq] at H
    obtain ⟨rfl, rfl⟩ := H
    obtain ⟨Ao51, co51, eo51⟩ := Kd.R_slice HO_3.out
    subst eo51
    go_wp2_with (first | (go_at_call 58; (with_reducible refine (slices_Clip_Step.calls (fun k_ => some k_ = (.slice Ao51 x3_1.length co51 : Value).ownBlock) _ _ x3_1 t133 _ ?side1 A50.out).mono ?_); (case side1 => exact Kd.R_V (Kd.R_tight rfl (HO_3.out))); rintro e w52 ⟨v134, rfl, ho0, hb⟩; have n0_ := Aside0.mk (Kd.R_below (mR HO_0.out) hb); have n1_ := Aside0.mk (Kd.R_below (mR HO_3.out) hb); have n2_ := Aside0.mk (Kd.R_below (mR HO_8.out) hb); have n3_ := Aside0.mk (Kd.V_lower (Kd.V_mono (ok' := fun k_ => (P0_ k_ ∨ w.heap.size ≤ k_) ∧ some k_ ≠ (.slice Ao3 t115.length co3 : Value).ownBlock ∧ some k_ ≠ (.slice Ao3 t115.length co3 : Value).ownBlock) ho0 (fun k_ hk_ => ⟨Or.elim hk_ (fun hs_ => ((HO_3.out).1 k_ hs_.symm).1) (fun hn_ => (.inr (Nat.le_trans (by first | exact HK.out.1 | exact (show Kept w _ (fun k_ => P0_ k_) from by repeat (first | (with_reducible first | exact HK.out | apply Kept.alloc | apply Kept.drewN | apply Kept.drew) | exact HK.out)).1) hn_))), Or.elim hk_ (fun hs_ => ((HO_3.out).1 k_ hs_.symm).2.1) (fun hn_ => (Kd.fresh' (Kd.R_lt (mR HO_0.out)) k_ hn_)), Or.elim hk_ (fun hs_ => ((HO_3.out).1 k_ hs_.symm).2.2) (fun hn_ => (Kd.fresh' (Kd.R_lt (mR HO_8.out)) k_ hn_))⟩)) (below_size (mB HB.out))); have n4_ := Aside0.mk (Kept.below (S := (fun k_ => P0_ k_)) (mK HK.out) hb); have n5_ := Aside0.mk (below_step (mB HB.out) hb); clear HO_0; clear HO_3; clear HO_8; clear HK; clear HB; have HO_0 := n0_; have HO_3 := n1_; have HO_8 := n2_; have HO135 := n3_; have HK := n4_; have HB := n5_; clear n0_ n1_ n2_ n3_ n4_ n5_; (try clear hb); (try clear hb2); (try clear hk); (try clear hi); (try clear ho0)))
    repeat (go_quiet (fail); try go_wp2)
    go_ret
    exact ⟨_, by first | rfl | (simp [errW_none, errW_some] <;> rfl) | (simp [*, errW_none, errW_some] <;> rfl), by (with_reducible repeat (first | apply Kd.V_alloc | apply Kd.V_drewN | apply Kd.V_drew)); exact Kd.V_mono HO135.out (fun _ hk => ⟨hk.1, by first | exact hk.2.1 | (rw [hl0_1]; exact hk.2.1)⟩), (by first | exact (by (with_reducible repeat (first | apply Kd.R_alloc | apply Kd.R_drewN | apply Kd.R_drew)); exact Kd.R_mono HO_0.out (fun _ hk => hk.1)) | (simp only [hl0_1, hl8_1]; exact (by (with_reducible repeat (first | apply Kd.R_alloc | apply Kd.R_drewN | apply Kd.R_drew)); exact Kd.R_mono HO_0.out (fun _ hk => hk.1)))), by repeat (first | (with_reducible first | exact HB.out | apply below_alloc | apply pw_below_drewN | apply below_drew1) | exact HB.out), by repeat (first | (with_reducible first | exact HK.out | apply Kept.alloc | apply Kept.drewN | apply Kept.drew) | exact HK.out)⟩

end Go.Proofs.Ytedpoahndddgfaa.PAll
end
section
namespace Go.Proofs.Ytedpoahndddgfaa.PAll
open Go.RowKit Go.Proofs.YtedpoahndddgfaaW.PrintWords Go.Proofs.YtedpoahndddgfaaW.PrintLast Go.Proofs.YtedpoahndddgfaaW.PrintMore
attribute [local go_sem] max2_int min2_int max_two min_two max_three min_three max_four min_four   -- for this text's walks alone
set_option linter.unusedVariables false
set_option linter.unusedSimpArgs false

/-! ### profile_New_1: function 41 -/
def profile_New_1.f (a0_0 : Int) (a0_1 : Int) (a1_0 : Int) (a1_1 : Int) : Option (Int) := (cmp_Compare_int.f a0_0 a1_0).bind fun t111 => (some t111)
set_option maxHeartbeats 8000000 in
set_option maxRecDepth 100000 in
theorem profile_New_1.calls (a0_0 : Int) (a0_1 : Int) (a1_0 : Int) (a1_1 : Int) (r : Int) (w : World) (h : profile_New_1.f a0_0 a0_1 a1_0 a1_1 = some r) :
  Calls Try.prog 41 #[.agg #[.int .i64 a0_0, .int .i64 a0_1], .agg #[.int .i64 a1_0, .int .i64 a1_1]] w fun e w' => e = .returned (.int .i64 r) ∧ Below w.heap.size w w' := by
 have hu38 := Try.underlying38
 have HB := Aside0.mk (Below.refl w.heap.size w)
 have H : ((cmp_Compare_int.f a0_0 a1_0).bind fun t111 => (some t111)) = some r := h
 clear h
 replace H := Option.bind_eq_some_iff.mp H
 obtain ⟨t111, A30, H⟩ := H
 replace H : (some t111) = some r := H
 have A3 := Aside0.mk A30
 clear A30
 obtain rfl := Option.some.inj H
 go_enter Try.func41, Try.ntmps41
 go_wp2_with (first | ((with_reducible refine gate_dst (N := 2) rfl ?_); refine box_event ?hg (N := 2) ?hd (cs := #[.int .i64 a0_0, .int .i64 a0_1]) (t := 38) ?hr ?_; (case hd => rfl); (case hg => rfl); (case hr => first | (go_simp; done) | (go_simp; rfl)); intro gb109 hg w4 hbox hb; have n0_ := Aside0.mk (below_step (mB HB.out) hb); have n1_ := Aside0.mk (hbox); have n2_ := Aside0.mk ((by rw [hg]; exact (below_size (mB HB.out)) : w.heap.size ≤ gb109)); have n3_ := Aside0.mk ((by rw [hg]; exact (below_size (mB HB.out)) : w.heap.size ≤ gb109)); clear HB; have HB := n0_; have BK109 := n1_; have GW109 := n2_; have GE109 := n3_; clear n0_ n1_ n2_ n3_; clear hb hbox hg) | ((with_reducible refine gate_dst (N := 3) rfl ?_); refine box_event ?hg (N := 3) ?hd (cs := #[.int .i64 a1_0, .int .i64 a1_1]) (t := 38) ?hr ?_; (case hd => rfl); (case hg => rfl); (case hr => first | (go_simp; done) | (go_simp; rfl)); intro gb110 hg w5 hbox hb; have n0_ := Aside0.mk (blk_below (g := gb109) (o := .cells #[.int .i64 a0_0, .int .i64 a0_1] 38 (0, 0)) (mBK BK109.out) hb); have n1_ := Aside0.mk (below_step (mBs HB.out) hb); have n2_ := Aside0.mk (hbox); have n3_ := Aside0.mk ((by rw [hg]; exact (below_size (mBs HB.out)) : w.heap.size ≤ gb110)); have n4_ := Aside0.mk ((by rw [hg]; exact (below_size (mBs HB.out)) : w.heap.size ≤ gb110)); have n5_ := Aside0.mk ((by rw [hg]; exact Nat.ne_of_lt (blk_lt (g := gb109) (o := .cells #[.int .i64 a0_0, .int .i64 a0_1] 38 (0, 0)) (mBK BK109.out)) : gb109 ≠ gb110)); have n6_ := Aside0.mk ((by rw [hg]; exact Nat.ne_of_gt (blk_lt (g := gb109) (o := .cells #[.int .i64 a0_0, .int .i64 a0_1] 38 (0, 0)) (mBK BK109.out)) : gb110 ≠ gb109)); clear BK109; clear HB; have BK109 := n0_; have HB := n1_; have BK110 := n2_; have GW110 := n3_; have GE110 := n4_; have NB109_110 := n5_; have NB110_109 := n6_; clear n0_ n1_ n2_ n3_ n4_ n5_ n6_; clear hb hbox hg; have hnb6 := NB109_110.out; have hnc6 := NB110_109.out; have hcz7_0 : w5.cell? ⟨gb109, 0, none⟩ = some (.int .i64 a0_0) := (blk_cell BK109.out 0).trans rfl; have hcz7_1 : w5.cell? ⟨gb109, 1, none⟩ = some (.int .i64 a0_1) := (blk_cell BK109.out 1).trans rfl; have hfz7_0 := blk_frozen BK109.out 0; have hfz7_1 := blk_frozen BK109.out 1; have hcz8_0 : w5.cell? ⟨gb110, 0, none⟩ = some (.int .i64 a1_0) := (blk_cell BK110.out 0).trans rfl; have hcz8_1 : w5.cell? ⟨gb110, 1, none⟩ = some (.int .i64 a1_1) := (blk_cell BK110.out 1).trans rfl; have hfz8_0 := blk_frozen BK110.out 0; have hfz8_1 := blk_frozen BK110.out 1) | ((with_reducible refine gate_callee (f := 42) rfl ?_); refine goesL_ (some 9) rfl rfl Try.func42 (by kernel_rfl) rfl #[.int .i64 a0_0, .int .i64 a1_0] rfl mt ?_; (with_reducible refine (cmp_Compare_int.calls a0_0 a1_0 t111 _ A3.out).mono ?_); rintro e w' ⟨rfl, ⟨nd, rfl⟩⟩; refine ⟨_, rfl, ?_⟩))
 go_ret
 exact ⟨by first | rfl | (simp [errW_none, errW_some] <;> rfl) | (simp [*, errW_none, errW_some] <;> rfl), by repeat (first | (with_reducible first | exact HB.out | apply below_alloc | apply pw_below_drewN | apply below_drew1 | refine below_set ?_ GE109.out | refine below_set ?_ GE110.out) | exact HB.out)⟩

end Go.Proofs.Ytedpoahndddgfaa.PAll
end
section
namespace Go.Proofs.Ytedpoahndddgfaa.PAll
open Go.RowKit Go.Proofs.YtedpoahndddgfaaW.PrintWords Go.Proofs.YtedpoahndddgfaaW.PrintLast Go.Proofs.YtedpoahndddgfaaW.PrintMore
attribute [local go_sem] max2_int min2_int max_two min_two max_three min_three max_four min_four   -- for this text's walks alone
set_option linter.unusedVariables false
set_option linter.unusedSimpArgs false

/-! ### slices_insertionSortCmpFunc_Busy__profile_New_1: function 61 -/
mutual
def slices_insertionSortCmpFunc_Busy__profile_New_1.l0 : Nat → List (S38) → Int → Int → Int → Option ((List (S38)))
 | 0, _, _, _, _ => none
 | k + 1, x0, x1, x2, x8 => if x8 < x2 then (slices_insertionSortCmpFunc_Busy__profile_New_1.l1 k x0 x1 x2 x8 x8) else (some x0)
def slices_insertionSortCmpFunc_Busy__profile_New_1.l1 : Nat → List (S38) → Int → Int → Int → Int → Option ((List (S38)))
 | 0, _, _, _, _, _ => none
 | k + 1, x0, x1, x2, x8, x9 => if x9 > x1 then (if 0 ≤ x9 then (if x9 < (x0.length : Int) then (if 0 ≤ (wrap64 (x9 - 1)) then (if (wrap64 (x9 - 1)) < (x0.length : Int) then ((profile_New_1.f ((rd_T38 x0 x9).f0) ((rd_T38 x0 x9).f1) ((rd_T38 x0 (wrap64 (x9 - 1))).f0) ((rd_T38 x0 (wrap64 (x9 - 1))).f1)).bind fun t138 => (if t138 < 0 then (slices_insertionSortCmpFunc_Busy__profile_New_1.l1 k ((x0.set (x9 : Int).toNat (⟨(rd_T38 x0 (wrap64 (x9 - 1))).f0, (rd_T38 x0 (wrap64 (x9 - 1))).f1⟩ : S38)).set ((wrap64 (x9 - 1)) : Int).toNat (⟨(rd_T38 x0 x9).f0, (rd_T38 x0 x9).f1⟩ : S38)) x1 x2 x8 (wrap64 (x9 - 1))) else (slices_insertionSortCmpFunc_Busy__profile_New_1.l0 k x0 x1 x2 (wrap64 (x8 + 1))))) else (none)) else (none)) else (none)) else (none)) else (slices_insertionSortCmpFunc_Busy__profile_New_1.l0 k x0 x1 x2 (wrap64 (x8 + 1)))
end
def slices_insertionSortCmpFunc_Busy__profile_New_1.f (k : Nat) (l0 : List (S38)) (a1 : Int) (a2 : Int)  : Option ((List (S38))) := slices_insertionSortCmpFunc_Busy__profile_New_1.l0 k l0 a1 a2 (wrap64 (a1 + 1))
theorem slices_insertionSortCmpFunc_Busy__profile_New_1.mono_l : ∀ k, (∀ y0 y1 y2 y3, LeO (slices_insertionSortCmpFunc_Busy__profile_New_1.l0 k y0 y1 y2 y3) (slices_insertionSortCmpFunc_Busy__profile_New_1.l0 (k + 1) y0 y1 y2 y3)) ∧ (∀ y0 y1 y2 y3 y4, LeO (slices_insertionSortCmpFunc_Busy__profile_New_1.l1 k y0 y1 y2 y3 y4) (slices_insertionSortCmpFunc_Busy__profile_New_1.l1 (k + 1) y0 y1 y2 y3 y4))
 | 0 => ⟨fun _ _ _ _ r h => by simp [slices_insertionSortCmpFunc_Busy__profile_New_1.l0] at h, fun _ _ _ _ _ r h => by simp [slices_insertionSortCmpFunc_Busy__profile_New_1.l1] at h⟩
 | k + 1 => by
  obtain ⟨ih0, ih1⟩ := slices_insertionSortCmpFunc_Busy__profile_New_1.mono_l k
  refine ⟨?_, ?_⟩
  ·intro y0 y1 y2 y3
   unfold slices_insertionSortCmpFunc_Busy__profile_New_1.l0
   repeat' first
   | (with_reducible exact ih0 _ _ _ _)
   | (with_reducible exact ih1 _ _ _ _ _)
   | (with_reducible exact LeO.refl _)
   | (with_reducible exact LeO.none _)
   | (with_reducible refine LeO.ite ?_ ?_)
   | (with_reducible refine LeO.bind ?_ (fun _ => ?_))
   | exact ih0 _ _ _ _
   | exact ih1 _ _ _ _ _
   | exact LeO.none _
   | refine LeO.ite ?_ ?_
   | refine LeO.bind ?_ (fun _ => ?_)
  ·intro y0 y1 y2 y3 y4
   unfold slices_insertionSortCmpFunc_Busy__profile_New_1.l1
   repeat' first
   | (with_reducible exact ih0 _ _ _ _)
   | (with_reducible exact ih1 _ _ _ _ _)
   | (with_reducible exact LeO.refl _)
   | (with_reducible exact LeO.none _)
   | (with_reducible refine LeO.ite ?_ ?_)
   | (with_reducible refine LeO.bind ?_ (fun _ => ?_))
   | exact ih0 _ _ _ _
   | exact ih1 _ _ _ _ _
   | exact LeO.none _
   | refine LeO.ite ?_ ?_
   | refine LeO.bind ?_ (fun _ => ?_)
theorem slices_insertionSortCmpFunc_Busy__profile_New_1.mono : ∀ a0 a1 a2 k, LeO (slices_insertionSortCmpFunc_Busy__profile_New_1.f k a0 a1 a2) (slices_insertionSortCmpFunc_Busy__profile_New_1.f (k + 1) a0 a1 a2) := by
 intro a0 a1 a2 k
 obtain ⟨ih0, ih1⟩ := slices_insertionSortCmpFunc_Busy__profile_New_1.mono_l k
 unfold slices_insertionSortCmpFunc_Busy__profile_New_1.f
 repeat' first
   | (with_reducible exact ih0 _ _ _ _)
   | (with_reducible exact ih1 _ _ _ _ _)
   | (with_reducible exact LeO.refl _)
   | (with_reducible exact LeO.none _)
   | (with_reducible refine LeO.ite ?_ ?_)
   | (with_reducible refine LeO.bind ?_ (fun _ => ?_))
   | exact ih0 _ _ _ _
   | exact ih1 _ _ _ _ _
   | exact LeO.none _
   | refine LeO.ite ?_ ?_
   | refine LeO.bind ?_ (fun _ => ?_)
def slices_insertionSortCmpFunc_Busy__profile_New_1.T4 : Bool × List (List Nat × List Nat) := (true, [([], []), ([], []), ([0, 1], [0, 1]), ([2], [2]), ([3], [3]), ([3], [3]), ([3], [3]), ([5, 6, 3], [3, 5, 6]), ([7, 3], [3, 7]), ([3], [3]), ([3], [3]), ([10, 3], [3, 10]), ([9, 11, 3], [3, 9, 11]), ([12, 3], [3, 12]), ([4, 8, 13, 3, 3], [3, 4, 8, 13]), ([14, 3], [3, 14]), ([3, 15], [3, 15])])
def slices_insertionSortCmpFunc_Busy__profile_New_1.B4 : List Nat := [0, 0, 3, 7, 15, 15, 15, 111, 239, 15, 15, 1039, 3599, 7695, 16383, 32767, 65535]
theorem slices_insertionSortCmpFunc_Busy__profile_New_1.tab4 : rtab .any (opsOf Try.f61 4) = slices_insertionSortCmpFunc_Busy__profile_New_1.T4 := by kernel_rfl
theorem slices_insertionSortCmpFunc_Busy__profile_New_1.bits4 : waitsOk slices_insertionSortCmpFunc_Busy__profile_New_1.T4.2 slices_insertionSortCmpFunc_Busy__profile_New_1.B4 = true := by kernel_rfl
def slices_insertionSortCmpFunc_Busy__profile_New_1.T6 : Bool × List (List Nat × List Nat) := (true, [([], []), ([], []), ([], []), ([], []), ([3], [3]), ([], []), ([], []), ([6], [6]), ([5, 7], [5, 7]), ([8], [8]), ([], []), ([], []), ([10, 11], [10, 11]), ([12], [12]), ([0, 1, 0, 1, 5, 6, 7, 8, 9, 13], [0, 1]), ([14, 9, 0, 1, 5, 6, 7, 8, 9, 13], [9, 14]), ([2, 4, 0, 1, 2, 3, 4, 5, 6, 7, 8, 9, 10, 11, 12, 13, 14, 15], [2, 4]), ([16, 13, 15, 0, 1, 2, 3, 4, 5, 6, 7, 8, 9, 10, 11, 12, 13, 14, 15], [13, 16])])
def slices_insertionSortCmpFunc_Busy__profile_New_1.B6 : List Nat := [0, 0, 0, 0, 8, 0, 0, 64, 224, 480, 0, 0, 3072, 7168, 16355, 32739, 65535, 131071]
theorem slices_insertionSortCmpFunc_Busy__profile_New_1.tab6 : rtab .any (opsOf Try.f61 6) = slices_insertionSortCmpFunc_Busy__profile_New_1.T6 := by kernel_rfl
theorem slices_insertionSortCmpFunc_Busy__profile_New_1.bits6 : waitsOk slices_insertionSortCmpFunc_Busy__profile_New_1.T6.2 slices_insertionSortCmpFunc_Busy__profile_New_1.B6 = true := by kernel_rfl
set_option maxHeartbeats 8000000 in
set_option maxRecDepth 100000 in
theorem slices_insertionSortCmpFunc_Busy__profile_New_1.calls (k : Nat) (P0_ : Nat → Prop) (u9000_ : Value) (l0 : List (S38)) (a1 : Int) (a2 : Int)  (r : List (S38)) (w0 w : World) (hB : Below w0.heap.size w0 w) (ho0 : Kd.R k38 38 w w0.heap.size P0_ u9000_ l0) (h : slices_insertionSortCmpFunc_Busy__profile_New_1.f k l0 a1 a2 = some r) :
  Calls Try.prog 61 #[u9000_, .int .i64 a1, .int .i64 a2, .func (.func 41) #[] #[]] w fun e w' => e = .returned (.tuple #[]) ∧ Kd.R k38 38 w' w0.heap.size (fun k_ => (P0_ k_ ∨ w.heap.size ≤ k_)) u9000_ r ∧ Below w0.heap.size w0 w' ∧ Kept w w' (fun k_ => P0_ k_) := by
 have hu38 := Try.underlying38
 have HO0 := Aside0.mk (show Kd.R k38 38 w w0.heap.size (fun k_ => (P0_ k_ ∨ w.heap.size ≤ k_)) u9000_ l0 from Kd.R_mono ho0 (fun k_ hk => (.inl hk)))
 have HK := Aside0.mk (Kept.refl w (fun k_ => P0_ k_))
 have HW0 := Aside0.mk hB.size
 have HB := Aside0.mk hB
 clear hB
 have H : (slices_insertionSortCmpFunc_Busy__profile_New_1.l0 k l0 a1 a2 (wrap64 (a1 + 1))) = some r := h
 clear h
 have H' := Aside0.mk H
 clear H
 go_enter Try.func61, Try.ntmps61
 go_wp2
 go_loopg [8] k (fun kq v8 w' => ∃ (x0_1 : List (S38)) (x8_1 : Int), v8 = .int .i64 x8_1 ∧ Aside0 (slices_insertionSortCmpFunc_Busy__profile_New_1.l0 kq x0_1 a1 a2 x8_1 = some r) ∧ Aside0 (kq ≤ k) ∧ Aside0 (Kd.R k38 38 w' w0.heap.size (fun k_ => (P0_ k_ ∨ w.heap.size ≤ k_)) u9000_ x0_1) ∧ Aside0 (Kept w w' (fun k_ => P0_ k_)) ∧ Aside0 (Below w0.heap.size w0 w'))
 case atStart => exact ⟨(l0), (wrap64 (a1 + 1)), ez, H', ⟨Nat.le_refl _⟩, ⟨mR HO0.out⟩, ⟨mK HK.out⟩, ⟨mB HB.out⟩⟩
 case round =>
  clear H'
  (try clear p2)
  obtain ⟨x0_1, x8_1, rfl, HA, HK1, HO_0, HK, HB⟩ := hrel
  cases gk with
  | zero => exact absurd HA.out (by simp [slices_insertionSortCmpFunc_Busy__profile_New_1.l0])
  | succ k1 =>
   have H := HA.out
   clear HA
   simp only [slices_insertionSortCmpFunc_Busy__profile_New_1.l0] at H
   by_cases c5 : x8_1 < a2
   ·rw [if_pos c5] at H
    have c5b0 : decide (x8_1 < a2) = true := decide_eq_true c5
    clear c5
    have H' := Aside0.mk H
    clear H
    go_wp2
    go_loopg [9] k1 (fun kq v9 w' => ∃ (x0_2 : List (S38)) (x9_2 : Int), v9 = .int .i64 x9_2 ∧ Aside0 (slices_insertionSortCmpFunc_Busy__profile_New_1.l1 kq x0_2 a1 a2 x8_1 x9_2 = some r) ∧ Aside0 (kq ≤ k1) ∧ Aside0 (Kd.R k38 38 w' w0.heap.size (fun k_ => (P0_ k_ ∨ w.heap.size ≤ k_)) u9000_ x0_2) ∧ Aside0 (Kept w w' (fun k_ => P0_ k_)) ∧ Aside0 (Below w0.heap.size w0 w'))
    case atStart => exact ⟨(x0_1), (x8_1), ez, H', ⟨Nat.le_refl _⟩, ⟨mR HO_0.out⟩, ⟨mK HK.out⟩, ⟨mB HB.out⟩⟩
    case round =>
     clear H'
     (try clear p2); (try clear c5); (try clear c5b0); (try clear p2)
     obtain ⟨x0_2, x9_2, rfl, HA, HK2, HO_0, HK, HB⟩ := hrel
     cases gk with
     | zero => exact absurd HA.out (by simp [slices_insertionSortCmpFunc_Busy__profile_New_1.l1])
     | succ k2 =>
      have H := HA.out
      clear HA
      simp only [slices_insertionSortCmpFunc_Busy__profile_New_1.l1] at H
      by_cases c6 : x9_2 > a1
      ·rw [if_pos c6] at H
       have c6b0 : decide (a1 < x9_2) = true := decide_eq_true c6
       clear c6
       by_cases c7 : 0 ≤ x9_2
       ·rw [if_pos c7] at H
        have c7b0 : decide (0 ≤ x9_2) = true := decide_eq_true c7
        clear c7
        by_cases c8 : x9_2 < (x0_2.length : Int)
        ·rw [if_pos c8] at H
         have c8b0 : decide (x9_2 < (x0_2.length : Int)) = true := decide_eq_true c8
         clear c8
         obtain ⟨ji9, hji9⟩ : ∃ j_ : Int, (wrap64 (x9_2 - 1)) = j_ := ⟨_, rfl⟩
         replace H : (if 0 ≤ (ji9) then (if (ji9) < (x0_2.length : Int) then ((profile_New_1.f ((rd_T38 x0_2 x9_2).f0) ((rd_T38 x0_2 x9_2).f1) ((rd_T38 x0_2 (ji9)).f0) ((rd_T38 x0_2 (ji9)).f1)).bind fun t138 => (if t138 < 0 then (slices_insertionSortCmpFunc_Busy__profile_New_1.l1 k2 ((x0_2.set (x9_2 : Int).toNat (⟨(rd_T38 x0_2 (ji9)).f0, (rd_T38 x0_2 (ji9)).f1⟩ : S38)).set ((ji9) : Int).toNat (⟨(rd_T38 x0_2 x9_2).f0, (rd_T38 x0_2 x9_2).f1⟩ : S38)) a1 a2 x8_1 ji9) else (slices_insertionSortCmpFunc_Busy__profile_New_1.l0 k2 x0_2 a1 a2 (wrap64 (x8_1 + 1))))) else (none)) else (none)) = some r := by first | (rw [hji9] at H; exact H) | (simp only [hji9] at H ⊢; exact H)
         have hji9w : (IntKind.i64.wrap (x9_2 - 1)) = ji9 := (i64_w _).trans hji9
         by_cases c10 : 0 ≤ (ji9)
         ·rw [if_pos c10] at H
          have c10b0 : decide (0 ≤ (ji9)) = true := decide_eq_true c10
          clear c10
          by_cases c11 : (ji9) < (x0_2.length : Int)
          ·rw [if_pos c11] at H
           have c11b0 : decide ((ji9) < (x0_2.length : Int)) = true := decide_eq_true c11
           clear c11
           replace H := Option.bind_eq_some_iff.mp H
           obtain ⟨t138, A120, H⟩ := H
           replace H : (if t138 < 0 then (slices_insertionSortCmpFunc_Busy__profile_New_1.l1 k2 ((x0_2.set (x9_2 : Int).toNat (⟨(rd_T38 x0_2 (ji9)).f0, (rd_T38 x0_2 (ji9)).f1⟩ : S38)).set ((ji9) : Int).toNat (⟨(rd_T38 x0_2 x9_2).f0, (rd_T38 x0_2 x9_2).f1⟩ : S38)) a1 a2 x8_1 ji9) else (slices_insertionSortCmpFunc_Busy__profile_New_1.l0 k2 x0_2 a1 a2 (wrap64 (x8_1 + 1)))) = some r := H
           have A12 := Aside0.mk A120
           clear A120
           by_cases c13 : t138 < 0
           ·rw [if_pos c13] at H
            have c13b0 : decide (t138 < 0) = true := decide_eq_true c13
            clear c13
            obtain ⟨y141, hy141⟩ : ∃ y_ : List (S38), y_ = (x0_2.set (x9_2 : Int).toNat (⟨(rd_T38 x0_2 (ji9)).f0, (rd_T38 x0_2 (ji9)).f1⟩ : S38)) := ⟨_, rfl⟩
            replace H : (slices_insertionSortCmpFunc_Busy__profile_New_1.l1 k2 (y141.set ((ji9) : Int).toNat (⟨(rd_T38 x0_2 x9_2).f0, (rd_T38 x0_2 x9_2).f1⟩ : S38)) a1 a2 x8_1 ji9) = some r := mH hy141 H
            have Ny141 := Aside0.mk hy141
            clear hy141
            obtain ⟨y142, hy142⟩ : ∃ y_ : List (S38), y_ = (y141.set ((ji9) : Int).toNat (⟨(rd_T38 x0_2 x9_2).f0, (rd_T38 x0_2 x9_2).f1⟩ : S38)) := ⟨_, rfl⟩
            replace H : (slices_insertionSortCmpFunc_Busy__profile_New_1.l1 k2 y142 a1 a2 x8_1 ji9) = some r := mH hy142 H
            have Ny142 := Aside0.mk hy142
            clear hy142
            have H' := Aside0.mk H
            clear H
            try go_wp2
            have n0_ := Aside0.mk (Kd.R_drew HO_0.out)
            have n1_ := Aside0.mk (Kept.drew HK.out)
            have n2_ := Aside0.mk (below_drew1 HB.out)
            clear HO_0; clear HK; clear HB
            have HO_0 := n0_
            have HK := n1_
            have HB := n2_
            clear n0_; clear n1_; clear n2_
            obtain ⟨Ao17, co17, eo17⟩ := Kd.R_slice HO_0.out
            (first | subst eo17 | (injection eo17 with f1_ f2_ f3_; have f4_ := f1_.symm; have f5_ := f3_.symm; clear f1_ f2_ f3_; subst f4_; subst f5_))
            have p136 : 0 ≤ (x9_2 : Int) := oda
            have q136 : x9_2 < (x0_2.length : Int) := oda
            obtain ⟨ad136, e136, hx136_0, hx136_1⟩ := at_T38 (Kd.R_reads' HO_0.out).2.2 x9_2 p136 q136
            cases e136
            replace p136 := eq_true p136
            replace q136 := eq_true q136
            have p137 : 0 ≤ ((ji9) : Int) := oda
            have q137 : (ji9) < (x0_2.length : Int) := oda
            obtain ⟨ad137, e137, hx137_0, hx137_1⟩ := at_T38 (Kd.R_reads' HO_0.out).2.2 (ji9) p137 q137
            obtain rfl : ad136 = ad137 := (by injection e137)
            replace p137 := eq_true p137
            replace q137 := eq_true q137
            refine start_ (n := 17) (S := fun w' => w'.cell? (ad136.add ((x9_2).toNat * 2)) = some (.int .i64 ((rd_T38 x0_2 x9_2).f0)) ∧ w'.cell? ⟨(ad136.add ((x9_2).toNat * 2)).block, (ad136.add ((x9_2).toNat * 2)).off + 1, none⟩ = some (.int .i64 ((rd_T38 x0_2 x9_2).f1)) ∧ w'.cell? (ad136.add (((ji9)).toNat * 2)) = some (.int .i64 ((rd_T38 x0_2 (ji9)).f0)) ∧ w'.cell? ⟨(ad136.add (((ji9)).toNat * 2)).block, (ad136.add (((ji9)).toNat * 2)).off + 1, none⟩ = some (.int .i64 ((rd_T38 x0_2 (ji9)).f1))) (ds := []) #[false, false, false, false, false, false, false, false, false, false, false, false, false, false, false, false, false] (by kernel_rfl) rfl rfl ⟨hx136_0, hx136_1, hx137_0, hx137_1⟩ (fun hHeld => ?_); refine with_tabW slices_insertionSortCmpFunc_Busy__profile_New_1.tab4 slices_insertionSortCmpFunc_Busy__profile_New_1.bits4 (fun HT_ HW_ => ?_)
            generalize wr.drew = w16 at HO_0 HK HB hx136_0 hx136_1 hx137_0 hx137_1 hHeld ⊢
            refine plan_ [(0, 18), (1, 19), (2, 20), (3, 21), (4, 22), (5, 23), (6, 24), (7, 25), (9, 27), (10, 28), (11, 29), (12, 30)] ?_
            iterate 12 (refine planP_ (v := ?_) (a' := ?_) rfl rfl (any_of HT_.out (by kernel_rfl)) (fun _ _ _ h => h) (Or.inl ⟨by rfl, ?_⟩) ?_ ?_; rotate_left; (intro w'; go_simp; with_reducible rfl); rotate_left; (simp only [Act.put, List.setIfInBounds_toArray, List.set_cons_zero, List.set_cons_succ, i64_w, i32_w]; rfl))
            refine planEnd_ ?_
            refine plan_ [(8, 26), (13, 31)] ?_
            iterate 2 (refine planT_ (v := ?_) (a' := ?_) rfl rfl (take_ofW HT_.out HW_.out (by kernel_rfl)) (fun _ _ _ h => h) (Or.inl ⟨by rfl, ?_⟩) hHeld ?_ ?_; rotate_left; (rintro w' ⟨s0, s1, s2, s3⟩; go_simp; with_reducible rfl); rotate_left; (simp only [Act.put, List.setIfInBounds_toArray, List.set_cons_zero, List.set_cons_succ, i64_w, i32_w]; rfl))
            refine planEnd_ ?_
            refine one_ (i := 14) (N := some 32) #[true, true, true, true, true, true, true, true, true, true, true, true, true, true, true, false, false] rfl rfl (one_of HT_.out (by kernel_rfl)) (by decide) (fun K hK => ?_)
            refine goesV_ Try.func41 (by kernel_rfl) rfl #[.agg #[.int .i64 ((rd_T38 x0_2 x9_2).f0), .int .i64 ((rd_T38 x0_2 x9_2).f1)], .agg #[.int .i64 ((rd_T38 x0_2 (ji9)).f0), .int .i64 ((rd_T38 x0_2 (ji9)).f1)]] (by rfl) rfl rfl (by (try simp only [List.map_toArray, List.map_cons, List.map_nil]); first | done | (simp only [hji9]; rfl) | rfl | (simp only [List.length_drop, List.length_take]; rfl)) rfl ?_
            with_reducible refine (profile_New_1.calls ((rd_T38 x0_2 x9_2).f0) ((rd_T38 x0_2 x9_2).f1) ((rd_T38 x0_2 (ji9)).f0) ((rd_T38 x0_2 (ji9)).f1) t138 _ A12.out).mono ?_
            rintro e w18 ⟨rfl, hb⟩
            have HS0_ := (hb.cell (World.block_lt_of_cell? _ _ (hHeld.1))).trans (hHeld.1)
            have HS1_ := (hb.cell (World.block_lt_of_cell? _ _ (hHeld.2.1))).trans (hHeld.2.1)
            have HS2_ := (hb.cell (World.block_lt_of_cell? _ _ (hHeld.2.2.1))).trans (hHeld.2.2.1)
            have HS3_ := (hb.cell (World.block_lt_of_cell? _ _ (hHeld.2.2.2))).trans (hHeld.2.2.2)
            refine ⟨_, rfl, ?_⟩
            have n0_ := Aside0.mk (Kd.R_below (mR HO_0.out) hb)
            have n1_ := Aside0.mk (Kept.below (S := (fun k_ => P0_ k_)) (mK HK.out) hb)
            have n2_ := Aside0.mk (below_step (mB HB.out) hb)
            clear HO_0; clear HK; clear HB
            have HO_0 := n0_
            have HK := n1_
            have HB := n2_
            clear n0_; clear n1_; clear n2_
            (try clear hb); (try clear hb2); (try clear hk); (try clear hi)
            refine hK.out _ _ ⟨HS0_, HS1_, HS2_, HS3_⟩ (fun hHeld => ?_)
            clear hK; clear K
            refine norm_ (a' := ?_) ?_ ?_
            rotate_left
            ·show Act.put _ (some 32) _ = _
             simp only [Act.put, List.setIfInBounds_toArray, List.set_cons_zero, List.set_cons_succ, i64_w, i32_w]
             rfl
            refine plan_ [(15, 33), (16, 34)] ?_
            iterate 2 (refine planP_ (v := ?_) (a' := ?_) rfl rfl (any_of HT_.out (by kernel_rfl)) (fun _ _ _ h => h) (Or.inl ⟨by rfl, ?_⟩) ?_ ?_; rotate_left; (intro w'; go_simp; with_reducible rfl); rotate_left; (simp only [Act.put, List.setIfInBounds_toArray, List.set_cons_zero, List.set_cons_succ, i64_w, i32_w]; rfl))
            refine planEnd_ ?_
            refine done_ (done_of HT_.out (by kernel_rfl)) ?_
            try go_wp2
            have n0_ := Aside0.mk (Kd.R_drew HO_0.out)
            have n1_ := Aside0.mk (Kept.drew HK.out)
            have n2_ := Aside0.mk (below_drew1 HB.out)
            clear HO_0; clear HK; clear HB
            have HO_0 := n0_
            have HK := n1_
            have HB := n2_
            clear n0_; clear n1_; clear n2_
            have p139 : 0 ≤ ((ji9) : Int) := oda
            have q139 : (ji9) < (x0_2.length : Int) := oda
            obtain ⟨ad139, e139, hx139_0, hx139_1⟩ := at_T38 (Kd.R_reads' HO_0.out).2.2 (ji9) p139 q139
            obtain rfl : ad136 = ad139 := (by injection e139)
            replace p139 := eq_true p139
            replace q139 := eq_true q139
            have p140 : 0 ≤ (x9_2 : Int) := oda
            have q140 : x9_2 < (x0_2.length : Int) := oda
            obtain ⟨ad140, e140, hx140_0, hx140_1⟩ := at_T38 (Kd.R_reads' HO_0.out).2.2 x9_2 p140 q140
            obtain rfl : ad136 = ad140 := (by injection e140)
            replace p140 := eq_true p140
            replace q140 := eq_true q140
            have p14 : 0 ≤ (x9_2 : Int) := oda
            have q14 : (x9_2 : Int) < ((x0_2.length : Int) : Int) := oda
            obtain ⟨go14, co14, eo14, gb14, gl14, cl14, HG14⟩ := Kd.R_form HO_0.out (by omega)
            (first | cases eo14 | (injection eo14 with ea_ en_ ec_; (first | subst ea_ | (injection ea_ with ea_; subst ea_)); subst ec_; clear en_))
            have GB14 := Aside0.mk gb14
            have GG14 := Aside0.mk HG14
            clear gb14; clear gl14; clear HG14
            have HMgo14 := Aside0.mk (show (P0_ go14 ∨ w.heap.size ≤ go14) from (HO_0.out.1 _ rfl))
            (first | simp only [add_plain] at hx136_0 | skip)
            (first | simp only [add_plain] at hx136_1 | skip)
            (first | simp only [add_plain] at hx137_0 | skip)
            (first | simp only [add_plain] at hx137_1 | skip)
            (first | simp only [add_plain] at hx139_0 | skip)
            (first | simp only [add_plain] at hx139_1 | skip)
            (first | simp only [add_plain] at hx140_0 | skip)
            (first | simp only [add_plain] at hx140_1 | skip)
            obtain ⟨ce14, hcl14, hM14, hcc14, hfr14⟩ := Kd.R_elem HO_0.out z38 (x9_2 : Int) p14 q14
            obtain rfl := k38_openM hM14
            have hx14_0 : World.cell? _ ⟨go14, (x9_2 : Int).toNat * 2, none⟩ = some (.int .i64 ((rd_T38 x0_2 x9_2).f0)) := hcc14 0 _ rfl
            have hx14_1 : World.cell? _ ⟨go14, (x9_2 : Int).toNat * 2 + 1, none⟩ = some (.int .i64 ((rd_T38 x0_2 x9_2).f1)) := hcc14 1 _ rfl
            have hf14_0 : World.frozen? _ ⟨go14, (x9_2 : Int).toNat * 2, none⟩ = false := hfr14 0
            have hf14_1 : World.frozen? _ ⟨go14, (x9_2 : Int).toNat * 2 + 1, none⟩ = false := hfr14 1
            clear hcl14; clear hcc14; clear hfr14; clear hM14
            replace p14 := eq_true p14
            replace q14 := eq_true q14
            obtain ⟨ce20, hcl20, hM20, hcc20, hfr20⟩ := Kd.R_elem HO_0.out z38 (x9_2 : Int) (oda) (by have h_ : (x9_2 : Int) < ((x0_2.length : Int) : Int) := oda; first | exact h_ | (have e_ := (Kd.R_reads' HO_0.out).1; omega) | simpa using h_)
            obtain rfl := k38_openM hM20
            have HP20 := (Kd.R_seg HO_0.out (x9_2 : Int) (oda) (by have h_ : (x9_2 : Int) < ((x0_2.length : Int) : Int) := oda; first | exact h_ | (have e_ := (Kd.R_reads' HO_0.out).1; omega) | simpa using h_) (seg := [.int .i64 ((rd_T38 x0_2 (ji9)).f0), .int .i64 ((rd_T38 x0_2 (ji9)).f1)]) (j := 0) hcl20 hcc20 (show 2 ≤ 2 from by decide) (x' := (⟨(rd_T38 x0_2 (ji9)).f0, (rd_T38 x0_2 (ji9)).f1⟩ : S38)) (k38_mkM _ _ _ (⟨(rd_T38 x0_2 (ji9)).f0, (rd_T38 x0_2 (ji9)).f1⟩ : S38) ) (fun _ hk => hk)).1
            rw [← Ny141.out] at HP20
            have HQ20 := Aside0.mk HP20
            clear hcl20; clear hcc20; clear hfr20; clear hM20; clear HP20
            have p15 : 0 ≤ ((ji9) : Int) := oda
            have q15 : ((ji9) : Int) < ((x0_2.length : Int) : Int) := oda
            obtain ⟨ce15, hcl15, hM15, hcc15, hfr15⟩ := Kd.R_elem HQ20.out z38 ((ji9) : Int) p15 q15
            obtain rfl := k38_openM hM15
            have hx15_0 : World.cell? _ ⟨go14, ((ji9) : Int).toNat * 2, none⟩ = some (.int .i64 ((rd_T38 y141 (ji9)).f0)) := hcc15 0 _ rfl
            have hx15_1 : World.cell? _ ⟨go14, ((ji9) : Int).toNat * 2 + 1, none⟩ = some (.int .i64 ((rd_T38 y141 (ji9)).f1)) := hcc15 1 _ rfl
            have hf15_0 : World.frozen? _ ⟨go14, ((ji9) : Int).toNat * 2, none⟩ = false := hfr15 0
            have hf15_1 : World.frozen? _ ⟨go14, ((ji9) : Int).toNat * 2 + 1, none⟩ = false := hfr15 1
            clear hcl15; clear hcc15; clear hfr15; clear hM15
            replace p15 := eq_true p15
            replace q15 := eq_true q15
            obtain ⟨ce21, hcl21, hM21, hcc21, hfr21⟩ := Kd.R_elem HQ20.out z38 ((ji9) : Int) (oda) (by have h_ : ((ji9) : Int) < ((x0_2.length : Int) : Int) := oda; first | exact h_ | (have e_ := (Kd.R_reads' HO_0.out).1; omega) | simpa using h_)
            obtain rfl := k38_openM hM21
            have HP21 := (Kd.R_seg HQ20.out ((ji9) : Int) (oda) (by have h_ : ((ji9) : Int) < ((x0_2.length : Int) : Int) := oda; first | exact h_ | (have e_ := (Kd.R_reads' HO_0.out).1; omega) | simpa using h_) (seg := [.int .i64 ((rd_T38 x0_2 x9_2).f0), .int .i64 ((rd_T38 x0_2 x9_2).f1)]) (j := 0) hcl21 hcc21 (show 2 ≤ 2 from by decide) (x' := (⟨(rd_T38 x0_2 x9_2).f0, (rd_T38 x0_2 x9_2).f1⟩ : S38)) (k38_mkM _ _ _ (⟨(rd_T38 x0_2 x9_2).f0, (rd_T38 x0_2 x9_2).f1⟩ : S38) ) (fun _ hk => hk)).1
            rw [← Ny142.out] at HP21
            have HQ21 := Aside0.mk HP21
            clear hcl21; clear hcc21; clear hfr21; clear hM21; clear HP21
            refine start_ (n := 18) (S := fun w' => w'.cell? ⟨go14, (((ji9)).toNat * 2), none⟩ = some (.int .i64 ((rd_T38 x0_2 (ji9)).f0)) ∧ w'.cell? ⟨go14, (((ji9)).toNat * 2) + 1, none⟩ = some (.int .i64 ((rd_T38 x0_2 (ji9)).f1)) ∧ w'.cell? ⟨go14, ((x9_2).toNat * 2), none⟩ = some (.int .i64 ((rd_T38 x0_2 x9_2).f0)) ∧ w'.cell? ⟨go14, ((x9_2).toNat * 2) + 1, none⟩ = some (.int .i64 ((rd_T38 x0_2 x9_2).f1))) (ds := [15, 17]) #[false, false, false, false, false, false, false, false, false, false, false, false, false, false, false, false, false, false] (by kernel_rfl) rfl rfl ⟨hx139_0, hx139_1, hx140_0, hx140_1⟩ (fun hHeld => ?_); refine with_tabW slices_insertionSortCmpFunc_Busy__profile_New_1.tab6 slices_insertionSortCmpFunc_Busy__profile_New_1.bits6 (fun HT_ HW_ => ?_)
            generalize w18.drew = w19 at HO_0 HK HB GG14 HQ20 HQ21 hf14_0 hf14_1 hf15_0 hf15_1 hx136_0 hx136_1 hx137_0 hx137_1 hx139_0 hx139_1 hx140_0 hx140_1 hx14_0 hx14_1 hx15_0 hx15_1 hHeld ⊢
            (try simp [go_sem, World.setCells, show (k38).sz = 2 from rfl] at hf15_0)
            (try simp [go_sem, World.setCells, show (k38).sz = 2 from rfl] at hf15_1)
            (try simp [go_sem, World.setCells, show (k38).sz = 2 from rfl] at hx15_0)
            (try simp [go_sem, World.setCells, show (k38).sz = 2 from rfl] at hx15_1)
            refine plan_ [(0, 37), (1, 38), (2, 39), (3, 40), (4, 41), (5, 42), (6, 43), (7, 44), (8, 45), (10, 47), (11, 48), (12, 49)] ?_
            iterate 12 (refine planP_ (v := ?_) (a' := ?_) rfl rfl (any_of HT_.out (by kernel_rfl)) (fun _ _ _ h => h) (Or.inl ⟨by rfl, ?_⟩) ?_ ?_; rotate_left; (intro w'; go_simp; with_reducible rfl); rotate_left; (simp only [Act.put, List.setIfInBounds_toArray, List.set_cons_zero, List.set_cons_succ, i64_w, i32_w]; rfl))
            refine planEnd_ ?_
            refine plan_ [(9, 46), (13, 50)] ?_
            iterate 2 (refine planT_ (v := ?_) (a' := ?_) rfl rfl (take_ofW HT_.out HW_.out (by kernel_rfl)) (fun _ _ _ h => h) (Or.inl ⟨by rfl, ?_⟩) hHeld ?_ ?_; rotate_left; (rintro w' ⟨s0, s1, s2, s3⟩; go_simp; with_reducible rfl); rotate_left; (simp only [Act.put, List.setIfInBounds_toArray, List.set_cons_zero, List.set_cons_succ, i64_w, i32_w]; rfl))
            refine planEnd_ ?_
            refine plan_ [(14, 51)] ?_
            refine planP_ (v := ?_) (a' := ?_) rfl rfl (any_of HT_.out (by kernel_rfl)) (fun _ _ _ h => h) (Or.inl ⟨by rfl, ?_⟩) ?_ ?_; rotate_left; (intro w'; go_simp; with_reducible rfl); rotate_left; (simp only [Act.put, List.setIfInBounds_toArray, List.set_cons_zero, List.set_cons_succ, i64_w, i32_w]; rfl)
            refine planEnd_ ?_
            refine last_ (i := 15) (N := none) #[true, true, true, true, true, true, true, true, true, true, true, true, true, true, true, true, false, false] rfl rfl (one_of HT_.out (by kernel_rfl)) (by decide) (fun K hK => ?_)
            refine skip_ (w1 := ?_) (by rfl) rfl ?_ ?_
            rotate_left
            ·go_simp
             rfl
            refine hK.out _ _ ?_
            clear hK; clear K
            refine plan_ [(16, 52)] ?_
            refine planP_ (v := ?_) (a' := ?_) rfl rfl (any_of HT_.out (by kernel_rfl)) (fun _ _ _ h => h) (Or.inl ⟨by rfl, ?_⟩) ?_ ?_; rotate_left; (intro w'; go_simp; with_reducible rfl); rotate_left; (simp only [Act.put, List.setIfInBounds_toArray, List.set_cons_zero, List.set_cons_succ, i64_w, i32_w]; rfl)
            refine planEnd_ ?_
            refine last_ (i := 17) (N := none) #[true, true, true, true, true, true, true, true, true, true, true, true, true, true, true, true, true, true] rfl rfl (one_of HT_.out (by kernel_rfl)) (by decide) (fun K hK => ?_)
            refine skip_ (w1 := ?_) (by rfl) rfl ?_ ?_
            rotate_left
            ·go_simp
             rfl
            refine hK.out _ _ ?_
            clear hK; clear K
            refine done_ (done_of HT_.out (by kernel_rfl)) ?_
            try go_wp2
            go_roundg k2
            case measure => have := HK1.out; have := HK2.out; omega
            case rel => exact ⟨(y142), (ji9), (by first | rfl | (simp; done) | (simp only [← hji9] <;> (first | rfl | simp)) | (simp [*]; done)), H', ⟨by have := HK1.out; have := HK2.out; omega⟩, ⟨mR HQ21.out⟩, ⟨by repeat (first | (with_reducible first | exact HK.out | apply Kept.alloc | apply Kept.drewN | apply Kept.drew | refine Kept.setCell ?_ HMgo14.out _ | refine Kept.setCell ?_ HMgo14.out _ | refine Kept.setCell ?_ HMgo14.out _ | refine Kept.setCell ?_ HMgo14.out _) | exact HK.out)⟩, ⟨mBs HB.out⟩⟩
           ·rw [if_neg c13] at H
            have c13b0 : decide (t138 < 0) = false := decide_eq_false c13
            clear c13
            have H' := Aside0.mk H
            clear H
            try go_wp2
            have n0_ := Aside0.mk (Kd.R_drew HO_0.out)
            have n1_ := Aside0.mk (Kept.drew HK.out)
            have n2_ := Aside0.mk (below_drew1 HB.out)
            clear HO_0; clear HK; clear HB
            have HO_0 := n0_
            have HK := n1_
            have HB := n2_
            clear n0_; clear n1_; clear n2_
            obtain ⟨Ao23, co23, eo23⟩ := Kd.R_slice HO_0.out
            (first | subst eo23 | (injection eo23 with f1_ f2_ f3_; have f4_ := f1_.symm; have f5_ := f3_.symm; clear f1_ f2_ f3_; subst f4_; subst f5_))
            have p136 : 0 ≤ (x9_2 : Int) := oda
            have q136 : x9_2 < (x0_2.length : Int) := oda
            obtain ⟨ad136, e136, hx136_0, hx136_1⟩ := at_T38 (Kd.R_reads' HO_0.out).2.2 x9_2 p136 q136
            cases e136
            replace p136 := eq_true p136
            replace q136 := eq_true q136
            have p137 : 0 ≤ ((ji9) : Int) := oda
            have q137 : (ji9) < (x0_2.length : Int) := oda
            obtain ⟨ad137, e137, hx137_0, hx137_1⟩ := at_T38 (Kd.R_reads' HO_0.out).2.2 (ji9) p137 q137
            obtain rfl : ad136 = ad137 := (by injection e137)
            replace p137 := eq_true p137
            replace q137 := eq_true q137
            refine start_ (n := 17) (S := fun w' => w'.cell? (ad136.add ((x9_2).toNat * 2)) = some (.int .i64 ((rd_T38 x0_2 x9_2).f0)) ∧ w'.cell? ⟨(ad136.add ((x9_2).toNat * 2)).block, (ad136.add ((x9_2).toNat * 2)).off + 1, none⟩ = some (.int .i64 ((rd_T38 x0_2 x9_2).f1)) ∧ w'.cell? (ad136.add (((ji9)).toNat * 2)) = some (.int .i64 ((rd_T38 x0_2 (ji9)).f0)) ∧ w'.cell? ⟨(ad136.add (((ji9)).toNat * 2)).block, (ad136.add (((ji9)).toNat * 2)).off + 1, none⟩ = some (.int .i64 ((rd_T38 x0_2 (ji9)).f1))) (ds := []) #[false, false, false, false, false, false, false, false, false, false, false, false, false, false, false, false, false] (by kernel_rfl) rfl rfl ⟨hx136_0, hx136_1, hx137_0, hx137_1⟩ (fun hHeld => ?_); refine with_tabW slices_insertionSortCmpFunc_Busy__profile_New_1.tab4 slices_insertionSortCmpFunc_Busy__profile_New_1.bits4 (fun HT_ HW_ => ?_)
            generalize wr.drew = w22 at HO_0 HK HB hx136_0 hx136_1 hx137_0 hx137_1 hHeld ⊢
            refine plan_ [(0, 18), (1, 19), (2, 20), (3, 21), (4, 22), (5, 23), (6, 24), (7, 25), (9, 27), (10, 28), (11, 29), (12, 30)] ?_
            iterate 12 (refine planP_ (v := ?_) (a' := ?_) rfl rfl (any_of HT_.out (by kernel_rfl)) (fun _ _ _ h => h) (Or.inl ⟨by rfl, ?_⟩) ?_ ?_; rotate_left; (intro w'; go_simp; with_reducible rfl); rotate_left; (simp only [Act.put, List.setIfInBounds_toArray, List.set_cons_zero, List.set_cons_succ, i64_w, i32_w]; rfl))
            refine planEnd_ ?_
            refine plan_ [(8, 26), (13, 31)] ?_
            iterate 2 (refine planT_ (v := ?_) (a' := ?_) rfl rfl (take_ofW HT_.out HW_.out (by kernel_rfl)) (fun _ _ _ h => h) (Or.inl ⟨by rfl, ?_⟩) hHeld ?_ ?_; rotate_left; (rintro w' ⟨s0, s1, s2, s3⟩; go_simp; with_reducible rfl); rotate_left; (simp only [Act.put, List.setIfInBounds_toArray, List.set_cons_zero, List.set_cons_succ, i64_w, i32_w]; rfl))
            refine planEnd_ ?_
            refine one_ (i := 14) (N := some 32) #[true, true, true, true, true, true, true, true, true, true, true, true, true, true, true, false, false] rfl rfl (one_of HT_.out (by kernel_rfl)) (by decide) (fun K hK => ?_)
            refine goesV_ Try.func41 (by kernel_rfl) rfl #[.agg #[.int .i64 ((rd_T38 x0_2 x9_2).f0), .int .i64 ((rd_T38 x0_2 x9_2).f1)], .agg #[.int .i64 ((rd_T38 x0_2 (ji9)).f0), .int .i64 ((rd_T38 x0_2 (ji9)).f1)]] (by rfl) rfl rfl (by (try simp only [List.map_toArray, List.map_cons, List.map_nil]); first | done | (simp only [hji9]; rfl) | rfl | (simp only [List.length_drop, List.length_take]; rfl)) rfl ?_
            with_reducible refine (profile_New_1.calls ((rd_T38 x0_2 x9_2).f0) ((rd_T38 x0_2 x9_2).f1) ((rd_T38 x0_2 (ji9)).f0) ((rd_T38 x0_2 (ji9)).f1) t138 _ A12.out).mono ?_
            rintro e w24 ⟨rfl, hb⟩
            have HS0_ := (hb.cell (World.block_lt_of_cell? _ _ (hHeld.1))).trans (hHeld.1)
            have HS1_ := (hb.cell (World.block_lt_of_cell? _ _ (hHeld.2.1))).trans (hHeld.2.1)
            have HS2_ := (hb.cell (World.block_lt_of_cell? _ _ (hHeld.2.2.1))).trans (hHeld.2.2.1)
            have HS3_ := (hb.cell (World.block_lt_of_cell? _ _ (hHeld.2.2.2))).trans (hHeld.2.2.2)
            refine ⟨_, rfl, ?_⟩
            have n0_ := Aside0.mk (Kd.R_below (mR HO_0.out) hb)
            have n1_ := Aside0.mk (Kept.below (S := (fun k_ => P0_ k_)) (mK HK.out) hb)
            have n2_ := Aside0.mk (below_step (mB HB.out) hb)
            clear HO_0; clear HK; clear HB
            have HO_0 := n0_
            have HK := n1_
            have HB := n2_
            clear n0_; clear n1_; clear n2_
            (try clear hb); (try clear hb2); (try clear hk); (try clear hi)
            refine hK.out _ _ ⟨HS0_, HS1_, HS2_, HS3_⟩ (fun hHeld => ?_)
            clear hK; clear K
            refine norm_ (a' := ?_) ?_ ?_
            rotate_left
            ·show Act.put _ (some 32) _ = _
             simp only [Act.put, List.setIfInBounds_toArray, List.set_cons_zero, List.set_cons_succ, i64_w, i32_w]
             rfl
            refine plan_ [(15, 33), (16, 34)] ?_
            iterate 2 (refine planP_ (v := ?_) (a' := ?_) rfl rfl (any_of HT_.out (by kernel_rfl)) (fun _ _ _ h => h) (Or.inl ⟨by rfl, ?_⟩) ?_ ?_; rotate_left; (intro w'; go_simp; with_reducible rfl); rotate_left; (simp only [Act.put, List.setIfInBounds_toArray, List.set_cons_zero, List.set_cons_succ, i64_w, i32_w]; rfl))
            refine planEnd_ ?_
            refine done_ (done_of HT_.out (by kernel_rfl)) ?_
            try go_wp2
            go_roundg k2
            case measure => have := HK1.out; have := HK2.out; omega
            case rel => exact ⟨(x0_2), (wrap64 (x8_1 + 1)), ez, H', ⟨by have := HK1.out; have := HK2.out; omega⟩, ⟨mR HO_0.out⟩, ⟨mK HK.out⟩, ⟨mB HB.out⟩⟩
          ·rw [if_neg c11] at H
           exact absurd H (by simp)
         ·rw [if_neg c10] at H
          exact absurd H (by simp)
        ·rw [if_neg c8] at H
         exact absurd H (by simp)
       ·rw [if_neg c7] at H
        exact absurd H (by simp)
      ·rw [if_neg c6] at H
       have c6b0 : decide (a1 < x9_2) = false := decide_eq_false c6
       clear c6
       have H' := Aside0.mk H
       clear H
       try go_wp2
       have n0_ := Aside0.mk (Kd.R_drew HO_0.out)
       have n1_ := Aside0.mk (Kept.drew HK.out)
       have n2_ := Aside0.mk (below_drew1 HB.out)
       clear HO_0; clear HK; clear HB
       have HO_0 := n0_
       have HK := n1_
       have HB := n2_
       clear n0_; clear n1_; clear n2_
       refine start_ (n := 17) (S := fun w' => True) (ds := []) #[false, false, false, false, false, false, false, false, false, false, false, false, false, false, false, false, false] (by kernel_rfl) rfl rfl trivial (fun hHeld => ?_); refine with_tabW slices_insertionSortCmpFunc_Busy__profile_New_1.tab4 slices_insertionSortCmpFunc_Busy__profile_New_1.bits4 (fun HT_ HW_ => ?_)
       generalize wr.drew = w25 at HO_0 HK HB hHeld ⊢
       refine plan_ [(0, 18), (1, 19), (2, 20), (3, 21)] ?_
       iterate 4 (refine planP_ (v := ?_) (a' := ?_) rfl rfl (any_of HT_.out (by kernel_rfl)) (fun _ _ _ h => h) (Or.inl ⟨by rfl, ?_⟩) ?_ ?_; rotate_left; (intro w'; go_simp; with_reducible rfl); rotate_left; (simp only [Act.put, List.setIfInBounds_toArray, List.set_cons_zero, List.set_cons_succ, i64_w, i32_w]; rfl))
       refine planEnd_ ?_
       refine plan_ [(4, 22), (5, 23), (6, 24), (7, 25), (8, 26), (9, 27), (10, 28), (11, 29), (12, 30), (13, 31), (14, 32), (15, 33)] ?_
       iterate 12 (refine planP_ (v := undef) (a' := ?_) rfl rfl (any_of HT_.out (by kernel_rfl)) (fun _ _ _ h => h) (Or.inr ⟨by rfl, rfl⟩) ?_ ?_; rotate_left; (simp only [Act.put, List.setIfInBounds_toArray, List.set_cons_zero, List.set_cons_succ, i64_w, i32_w]; rfl))
       refine planEnd_ ?_
       refine plan_ [(16, 34)] ?_
       refine planP_ (v := ?_) (a' := ?_) rfl rfl (any_of HT_.out (by kernel_rfl)) (fun _ _ _ h => h) (Or.inl ⟨by rfl, ?_⟩) ?_ ?_; rotate_left; (intro w'; go_simp; with_reducible rfl); rotate_left; (simp only [Act.put, List.setIfInBounds_toArray, List.set_cons_zero, List.set_cons_succ, i64_w, i32_w]; rfl)
       refine planEnd_ ?_
       refine done_ (done_of HT_.out (by kernel_rfl)) ?_
       try go_wp2
       go_roundg k2
       case measure => have := HK1.out; have := HK2.out; omega
       case rel => exact ⟨(x0_2), (wrap64 (x8_1 + 1)), ez, H', ⟨by have := HK1.out; have := HK2.out; omega⟩, ⟨mR HO_0.out⟩, ⟨mK HK.out⟩, ⟨mB HB.out⟩⟩
   ·rw [if_neg c5] at H
    have c5b0 : decide (x8_1 < a2) = false := decide_eq_false c5
    clear c5
    obtain rfl := Option.some.inj H
    go_wp2
    first | go_end0 | ((try simp only [Exit.inBlock, Exit.then]); refine bodyPost_ret (results_none rfl _ _ _) rfl ?_)
    exact ⟨by first | rfl | (simp [errW_none, errW_some] <;> rfl) | (simp [*, errW_none, errW_some] <;> rfl), mR HO_0.out, by repeat (first | (with_reducible first | exact HB.out | apply below_alloc | apply pw_below_drewN | apply below_drew1) | exact HB.out), by repeat (first | (with_reducible first | exact HK.out | apply Kept.alloc | apply Kept.drewN | apply Kept.drew) | exact HK.out)⟩

end Go.Proofs.Ytedpoahndddgfaa.PAll
end
section
namespace Go.Proofs.Ytedpoahndddgfaa.PAll
open Go.RowKit Go.Proofs.YtedpoahndddgfaaW.PrintWords Go.Proofs.YtedpoahndddgfaaW.PrintLast Go.Proofs.YtedpoahndddgfaaW.PrintMore
attribute [local go_sem] max2_int min2_int max_two min_two max_three min_three max_four min_four   -- for this text's walks alone
set_option linter.unusedVariables false
set_option linter.unusedSimpArgs false

/-! ### slices_swapRangeCmpFunc_Busy__profile_New_1: function 67 -/
def slices_swapRangeCmpFunc_Busy__profile_New_1.l0 : Nat → List (S38) → Int → Int → Int → Int → Option ((List (S38)))
 | 0, _, _, _, _, _ => none
 | k + 1, x0, x1, x2, x3, x10 => if x10 < x3 then (if 0 ≤ (wrap64 (x2 + x10)) then (if (wrap64 (x2 + x10)) < (x0.length : Int) then (if 0 ≤ (wrap64 (x1 + x10)) then (if (wrap64 (x1 + x10)) < (x0.length : Int) then (slices_swapRangeCmpFunc_Busy__profile_New_1.l0 k ((x0.set ((wrap64 (x1 + x10)) : Int).toNat (⟨(rd_T38 x0 (wrap64 (x2 + x10))).f0, (rd_T38 x0 (wrap64 (x2 + x10))).f1⟩ : S38)).set ((wrap64 (x2 + x10)) : Int).toNat (⟨(rd_T38 x0 (wrap64 (x1 + x10))).f0, (rd_T38 x0 (wrap64 (x1 + x10))).f1⟩ : S38)) x1 x2 x3 (wrap64 (x10 + 1))) else (none)) else (none)) else (none)) else (none)) else (some x0)
def slices_swapRangeCmpFunc_Busy__profile_New_1.f (k : Nat) (l0 : List (S38)) (a1 : Int) (a2 : Int) (a3 : Int)  : Option ((List (S38))) := slices_swapRangeCmpFunc_Busy__profile_New_1.l0 k l0 a1 a2 a3 0
theorem slices_swapRangeCmpFunc_Busy__profile_New_1.mono_l : ∀ k, (∀ y0 y1 y2 y3 y4, LeO (slices_swapRangeCmpFunc_Busy__profile_New_1.l0 k y0 y1 y2 y3 y4) (slices_swapRangeCmpFunc_Busy__profile_New_1.l0 (k + 1) y0 y1 y2 y3 y4))
 | 0 => fun _ _ _ _ _ r h => by simp [slices_swapRangeCmpFunc_Busy__profile_New_1.l0] at h
 | k + 1 => by
  have ih0 := slices_swapRangeCmpFunc_Busy__profile_New_1.mono_l k
  ·intro y0 y1 y2 y3 y4
   unfold slices_swapRangeCmpFunc_Busy__profile_New_1.l0
   repeat' first
   | (with_reducible exact ih0 _ _ _ _ _)
   | (with_reducible exact LeO.refl _)
   | (with_reducible exact LeO.none _)
   | (with_reducible refine LeO.ite ?_ ?_)
   | (with_reducible refine LeO.bind ?_ (fun _ => ?_))
   | exact ih0 _ _ _ _ _
   | exact LeO.none _
   | refine LeO.ite ?_ ?_
   | refine LeO.bind ?_ (fun _ => ?_)
theorem slices_swapRangeCmpFunc_Busy__profile_New_1.mono : ∀ a0 a1 a2 a3 k, LeO (slices_swapRangeCmpFunc_Busy__profile_New_1.f k a0 a1 a2 a3) (slices_swapRangeCmpFunc_Busy__profile_New_1.f (k + 1) a0 a1 a2 a3) := by
 intro a0 a1 a2 a3 k
 have ih0 := slices_swapRangeCmpFunc_Busy__profile_New_1.mono_l k
 unfold slices_swapRangeCmpFunc_Busy__profile_New_1.f
 repeat' first
   | (with_reducible exact ih0 _ _ _ _ _)
   | (with_reducible exact LeO.refl _)
   | (with_reducible exact LeO.none _)
   | (with_reducible refine LeO.ite ?_ ?_)
   | (with_reducible refine LeO.bind ?_ (fun _ => ?_))
   | exact ih0 _ _ _ _ _
   | exact LeO.none _
   | refine LeO.ite ?_ ?_
   | refine LeO.bind ?_ (fun _ => ?_)
def slices_swapRangeCmpFunc_Busy__profile_New_1.T3 : Bool × List (List Nat × List Nat) := (true, [([], []), ([], []), ([], []), ([1, 2], [1, 2]), ([], []), ([], []), ([], []), ([5, 6], [5, 6]), ([], []), ([], []), ([], []), ([9, 10], [9, 10]), ([8, 11], [8, 11]), ([12], [12]), ([], []), ([], []), ([], []), ([15, 16], [15, 16]), ([14, 17], [14, 17]), ([18], [18]), ([0, 3, 0, 1, 2, 3, 8, 9, 10, 11, 12, 13, 19], [0, 3]), ([20, 13, 0, 1, 2, 3, 8, 9, 10, 11, 12, 13, 19], [13, 20]), ([4, 7, 0, 1, 2, 3, 4, 5, 6, 7, 8, 9, 10, 11, 12, 13, 14, 15, 16, 17, 18, 19, 20, 21], [4, 7]), ([22, 19, 21, 0, 1, 2, 3, 4, 5, 6, 7, 8, 9, 10, 11, 12, 13, 14, 15, 16, 17, 18, 19, 20, 21], [19, 22])])
def slices_swapRangeCmpFunc_Busy__profile_New_1.B3 : List Nat := [0, 0, 0, 6, 0, 0, 0, 96, 0, 0, 0, 1536, 3840, 7936, 0, 0, 0, 98304, 245760, 507904, 1048335, 2096911, 4194303, 8388607]
theorem slices_swapRangeCmpFunc_Busy__profile_New_1.tab3 : rtab .any (opsOf Try.f67 3) = slices_swapRangeCmpFunc_Busy__profile_New_1.T3 := by kernel_rfl
theorem slices_swapRangeCmpFunc_Busy__profile_New_1.bits3 : waitsOk slices_swapRangeCmpFunc_Busy__profile_New_1.T3.2 slices_swapRangeCmpFunc_Busy__profile_New_1.B3 = true := by kernel_rfl
set_option maxHeartbeats 8000000 in
set_option maxRecDepth 100000 in
theorem slices_swapRangeCmpFunc_Busy__profile_New_1.calls (k : Nat) (P0_ : Nat → Prop) (u9000_ : Value) (l0 : List (S38)) (a1 : Int) (a2 : Int) (a3 : Int)  (r : List (S38)) (w0 w : World) (hB : Below w0.heap.size w0 w) (ho0 : Kd.R k38 38 w w0.heap.size P0_ u9000_ l0) (h : slices_swapRangeCmpFunc_Busy__profile_New_1.f k l0 a1 a2 a3 = some r) :
  Calls Try.prog 67 #[u9000_, .int .i64 a1, .int .i64 a2, .int .i64 a3, .func (.func 41) #[] #[]] w fun e w' => e = .returned (.tuple #[]) ∧ Kd.R k38 38 w' w0.heap.size (fun k_ => (P0_ k_ ∨ w.heap.size ≤ k_)) u9000_ r ∧ Below w0.heap.size w0 w' ∧ Kept w w' (fun k_ => P0_ k_) := by
 have hu38 := Try.underlying38
 have HO0 := Aside0.mk (show Kd.R k38 38 w w0.heap.size (fun k_ => (P0_ k_ ∨ w.heap.size ≤ k_)) u9000_ l0 from Kd.R_mono ho0 (fun k_ hk => (.inl hk)))
 have HK := Aside0.mk (Kept.refl w (fun k_ => P0_ k_))
 have HW0 := Aside0.mk hB.size
 have HB := Aside0.mk hB
 clear hB
 have H : (slices_swapRangeCmpFunc_Busy__profile_New_1.l0 k l0 a1 a2 a3 0) = some r := h
 clear h
 have H' := Aside0.mk H
 clear H
 go_enter Try.func67, Try.ntmps67
 go_wp2
 go_loopg [10] k (fun kq v10 w' => ∃ (x0_1 : List (S38)) (x10_1 : Int), v10 = .int .i64 x10_1 ∧ Aside0 (slices_swapRangeCmpFunc_Busy__profile_New_1.l0 kq x0_1 a1 a2 a3 x10_1 = some r) ∧ Aside0 (kq ≤ k) ∧ Aside0 (Kd.R k38 38 w' w0.heap.size (fun k_ => (P0_ k_ ∨ w.heap.size ≤ k_)) u9000_ x0_1) ∧ Aside0 (Kept w w' (fun k_ => P0_ k_)) ∧ Aside0 (Below w0.heap.size w0 w'))
 case atStart => exact ⟨(l0), (0), ez, H', ⟨Nat.le_refl _⟩, ⟨mR HO0.out⟩, ⟨mK HK.out⟩, ⟨mB HB.out⟩⟩
 case round =>
  clear H'
  (try clear p2)
  obtain ⟨x0_1, x10_1, rfl, HA, HK1, HO_0, HK, HB⟩ := hrel
  cases gk with
  | zero => exact absurd HA.out (by simp [slices_swapRangeCmpFunc_Busy__profile_New_1.l0])
  | succ k1 =>
   have H := HA.out
   clear HA
   simp only [slices_swapRangeCmpFunc_Busy__profile_New_1.l0] at H
   by_cases c6 : x10_1 < a3
   ·rw [if_pos c6] at H
    have c6b0 : decide (x10_1 < a3) = true := decide_eq_true c6
    clear c6
    obtain ⟨ji7, hji7⟩ : ∃ j_ : Int, (wrap64 (a2 + x10_1)) = j_ := ⟨_, rfl⟩
    replace H : (if 0 ≤ (ji7) then (if (ji7) < (x0_1.length : Int) then (if 0 ≤ (wrap64 (a1 + x10_1)) then (if (wrap64 (a1 + x10_1)) < (x0_1.length : Int) then (slices_swapRangeCmpFunc_Busy__profile_New_1.l0 k1 ((x0_1.set ((wrap64 (a1 + x10_1)) : Int).toNat (⟨(rd_T38 x0_1 (ji7)).f0, (rd_T38 x0_1 (ji7)).f1⟩ : S38)).set ((ji7) : Int).toNat (⟨(rd_T38 x0_1 (wrap64 (a1 + x10_1))).f0, (rd_T38 x0_1 (wrap64 (a1 + x10_1))).f1⟩ : S38)) a1 a2 a3 (wrap64 (x10_1 + 1))) else (none)) else (none)) else (none)) else (none)) = some r := by first | (rw [hji7] at H; exact H) | (simp only [hji7] at H ⊢; exact H)
    have hji7w : (IntKind.i64.wrap (a2 + x10_1)) = ji7 := (i64_w _).trans hji7
    by_cases c8 : 0 ≤ (ji7)
    ·rw [if_pos c8] at H
     have c8b0 : decide (0 ≤ (ji7)) = true := decide_eq_true c8
     clear c8
     by_cases c9 : (ji7) < (x0_1.length : Int)
     ·rw [if_pos c9] at H
      have c9b0 : decide ((ji7) < (x0_1.length : Int)) = true := decide_eq_true c9
      clear c9
      obtain ⟨ji10, hji10⟩ : ∃ j_ : Int, (wrap64 (a1 + x10_1)) = j_ := ⟨_, rfl⟩
      replace H : (if 0 ≤ (ji10) then (if (ji10) < (x0_1.length : Int) then (slices_swapRangeCmpFunc_Busy__profile_New_1.l0 k1 ((x0_1.set ((ji10) : Int).toNat (⟨(rd_T38 x0_1 (ji7)).f0, (rd_T38 x0_1 (ji7)).f1⟩ : S38)).set ((ji7) : Int).toNat (⟨(rd_T38 x0_1 (ji10)).f0, (rd_T38 x0_1 (ji10)).f1⟩ : S38)) a1 a2 a3 (wrap64 (x10_1 + 1))) else (none)) else (none)) = some r := by first | (rw [hji10] at H; exact H) | (simp only [hji10] at H ⊢; exact H)
      have hji10w : (IntKind.i64.wrap (a1 + x10_1)) = ji10 := (i64_w _).trans hji10
      (try simp only [hji10] at hji7)
      (try simp only [hji10w] at hji7w)
      by_cases c11 : 0 ≤ (ji10)
      ·rw [if_pos c11] at H
       have c11b0 : decide (0 ≤ (ji10)) = true := decide_eq_true c11
       clear c11
       by_cases c12 : (ji10) < (x0_1.length : Int)
       ·rw [if_pos c12] at H
        have c12b0 : decide ((ji10) < (x0_1.length : Int)) = true := decide_eq_true c12
        clear c12
        obtain ⟨y145, hy145⟩ : ∃ y_ : List (S38), y_ = (x0_1.set ((ji10) : Int).toNat (⟨(rd_T38 x0_1 (ji7)).f0, (rd_T38 x0_1 (ji7)).f1⟩ : S38)) := ⟨_, rfl⟩
        replace H : (slices_swapRangeCmpFunc_Busy__profile_New_1.l0 k1 (y145.set ((ji7) : Int).toNat (⟨(rd_T38 x0_1 (ji10)).f0, (rd_T38 x0_1 (ji10)).f1⟩ : S38)) a1 a2 a3 (wrap64 (x10_1 + 1))) = some r := mH hy145 H
        have Ny145 := Aside0.mk hy145
        clear hy145
        obtain ⟨y146, hy146⟩ : ∃ y_ : List (S38), y_ = (y145.set ((ji7) : Int).toNat (⟨(rd_T38 x0_1 (ji10)).f0, (rd_T38 x0_1 (ji10)).f1⟩ : S38)) := ⟨_, rfl⟩
        replace H : (slices_swapRangeCmpFunc_Busy__profile_New_1.l0 k1 y146 a1 a2 a3 (wrap64 (x10_1 + 1))) = some r := mH hy146 H
        have Ny146 := Aside0.mk hy146
        clear hy146
        have H' := Aside0.mk H
        clear H
        try go_wp2
        have n0_ := Aside0.mk (Kd.R_drew HO_0.out)
        have n1_ := Aside0.mk (Kept.drew HK.out)
        have n2_ := Aside0.mk (below_drew1 HB.out)
        clear HO_0; clear HK; clear HB
        have HO_0 := n0_
        have HK := n1_
        have HB := n2_
        clear n0_; clear n1_; clear n2_
        obtain ⟨Ao16, co16, eo16⟩ := Kd.R_slice HO_0.out
        (first | subst eo16 | (injection eo16 with f1_ f2_ f3_; have f4_ := f1_.symm; have f5_ := f3_.symm; clear f1_ f2_ f3_; subst f4_; subst f5_))
        have p143 : 0 ≤ ((ji7) : Int) := oda
        have q143 : (ji7) < (x0_1.length : Int) := oda
        obtain ⟨ad143, e143, hx143_0, hx143_1⟩ := at_T38 (Kd.R_reads' HO_0.out).2.2 (ji7) p143 q143
        cases e143
        replace p143 := eq_true p143
        replace q143 := eq_true q143
        have p144 : 0 ≤ ((ji10) : Int) := oda
        have q144 : (ji10) < (x0_1.length : Int) := oda
        obtain ⟨ad144, e144, hx144_0, hx144_1⟩ := at_T38 (Kd.R_reads' HO_0.out).2.2 (ji10) p144 q144
        obtain rfl : ad143 = ad144 := (by injection e144)
        replace p144 := eq_true p144
        replace q144 := eq_true q144
        have p13 : 0 ≤ ((ji10) : Int) := oda
        have q13 : ((ji10) : Int) < ((x0_1.length : Int) : Int) := oda
        obtain ⟨go13, co13, eo13, gb13, gl13, cl13, HG13⟩ := Kd.R_form HO_0.out (by omega)
        (first | cases eo13 | (injection eo13 with ea_ en_ ec_; (first | subst ea_ | (injection ea_ with ea_; subst ea_)); subst ec_; clear en_))
        have GB13 := Aside0.mk gb13
        have GG13 := Aside0.mk HG13
        clear gb13; clear gl13; clear HG13
        have HMgo13 := Aside0.mk (show (P0_ go13 ∨ w.heap.size ≤ go13) from (HO_0.out.1 _ rfl))
        (first | simp only [add_plain] at hx143_0 | skip)
        (first | simp only [add_plain] at hx143_1 | skip)
        (first | simp only [add_plain] at hx144_0 | skip)
        (first | simp only [add_plain] at hx144_1 | skip)
        obtain ⟨ce13, hcl13, hM13, hcc13, hfr13⟩ := Kd.R_elem HO_0.out z38 ((ji10) : Int) p13 q13
        obtain rfl := k38_openM hM13
        have hx13_0 : World.cell? _ ⟨go13, ((ji10) : Int).toNat * 2, none⟩ = some (.int .i64 ((rd_T38 x0_1 (ji10)).f0)) := hcc13 0 _ rfl
        have hx13_1 : World.cell? _ ⟨go13, ((ji10) : Int).toNat * 2 + 1, none⟩ = some (.int .i64 ((rd_T38 x0_1 (ji10)).f1)) := hcc13 1 _ rfl
        have hf13_0 : World.frozen? _ ⟨go13, ((ji10) : Int).toNat * 2, none⟩ = false := hfr13 0
        have hf13_1 : World.frozen? _ ⟨go13, ((ji10) : Int).toNat * 2 + 1, none⟩ = false := hfr13 1
        clear hcl13; clear hcc13; clear hfr13; clear hM13
        replace p13 := eq_true p13
        replace q13 := eq_true q13
        obtain ⟨ce17, hcl17, hM17, hcc17, hfr17⟩ := Kd.R_elem HO_0.out z38 ((ji10) : Int) (oda) (by have h_ : ((ji10) : Int) < ((x0_1.length : Int) : Int) := oda; first | exact h_ | (have e_ := (Kd.R_reads' HO_0.out).1; omega) | simpa using h_)
        obtain rfl := k38_openM hM17
        have HP17 := (Kd.R_seg HO_0.out ((ji10) : Int) (oda) (by have h_ : ((ji10) : Int) < ((x0_1.length : Int) : Int) := oda; first | exact h_ | (have e_ := (Kd.R_reads' HO_0.out).1; omega) | simpa using h_) (seg := [.int .i64 ((rd_T38 x0_1 (ji7)).f0), .int .i64 ((rd_T38 x0_1 (ji7)).f1)]) (j := 0) hcl17 hcc17 (show 2 ≤ 2 from by decide) (x' := (⟨(rd_T38 x0_1 (ji7)).f0, (rd_T38 x0_1 (ji7)).f1⟩ : S38)) (k38_mkM _ _ _ (⟨(rd_T38 x0_1 (ji7)).f0, (rd_T38 x0_1 (ji7)).f1⟩ : S38) ) (fun _ hk => hk)).1
        rw [← Ny145.out] at HP17
        have HQ17 := Aside0.mk HP17
        clear hcl17; clear hcc17; clear hfr17; clear hM17; clear HP17
        have p14 : 0 ≤ ((ji7) : Int) := oda
        have q14 : ((ji7) : Int) < ((x0_1.length : Int) : Int) := oda
        obtain ⟨ce14, hcl14, hM14, hcc14, hfr14⟩ := Kd.R_elem HQ17.out z38 ((ji7) : Int) p14 q14
        obtain rfl := k38_openM hM14
        have hx14_0 : World.cell? _ ⟨go13, ((ji7) : Int).toNat * 2, none⟩ = some (.int .i64 ((rd_T38 y145 (ji7)).f0)) := hcc14 0 _ rfl
        have hx14_1 : World.cell? _ ⟨go13, ((ji7) : Int).toNat * 2 + 1, none⟩ = some (.int .i64 ((rd_T38 y145 (ji7)).f1)) := hcc14 1 _ rfl
        have hf14_0 : World.frozen? _ ⟨go13, ((ji7) : Int).toNat * 2, none⟩ = false := hfr14 0
        have hf14_1 : World.frozen? _ ⟨go13, ((ji7) : Int).toNat * 2 + 1, none⟩ = false := hfr14 1
        clear hcl14; clear hcc14; clear hfr14; clear hM14
        replace p14 := eq_true p14
        replace q14 := eq_true q14
        obtain ⟨ce18, hcl18, hM18, hcc18, hfr18⟩ := Kd.R_elem HQ17.out z38 ((ji7) : Int) (oda) (by have h_ : ((ji7) : Int) < ((x0_1.length : Int) : Int) := oda; first | exact h_ | (have e_ := (Kd.R_reads' HO_0.out).1; omega) | simpa using h_)
        obtain rfl := k38_openM hM18
        have HP18 := (Kd.R_seg HQ17.out ((ji7) : Int) (oda) (by have h_ : ((ji7) : Int) < ((x0_1.length : Int) : Int) := oda; first | exact h_ | (have e_ := (Kd.R_reads' HO_0.out).1; omega) | simpa using h_) (seg := [.int .i64 ((rd_T38 x0_1 (ji10)).f0), .int .i64 ((rd_T38 x0_1 (ji10)).f1)]) (j := 0) hcl18 hcc18 (show 2 ≤ 2 from by decide) (x' := (⟨(rd_T38 x0_1 (ji10)).f0, (rd_T38 x0_1 (ji10)).f1⟩ : S38)) (k38_mkM _ _ _ (⟨(rd_T38 x0_1 (ji10)).f0, (rd_T38 x0_1 (ji10)).f1⟩ : S38) ) (fun _ hk => hk)).1
        rw [← Ny146.out] at HP18
        have HQ18 := Aside0.mk HP18
        clear hcl18; clear hcc18; clear hfr18; clear hM18; clear HP18
        refine start_ (n := 24) (S := fun w' => w'.cell? ⟨go13, (((ji7)).toNat * 2), none⟩ = some (.int .i64 ((rd_T38 x0_1 (ji7)).f0)) ∧ w'.cell? ⟨go13, (((ji7)).toNat * 2) + 1, none⟩ = some (.int .i64 ((rd_T38 x0_1 (ji7)).f1)) ∧ w'.cell? ⟨go13, (((ji10)).toNat * 2), none⟩ = some (.int .i64 ((rd_T38 x0_1 (ji10)).f0)) ∧ w'.cell? ⟨go13, (((ji10)).toNat * 2) + 1, none⟩ = some (.int .i64 ((rd_T38 x0_1 (ji10)).f1))) (ds := [21, 23]) #[false, false, false, false, false, false, false, false, false, false, false, false, false, false, false, false, false, false, false, false, false, false, false, false] (by kernel_rfl) rfl rfl ⟨hx143_0, hx143_1, hx144_0, hx144_1⟩ (fun hHeld => ?_); refine with_tabW slices_swapRangeCmpFunc_Busy__profile_New_1.tab3 slices_swapRangeCmpFunc_Busy__profile_New_1.bits3 (fun HT_ HW_ => ?_)
        generalize wr.drew = w15 at HO_0 HK HB GG13 HQ17 HQ18 hf13_0 hf13_1 hf14_0 hf14_1 hx13_0 hx13_1 hx143_0 hx143_1 hx144_0 hx144_1 hx14_0 hx14_1 hHeld ⊢
        (try simp [go_sem, World.setCells, show (k38).sz = 2 from rfl] at hf14_0)
        (try simp [go_sem, World.setCells, show (k38).sz = 2 from rfl] at hf14_1)
        (try simp [go_sem, World.setCells, show (k38).sz = 2 from rfl] at hx14_0)
        (try simp [go_sem, World.setCells, show (k38).sz = 2 from rfl] at hx14_1)
        refine plan_ [(0, 16), (1, 17), (2, 18), (3, 19), (4, 20), (5, 21), (6, 22), (7, 23), (8, 24), (9, 25), (10, 26), (11, 27), (12, 28), (14, 30), (15, 31), (16, 32), (17, 33), (18, 34)] ?_
        iterate 18 (refine planP_ (v := ?_) (a' := ?_) rfl rfl (any_of HT_.out (by kernel_rfl)) (fun _ _ _ h => h) (Or.inl ⟨by rfl, ?_⟩) ?_ ?_; rotate_left; (intro w'; go_simp; with_reducible rfl); rotate_left; (simp only [Act.put, List.setIfInBounds_toArray, List.set_cons_zero, List.set_cons_succ, i64_w, i32_w]; rfl))
        refine planEnd_ ?_
        refine plan_ [(13, 29), (19, 35)] ?_
        iterate 2 (refine planT_ (v := ?_) (a' := ?_) rfl rfl (take_ofW HT_.out HW_.out (by kernel_rfl)) (fun _ _ _ h => h) (Or.inl ⟨by rfl, ?_⟩) hHeld ?_ ?_; rotate_left; (rintro w' ⟨s0, s1, s2, s3⟩; go_simp; with_reducible rfl); rotate_left; (simp only [Act.put, List.setIfInBounds_toArray, List.set_cons_zero, List.set_cons_succ, i64_w, i32_w]; rfl))
        refine planEnd_ ?_
        refine plan_ [(20, 36)] ?_
        refine planP_ (v := ?_) (a' := ?_) rfl rfl (any_of HT_.out (by kernel_rfl)) (fun _ _ _ h => h) (Or.inl ⟨by rfl, ?_⟩) ?_ ?_; rotate_left; (intro w'; go_simp; with_reducible rfl); rotate_left; (simp only [Act.put, List.setIfInBounds_toArray, List.set_cons_zero, List.set_cons_succ, i64_w, i32_w]; rfl)
        refine planEnd_ ?_
        refine last_ (i := 21) (N := none) #[true, true, true, true, true, true, true, true, true, true, true, true, true, true, true, true, true, true, true, true, true, true, false, false] rfl rfl (one_of HT_.out (by kernel_rfl)) (by decide) (fun K hK => ?_)
        refine skip_ (w1 := ?_) (by rfl) rfl ?_ ?_
        rotate_left
        ·go_simp
         rfl
        refine hK.out _ _ ?_
        clear hK; clear K
        refine plan_ [(22, 37)] ?_
        refine planP_ (v := ?_) (a' := ?_) rfl rfl (any_of HT_.out (by kernel_rfl)) (fun _ _ _ h => h) (Or.inl ⟨by rfl, ?_⟩) ?_ ?_; rotate_left; (intro w'; go_simp; with_reducible rfl); rotate_left; (simp only [Act.put, List.setIfInBounds_toArray, List.set_cons_zero, List.set_cons_succ, i64_w, i32_w]; rfl)
        refine planEnd_ ?_
        refine last_ (i := 23) (N := none) #[true, true, true, true, true, true, true, true, true, true, true, true, true, true, true, true, true, true, true, true, true, true, true, true] rfl rfl (one_of HT_.out (by kernel_rfl)) (by decide) (fun K hK => ?_)
        refine skip_ (w1 := ?_) (by rfl) rfl ?_ ?_
        rotate_left
        ·go_simp
         rfl
        refine hK.out _ _ ?_
        clear hK; clear K
        refine done_ (done_of HT_.out (by kernel_rfl)) ?_
        try go_wp2
        go_roundg k1
        case measure => have := HK1.out; omega
        case rel => exact ⟨(y146), (wrap64 (x10_1 + 1)), ez, H', ⟨by have := HK1.out; omega⟩, ⟨mR HQ18.out⟩, ⟨by repeat (first | (with_reducible first | exact HK.out | apply Kept.alloc | apply Kept.drewN | apply Kept.drew | refine Kept.setCell ?_ HMgo13.out _ | refine Kept.setCell ?_ HMgo13.out _ | refine Kept.setCell ?_ HMgo13.out _ | refine Kept.setCell ?_ HMgo13.out _) | exact HK.out)⟩, ⟨mBs HB.out⟩⟩
       ·rw [if_neg c12] at H
        exact absurd H (by simp)
      ·rw [if_neg c11] at H
       exact absurd H (by simp)
     ·rw [if_neg c9] at H
      exact absurd H (by simp)
    ·rw [if_neg c8] at H
     exact absurd H (by simp)
   ·rw [if_neg c6] at H
    have c6b0 : decide (x10_1 < a3) = false := decide_eq_false c6
    clear c6
    obtain rfl := Option.some.inj H
    go_wp2
    first | go_end0 | ((try simp only [Exit.inBlock, Exit.then]); refine bodyPost_ret (results_none rfl _ _ _) rfl ?_)
    exact ⟨by first | rfl | (simp [errW_none, errW_some] <;> rfl) | (simp [*, errW_none, errW_some] <;> rfl), mR HO_0.out, by repeat (first | (with_reducible first | exact HB.out | apply below_alloc | apply pw_below_drewN | apply below_drew1) | exact HB.out), by repeat (first | (with_reducible first | exact HK.out | apply Kept.alloc | apply Kept.drewN | apply Kept.drew) | exact HK.out)⟩

end Go.Proofs.Ytedpoahndddgfaa.PAll
end
section
namespace Go.Proofs.Ytedpoahndddgfaa.PAll
open Go.RowKit Go.Proofs.YtedpoahndddgfaaW.PrintWords Go.Proofs.YtedpoahndddgfaaW.PrintLast Go.Proofs.YtedpoahndddgfaaW.PrintMore
attribute [local go_sem] max2_int min2_int max_two min_two max_three min_three max_four min_four   -- for this text's walks alone
set_option linter.unusedVariables false
set_option linter.unusedSimpArgs false

/-! ### slices_rotateCmpFunc_Busy__profile_New_1: function 65 -/
def slices_rotateCmpFunc_Busy__profile_New_1.l0 : Nat → List (S38) → Int → Int → Int → Option ((List (S38)))
 | 0, _, _, _, _ => none
 | k + 1, x0, x2, x10, x11 => if x10 = x11 then ((slices_swapRangeCmpFunc_Busy__profile_New_1.f k x0 (wrap64 (x2 - x10)) x2 x10).bind fun t147 => (some t147)) else (if x10 > x11 then ((slices_swapRangeCmpFunc_Busy__profile_New_1.f k x0 (wrap64 (x2 - x10)) x2 x11).bind fun t148 => (slices_rotateCmpFunc_Busy__profile_New_1.l0 k t148 x2 (wrap64 (x10 - x11)) x11)) else ((slices_swapRangeCmpFunc_Busy__profile_New_1.f k x0 (wrap64 (x2 - x10)) (wrap64 ((wrap64 (x2 + x11)) - x10)) x10).bind fun t149 => (slices_rotateCmpFunc_Busy__profile_New_1.l0 k t149 x2 x10 (wrap64 (x11 - x10)))))
def slices_rotateCmpFunc_Busy__profile_New_1.f (k : Nat) (l0 : List (S38)) (a1 : Int) (a2 : Int) (a3 : Int)  : Option ((List (S38))) := slices_rotateCmpFunc_Busy__profile_New_1.l0 k l0 a2 (wrap64 (a2 - a1)) (wrap64 (a3 - a2))
theorem slices_rotateCmpFunc_Busy__profile_New_1.mono_l : ∀ k, (∀ y0 y1 y2 y3, LeO (slices_rotateCmpFunc_Busy__profile_New_1.l0 k y0 y1 y2 y3) (slices_rotateCmpFunc_Busy__profile_New_1.l0 (k + 1) y0 y1 y2 y3))
 | 0 => fun _ _ _ _ r h => by simp [slices_rotateCmpFunc_Busy__profile_New_1.l0] at h
 | k + 1 => by
  have ih0 := slices_rotateCmpFunc_Busy__profile_New_1.mono_l k
  ·intro y0 y1 y2 y3
   unfold slices_rotateCmpFunc_Busy__profile_New_1.l0
   repeat' first
   | (with_reducible exact ih0 _ _ _ _)
   | (with_reducible exact slices_swapRangeCmpFunc_Busy__profile_New_1.mono _ _ _ _ _)
   | (with_reducible exact LeO.refl _)
   | (with_reducible exact LeO.none _)
   | (with_reducible refine LeO.ite ?_ ?_)
   | (with_reducible refine LeO.bind ?_ (fun _ => ?_))
   | exact ih0 _ _ _ _
   | exact slices_swapRangeCmpFunc_Busy__profile_New_1.mono _ _ _ _ _
   | exact LeO.none _
   | refine LeO.ite ?_ ?_
   | refine LeO.bind ?_ (fun _ => ?_)
theorem slices_rotateCmpFunc_Busy__profile_New_1.mono : ∀ a0 a1 a2 a3 k, LeO (slices_rotateCmpFunc_Busy__profile_New_1.f k a0 a1 a2 a3) (slices_rotateCmpFunc_Busy__profile_New_1.f (k + 1) a0 a1 a2 a3) := by
 intro a0 a1 a2 a3 k
 have ih0 := slices_rotateCmpFunc_Busy__profile_New_1.mono_l k
 unfold slices_rotateCmpFunc_Busy__profile_New_1.f
 repeat' first
   | (with_reducible exact ih0 _ _ _ _)
   | (with_reducible exact slices_swapRangeCmpFunc_Busy__profile_New_1.mono _ _ _ _ _)
   | (with_reducible exact LeO.refl _)
   | (with_reducible exact LeO.none _)
   | (with_reducible refine LeO.ite ?_ ?_)
   | (with_reducible refine LeO.bind ?_ (fun _ => ?_))
   | exact ih0 _ _ _ _
   | exact slices_swapRangeCmpFunc_Busy__profile_New_1.mono _ _ _ _ _
   | exact LeO.none _
   | refine LeO.ite ?_ ?_
   | refine LeO.bind ?_ (fun _ => ?_)
set_option maxHeartbeats 8000000 in
set_option maxRecDepth 100000 in
theorem slices_rotateCmpFunc_Busy__profile_New_1.calls (k : Nat) (P0_ : Nat → Prop) (u9000_ : Value) (l0 : List (S38)) (a1 : Int) (a2 : Int) (a3 : Int)  (r : List (S38)) (w0 w : World) (hB : Below w0.heap.size w0 w) (ho0 : Kd.R k38 38 w w0.heap.size P0_ u9000_ l0) (h : slices_rotateCmpFunc_Busy__profile_New_1.f k l0 a1 a2 a3 = some r) :
  Calls Try.prog 65 #[u9000_, .int .i64 a1, .int .i64 a2, .int .i64 a3, .func (.func 41) #[] #[]] w fun e w' => e = .returned (.tuple #[]) ∧ Kd.R k38 38 w' w0.heap.size (fun k_ => (P0_ k_ ∨ w.heap.size ≤ k_)) u9000_ r ∧ Below w0.heap.size w0 w' ∧ Kept w w' (fun k_ => P0_ k_) := by
 have HO0 := Aside0.mk (show Kd.R k38 38 w w0.heap.size (fun k_ => (P0_ k_ ∨ w.heap.size ≤ k_)) u9000_ l0 from Kd.R_mono ho0 (fun k_ hk => (.inl hk)))
 have HK := Aside0.mk (Kept.refl w (fun k_ => P0_ k_))
 have HW0 := Aside0.mk hB.size
 have HB := Aside0.mk hB
 clear hB
 have H : (slices_rotateCmpFunc_Busy__profile_New_1.l0 k l0 a2 (wrap64 (a2 - a1)) (wrap64 (a3 - a2))) = some r := h
 clear h
 have H' := Aside0.mk H
 clear H
 go_enter Try.func65, Try.ntmps65
 go_wp2
 go_loopg [10, 11] k (fun kq v10 v11 w' => ∃ (x0_1 : List (S38)) (x10_1 : Int) (x11_1 : Int), v10 = .int .i64 x10_1 ∧ v11 = .int .i64 x11_1 ∧ Aside0 (slices_rotateCmpFunc_Busy__profile_New_1.l0 kq x0_1 a2 x10_1 x11_1 = some r) ∧ Aside0 (kq ≤ k) ∧ Aside0 (Kd.R k38 38 w' w0.heap.size (fun k_ => (P0_ k_ ∨ w.heap.size ≤ k_)) u9000_ x0_1) ∧ Aside0 (Kept w w' (fun k_ => P0_ k_)) ∧ Aside0 (Below w0.heap.size w0 w'))
 case atStart => exact ⟨(l0), (wrap64 (a2 - a1)), (wrap64 (a3 - a2)), ez, ez, H', ⟨Nat.le_refl _⟩, ⟨mR HO0.out⟩, ⟨mK HK.out⟩, ⟨mB HB.out⟩⟩
 case round =>
  clear H'
  (try clear p2)
  obtain ⟨x0_1, x10_1, x11_1, rfl, rfl, HA, HK1, HO_0, HK, HB⟩ := hrel
  cases gk with
  | zero => exact absurd HA.out (by simp [slices_rotateCmpFunc_Busy__profile_New_1.l0])
  | succ k1 =>
   have H := HA.out
   clear HA
   simp only [slices_rotateCmpFunc_Busy__profile_New_1.l0] at H
   by_cases c6 : x10_1 = x11_1
   ·rw [if_pos c6] at H
    have c6b0 : (x10_1 == x11_1) = true := beq_iff_eq.mpr c6
    have c6b1 : (x10_1 != x11_1) = false := bne_eq_false_iff_eq.mpr c6
    clear c6
    replace H := Option.bind_eq_some_iff.mp H
    obtain ⟨t147, A70, H⟩ := H
    replace H : (some t147) = some r := H
    have A7 := Aside0.mk A70
    clear A70
    obtain rfl := Option.some.inj H
    obtain ⟨Ao8, co8, eo8⟩ := Kd.R_slice HO_0.out
    subst eo8
    go_wp2_with (first | ((with_reducible refine gate_callee (f := 67) rfl ?_); refine goesL_ (some 57) rfl rfl Try.func67 (by kernel_rfl) rfl #[.slice Ao8 x0_1.length co8, .int .i64 (wrap64 (a2 - x10_1)), .int .i64 a2, .int .i64 x10_1, .func (.func 41) #[] #[]] rfl mt ?_; (with_reducible refine (slices_swapRangeCmpFunc_Busy__profile_New_1.calls k1 (fun k_ => some k_ = (.slice Ao8 x0_1.length co8 : Value).ownBlock) (.slice Ao8 x0_1.length co8) x0_1 (wrap64 (a2 - x10_1)) a2 x10_1  t147 w0 _ ?side1 ?side2 A7.out).mono ?_); (case side1 => repeat (first | (with_reducible first | exact HB.out | apply below_alloc | apply pw_below_drewN | apply below_drew1) | exact HB.out)); (case side2 => exact Kd.R_tight rfl HO_0.out); rintro e w9 ⟨rfl, hy0, hb, hkp⟩; refine ⟨_, rfl, ?_⟩; have n0_ := Aside0.mk (Kd.R_reok rfl hy0 (fun k_ e_ => HO_0.out.1 k_ e_)); have n1_ := Aside0.mk (Kept.then_ (S := (fun k_ => P0_ k_)) (mK HK.out) hkp (fun k_ hs_ => (fun e_ => (HO_0.out.1 k_ e_.symm)) hs_)); have n2_ := Aside0.mk (hb); clear HO_0; clear HK; clear HB; have HO_0 := n0_; have HK := n1_; have HB := n2_; clear n0_ n1_ n2_; (try clear hb); (try clear hkp); (try clear hy0)))
    first | go_end0 | ((try simp only [Exit.inBlock, Exit.then]); refine bodyPost_ret (results_none rfl _ _ _) rfl ?_)
    exact ⟨by first | rfl | (simp [errW_none, errW_some] <;> rfl) | (simp [*, errW_none, errW_some] <;> rfl), mR HO_0.out, by repeat (first | (with_reducible first | exact HB.out | apply below_alloc | apply pw_below_drewN | apply below_drew1) | exact HB.out), by repeat (first | (with_reducible first | exact HK.out | apply Kept.alloc | apply Kept.drewN | apply Kept.drew) | exact HK.out)⟩
   ·rw [if_neg c6] at H
    have c6b0 : (x10_1 == x11_1) = false := beq_eq_false_iff_ne.mpr c6
    have c6b1 : (x10_1 != x11_1) = true := bne_iff_ne.mpr c6
    by_cases c10 : x10_1 > x11_1
    ·rw [if_pos c10] at H
     have c10b0 : decide (x11_1 < x10_1) = true := decide_eq_true c10
     clear c10
     replace H := Option.bind_eq_some_iff.mp H
     obtain ⟨t148, A110, H⟩ := H
     replace H : (slices_rotateCmpFunc_Busy__profile_New_1.l0 k1 t148 a2 (wrap64 (x10_1 - x11_1)) x11_1) = some r := H
     have A11 := Aside0.mk A110
     clear A110
     have H' := Aside0.mk H
     clear H
     obtain ⟨Ao12, co12, eo12⟩ := Kd.R_slice HO_0.out
     subst eo12
     go_wp2_with (first | ((with_reducible refine gate_callee (f := 67) rfl ?_); refine goesL_ (some 31) rfl rfl Try.func67 (by kernel_rfl) rfl #[.slice Ao12 x0_1.length co12, .int .i64 (wrap64 (a2 - x10_1)), .int .i64 a2, .int .i64 x11_1, .func (.func 41) #[] #[]] rfl mt ?_; (with_reducible refine (slices_swapRangeCmpFunc_Busy__profile_New_1.calls k1 (fun k_ => some k_ = (.slice Ao12 x0_1.length co12 : Value).ownBlock) (.slice Ao12 x0_1.length co12) x0_1 (wrap64 (a2 - x10_1)) a2 x11_1  t148 w0 _ ?side1 ?side2 A11.out).mono ?_); (case side1 => repeat (first | (with_reducible first | exact HB.out | apply below_alloc | apply pw_below_drewN | apply below_drew1) | exact HB.out)); (case side2 => exact Kd.R_tight rfl HO_0.out); rintro e w13 ⟨rfl, hy0, hb, hkp⟩; refine ⟨_, rfl, ?_⟩; have n0_ := Aside0.mk (Kd.R_reok rfl hy0 (fun k_ e_ => HO_0.out.1 k_ e_)); have n1_ := Aside0.mk (Kept.then_ (S := (fun k_ => P0_ k_)) (mK HK.out) hkp (fun k_ hs_ => (fun e_ => (HO_0.out.1 k_ e_.symm)) hs_)); have n2_ := Aside0.mk (hb); clear HO_0; clear HK; clear HB; have HO_0 := n0_; have HK := n1_; have HB := n2_; clear n0_ n1_ n2_; (try clear hb); (try clear hkp); (try clear hy0)))
     go_roundg k1
     case measure => have := HK1.out; omega
     case rel => exact ⟨(t148), (wrap64 (x10_1 - x11_1)), (x11_1), ez, ez, H', ⟨by have := HK1.out; omega⟩, ⟨mR HO_0.out⟩, ⟨mK HK.out⟩, ⟨mB HB.out⟩⟩
    ·rw [if_neg c10] at H
     have c10b0 : decide (x11_1 < x10_1) = false := decide_eq_false c10
     clear c10
     replace H := Option.bind_eq_some_iff.mp H
     obtain ⟨t149, A140, H⟩ := H
     replace H : (slices_rotateCmpFunc_Busy__profile_New_1.l0 k1 t149 a2 x10_1 (wrap64 (x11_1 - x10_1))) = some r := H
     have A14 := Aside0.mk A140
     clear A140
     have H' := Aside0.mk H
     clear H
     obtain ⟨Ao15, co15, eo15⟩ := Kd.R_slice HO_0.out
     subst eo15
     go_wp2_with (first | ((with_reducible refine gate_callee (f := 67) rfl ?_); refine goesL_ (some 46) rfl rfl Try.func67 (by kernel_rfl) rfl #[.slice Ao15 x0_1.length co15, .int .i64 (wrap64 (a2 - x10_1)), .int .i64 (wrap64 ((wrap64 (a2 + x11_1)) - x10_1)), .int .i64 x10_1, .func (.func 41) #[] #[]] rfl mt ?_; (with_reducible refine (slices_swapRangeCmpFunc_Busy__profile_New_1.calls k1 (fun k_ => some k_ = (.slice Ao15 x0_1.length co15 : Value).ownBlock) (.slice Ao15 x0_1.length co15) x0_1 (wrap64 (a2 - x10_1)) (wrap64 ((wrap64 (a2 + x11_1)) - x10_1)) x10_1  t149 w0 _ ?side1 ?side2 A14.out).mono ?_); (case side1 => repeat (first | (with_reducible first | exact HB.out | apply below_alloc | apply pw_below_drewN | apply below_drew1) | exact HB.out)); (case side2 => exact Kd.R_tight rfl HO_0.out); rintro e w16 ⟨rfl, hy0, hb, hkp⟩; refine ⟨_, rfl, ?_⟩; have n0_ := Aside0.mk (Kd.R_reok rfl hy0 (fun k_ e_ => HO_0.out.1 k_ e_)); have n1_ := Aside0.mk (Kept.then_ (S := (fun k_ => P0_ k_)) (mK HK.out) hkp (fun k_ hs_ => (fun e_ => (HO_0.out.1 k_ e_.symm)) hs_)); have n2_ := Aside0.mk (hb); clear HO_0; clear HK; clear HB; have HO_0 := n0_; have HK := n1_; have HB := n2_; clear n0_ n1_ n2_; (try clear hb); (try clear hkp); (try clear hy0)))
     go_roundg k1
     case measure => have := HK1.out; omega
     case rel => exact ⟨(t149), (x10_1), (wrap64 (x11_1 - x10_1)), ez, ez, H', ⟨by have := HK1.out; omega⟩, ⟨mR HO_0.out⟩, ⟨mK HK.out⟩, ⟨mB HB.out⟩⟩

end Go.Proofs.Ytedpoahndddgfaa.PAll
end
