/- Words, plain functions and contracts of the functions that the law of this claim reaches; no conditions. -/
import Derived.Test.YtkhfgflcanmefaaBJobApart1
section
namespace Go.Proofs.Ytkhfgflcanmefaa.PAll
open Go.RowKit Go.Proofs.YtkhfgflcanmefaaW.PrintWords Go.Proofs.YtkhfgflcanmefaaW.PrintLast Go.Proofs.YtkhfgflcanmefaaW.PrintMore
attribute [local go_sem] max2_int min2_int max_two min_two max_three min_three max_four min_four   -- for this text's walks alone
set_option linter.unusedVariables false
set_option linter.unusedSimpArgs false

def job_running.f (k : Nat) (l0 : List (S32)) : Option ((List (S32))) := (slices_Clone_Job.f l0).bind fun t224 => ((slices_DeleteFunc_Job__job_running_1.f k t224).bind fun t227 => (some t227))
theorem job_running.mono : ∀ a0 k, LeO (job_running.f k a0) (job_running.f (k + 1) a0) := by
  intro a0 k
  unfold job_running.f
  repeat' first
      | (with_reducible exact slices_DeleteFunc_Job__job_running_1.mono _ _)
      | (with_reducible exact LeO.refl _)
      | (with_reducible exact LeO.none _)
      | (with_reducible refine LeO.ite ?_ ?_)
      | (with_reducible refine LeO.bind ?_ (fun _ => ?_))
      | exact slices_DeleteFunc_Job__job_running_1.mono _ _
      | exact LeO.none _
      | refine LeO.ite ?_ ?_
      | refine LeO.bind ?_ (fun _ => ?_)
set_option maxHeartbeats 8000000 in
set_option maxRecDepth 100000 in
theorem job_running.calls (k : Nat) (A0 : Option Addr) (c0 : Nat) (l0 : List (S32)) (r : List (S32)) (w : World) (hr0 : Kd.C k32 w A0 l0.length l0) (hc0 : l0.length ≤ c0) (h : job_running.f k l0 = some r) :
    Calls Try.prog 41 #[.slice A0 l0.length c0] w fun e w' => ∃ v0_ : Value, e = .returned (v0_) ∧ Kd.R k32 32 w' w.heap.size (fun _ => True) v0_ r ∧ Below w.heap.size w w' := by
  have HR0 := Aside0.mk hr0
  have HC0 := Aside0.mk hc0
  clear hr0 hc0
  have HB := Aside0.mk (Below.refl w.heap.size w)
  have H : ((slices_Clone_Job.f l0).bind fun t224 => ((slices_DeleteFunc_Job__job_running_1.f k t224).bind fun t227 => (some t227))) = some r := h
  clear h
  replace H := Option.bind_eq_some_iff.mp H
  obtain ⟨t224, A20, H⟩ := H
  replace H : ((slices_DeleteFunc_Job__job_running_1.f k t224).bind fun t227 => (some t227)) = some r := H
  have A2 := Aside0.mk A20
  clear A20
  replace H := Option.bind_eq_some_iff.mp H
  obtain ⟨t227, A30, H⟩ := H
  replace H : (some t227) = some r := H
  have A3 := Aside0.mk A30
  clear A30
  obtain rfl := Option.some.inj H
  go_enter Try.func41, Try.ntmps41
  go_wp2_with (first | ((with_reducible refine gate_callee (f := 56) rfl ?_); refine goesL_ (some 4) rfl rfl Try.func56 (by kernel_rfl) rfl #[.slice A0 l0.length c0] rfl (by (try simp only [List.map_toArray, List.map_cons, List.map_nil]); first | done | rfl | (simp only [List.length_drop, List.length_take]; rfl)) ?_; (with_reducible refine (slices_Clone_Job.calls _ _ l0 t224 _ ?side1 ?side2 A2.out).mono ?_); (case side1 => repeat (first | exact HR0.out | (with_reducible refine Kd.C_alloc ?_ _) | (with_reducible refine Kd.C_drewN ?_ _) | (with_reducible refine Kd.C_drew ?_))); (case side2 => exact HC0.out); rintro e w4 ⟨v225, rfl, ho0, hb⟩; refine ⟨_, rfl, ?_⟩; have n0_ := Aside0.mk (Kd.R_lower ho0 (below_size (by repeat (first | (with_reducible first | exact HB.out | apply below_alloc | apply pw_below_drewN | apply below_drew1) | exact HB.out)))); have n1_ := Aside0.mk (below_step (by repeat (first | (with_reducible first | exact HB.out | apply below_alloc | apply pw_below_drewN | apply below_drew1) | exact HB.out)) hb); clear HB; have HO226 := n0_; have HB := n1_; clear n0_ n1_; (try clear hb); (try clear hb2); (try clear hk); (try clear hi); (try clear ho0); obtain ⟨Ao5, co5, eo5⟩ := Kd.R_slice HO226.out; subst eo5) | ((with_reducible refine gate_callee (f := 55) rfl ?_); refine goesL_ (some 5) rfl rfl Try.func55 (by kernel_rfl) rfl #[.slice Ao5 t224.length co5, .func (.func 57) #[] #[]] rfl (by (try simp only [List.map_toArray, List.map_cons, List.map_nil]); first | done | rfl | (simp only [List.length_drop, List.length_take]; rfl)) ?_; (with_reducible refine (slices_DeleteFunc_Job__job_running_1.calls k (fun k_ => some k_ = (.slice Ao5 t224.length co5 : Value).ownBlock) (.slice Ao5 t224.length co5) t224  t227 w _ ?side1 ?side2 A3.out).mono ?_); (case side1 => repeat (first | (with_reducible first | exact HB.out | apply below_alloc | apply pw_below_drewN | apply below_drew1) | exact HB.out)); (case side2 => exact Kd.R_tight rfl HO226.out); rintro e w6 ⟨v228, rfl, ho0, hb, hkp⟩; refine ⟨_, rfl, ?_⟩; have n0_ := Aside0.mk (Kd.R_mono (ok' := fun k_ => True) ho0 (fun k_ hk_ => trivial)); have n1_ := Aside0.mk (hb); clear HB; clear HO226; have HO229 := n0_; have HB := n1_; clear n0_ n1_; (try clear hb); (try clear hkp); (try clear ho0)))
  go_ret
  exact ⟨_, by first | rfl | (simp [errW_none, errW_some] <;> rfl) | (simp [*, errW_none, errW_some] <;> rfl), by (with_reducible repeat (first | apply Kd.R_alloc | apply Kd.R_drewN | apply Kd.R_drew)); exact HO229.out, by repeat (first | (with_reducible first | exact HB.out | apply below_alloc | apply pw_below_drewN | apply below_drew1) | exact HB.out)⟩

end Go.Proofs.Ytkhfgflcanmefaa.PAll
end
section
namespace Go.Proofs.Ytkhfgflcanmefaa.PAll
open Go.RowKit Go.Proofs.YtkhfgflcanmefaaW.PrintWords Go.Proofs.YtkhfgflcanmefaaW.PrintLast Go.Proofs.YtkhfgflcanmefaaW.PrintMore
attribute [local go_sem] max2_int min2_int max_two min_two max_three min_three max_four min_four   -- for this text's walks alone
set_option linter.unusedVariables false
set_option linter.unusedSimpArgs false

def job_Mask.l0 : Nat → Int → List (S32) → Int → Int → Option (Int)
  | 0, _, _, _, _ => none
  | k + 1, x3, x7, x8, x9 => if x9 < x8 then (if 0 ≤ x9 then (if x9 < (x7.length : Int) then (job_Mask.l0 k (Go.bits .or .i64 x3 ((rd_T32 x7 x9).f9)) x7 x8 (wrap64 (x9 + 1))) else (none)) else (none)) else (some x3)
def job_Mask.f (k : Nat) (l0 : List (S32)) : Option (Int) := (job_running.f k l0).bind fun t230 => (job_Mask.l0 k 0 t230 (t230.length : Int) 0)
theorem job_Mask.mono_l : ∀ k, (∀ y0 y1 y2 y3, LeO (job_Mask.l0 k y0 y1 y2 y3) (job_Mask.l0 (k + 1) y0 y1 y2 y3))
  | 0 => fun _ _ _ _ r h => by simp [job_Mask.l0] at h
  | k + 1 => by
    have ih0 := job_Mask.mono_l k
    · intro y0 y1 y2 y3
      unfold job_Mask.l0
      repeat' first
      | (with_reducible exact ih0 _ _ _ _)
      | (with_reducible exact job_running.mono _ _)
      | (with_reducible exact LeO.refl _)
      | (with_reducible exact LeO.none _)
      | (with_reducible refine LeO.ite ?_ ?_)
      | (with_reducible refine LeO.bind ?_ (fun _ => ?_))
      | exact ih0 _ _ _ _
      | exact job_running.mono _ _
      | exact LeO.none _
      | refine LeO.ite ?_ ?_
      | refine LeO.bind ?_ (fun _ => ?_)
theorem job_Mask.mono : ∀ a0 k, LeO (job_Mask.f k a0) (job_Mask.f (k + 1) a0) := by
  intro a0 k
  have ih0 := job_Mask.mono_l k
  unfold job_Mask.f
  repeat' first
      | (with_reducible exact ih0 _ _ _ _)
      | (with_reducible exact job_running.mono _ _)
      | (with_reducible exact LeO.refl _)
      | (with_reducible exact LeO.none _)
      | (with_reducible refine LeO.ite ?_ ?_)
      | (with_reducible refine LeO.bind ?_ (fun _ => ?_))
      | exact ih0 _ _ _ _
      | exact job_running.mono _ _
      | exact LeO.none _
      | refine LeO.ite ?_ ?_
      | refine LeO.bind ?_ (fun _ => ?_)
set_option maxHeartbeats 8000000 in
set_option maxRecDepth 100000 in
theorem job_Mask.calls (k : Nat) (A0 : Option Addr) (c0 : Nat) (l0 : List (S32)) (r : Int) (w : World) (hr0 : Kd.C k32 w A0 l0.length l0) (hc0 : l0.length ≤ c0) (h : job_Mask.f k l0 = some r) :
    Calls Try.prog 19 #[.slice A0 l0.length c0] w fun e w' => e = .returned (.int .i64 r) ∧ Below w.heap.size w w' := by
  have hu32 := Try.underlying32
  have HR0 := Aside0.mk hr0
  have HC0 := Aside0.mk hc0
  clear hr0 hc0
  have HB := Aside0.mk (Below.refl w.heap.size w)
  have H : ((job_running.f k l0).bind fun t230 => (job_Mask.l0 k 0 t230 (t230.length : Int) 0)) = some r := h
  clear h
  replace H := Option.bind_eq_some_iff.mp H
  obtain ⟨t230, A20, H⟩ := H
  replace H : (job_Mask.l0 k 0 t230 (t230.length : Int) 0) = some r := H
  have A2 := Aside0.mk A20
  clear A20
  have H' := Aside0.mk H
  clear H
  go_enter Try.func19, Try.ntmps19
  go_wp2_with (first | ((with_reducible refine gate_callee (f := 41) rfl ?_); refine goesL_ (some 7) rfl rfl Try.func41 (by kernel_rfl) rfl #[.slice A0 l0.length c0] rfl (by (try simp only [List.map_toArray, List.map_cons, List.map_nil]); first | done | rfl | (simp only [List.length_drop, List.length_take]; rfl)) ?_; (with_reducible refine (job_running.calls k _ _ l0 t230 _ ?side1 ?side2 A2.out).mono ?_); (case side1 => repeat (first | exact HR0.out | (with_reducible refine Kd.C_alloc ?_ _) | (with_reducible refine Kd.C_drewN ?_ _) | (with_reducible refine Kd.C_drew ?_))); (case side2 => exact HC0.out); rintro e w3 ⟨v231, rfl, ho0, hb⟩; refine ⟨_, rfl, ?_⟩; have n0_ := Aside0.mk (Kd.R_lower ho0 (below_size (by repeat (first | (with_reducible first | exact HB.out | apply below_alloc | apply pw_below_drewN | apply below_drew1) | exact HB.out)))); have n1_ := Aside0.mk (below_step (by repeat (first | (with_reducible first | exact HB.out | apply below_alloc | apply pw_below_drewN | apply below_drew1) | exact HB.out)) hb); clear HB; have HO232 := n0_; have HB := n1_; clear n0_ n1_; (try clear hb); (try clear hb2); (try clear hk); (try clear hi); (try clear ho0); obtain ⟨Ao4, co4, eo4⟩ := Kd.R_slice HO232.out; subst eo4))
  go_loopg [3, 9] k (fun kq v3 v9 w' => ∃ (x3_1 : Int) (x9_1 : Int), v3 = .int .i64 x3_1 ∧ v9 = .int .i64 x9_1 ∧ Aside0 (job_Mask.l0 kq x3_1 t230 (t230.length : Int) x9_1 = some r) ∧ Aside0 (kq ≤ k) ∧ Aside0 (Kd.R k32 32 w' w.heap.size (fun _ => True) (.slice Ao4 t230.length co4) t230) ∧ Aside0 (Below w.heap.size w w'))
  case atStart => exact ⟨(0), (0), (by first | rfl | (simp; done) | (simp [*]; done)), (by first | rfl | (simp; done) | (simp [*]; done)), H', ⟨Nat.le_refl _⟩, ⟨by (with_reducible repeat (first | apply Kd.R_alloc | apply Kd.R_drewN | apply Kd.R_drew)); exact HO232.out⟩, ⟨by repeat (first | (with_reducible first | exact HB.out | apply below_alloc | apply pw_below_drewN | apply below_drew1) | exact HB.out)⟩⟩
  case round =>
    clear H'
    try clear c1
    try clear p2
    try clear c4
    obtain ⟨x3_1, x9_1, rfl, rfl, HA, HK1, HO_7, HB⟩ := hrel
    cases gk with
    | zero => exact absurd HA.out (by simp [job_Mask.l0])
    | succ k1 =>
      have H := HA.out
      clear HA
      simp only [job_Mask.l0] at H
      by_cases c5 : x9_1 < (t230.length : Int)
      · rw [if_pos c5] at H
        have c5b0 : decide (x9_1 < (t230.length : Int)) = true := decide_eq_true c5
        clear c5
        by_cases c6 : 0 ≤ x9_1
        · rw [if_pos c6] at H
          have c6b0 : decide (0 ≤ x9_1) = true := decide_eq_true c6
          clear c6
          by_cases c7 : x9_1 < (t230.length : Int)
          · rw [if_pos c7] at H
            have c7b0 : decide (x9_1 < (t230.length : Int)) = true := decide_eq_true c7
            clear c7
            have H' := Aside0.mk H
            clear H
            have p233 : 0 ≤ (x9_1 : Int) := of_decide_eq_true (by first | (with_reducible assumption) | assumption)
            have q233 : x9_1 < (t230.length : Int) := of_decide_eq_true (by first | (with_reducible assumption) | assumption)
            obtain ⟨ad233, e233, hx233_0, hx233_1, hx233_2, hx233_3, hx233_4, hx233_5, hx233_6, hx233_7, hx233_8, hx233_9, hx233_10, hx233_11⟩ := at_T32 (Kd.R_reads' HO_7.out).2.2 x9_1 p233 q233
            cases e233
            replace p233 := eq_true p233
            replace q233 := eq_true q233
            go_wp2_with (first | ((with_reducible refine gate_dst (N := 5) rfl ?_); refine box_event ?hg (N := 5) ?hd (cs := #[.int .i64 0, .int .i64 0, .int .i64 0, .int .i64 0, .int .i64 0, .int .i64 0, .int .i64 0, .int .i64 0, .int .i64 0, .int .i64 0, .int .i64 0, .slice none 0 0]) (t := 32) ?hr ?_; (case hd => rfl); (case hg => rfl); (case hr => first | (go_simp; done) | (go_simp; rfl)); intro gb234 hg w8 hbox hb; have n0_ := Aside0.mk (Kd.R_below (Kd.R_elderB (by (with_reducible repeat (first | apply Kd.R_alloc | apply Kd.R_drewN | apply Kd.R_drew)); exact HO_7.out) gb234 (Nat.le_of_eq hg.symm)) hb); have n1_ := Aside0.mk (below_step (by repeat (first | (with_reducible first | exact HB.out | apply below_alloc | apply pw_below_drewN | apply below_drew1) | exact HB.out)) hb); have n2_ := Aside0.mk (hbox); have n3_ := Aside0.mk ((by rw [hg]; exact (below_size (by repeat (first | (with_reducible first | exact HB.out | apply below_alloc | apply pw_below_drewN | apply below_drew1) | exact HB.out))) : w.heap.size ≤ gb234)); have n4_ := Aside0.mk ((by rw [hg]; exact (below_size (by repeat (first | (with_reducible first | exact HB.out | apply below_alloc | apply pw_below_drewN | apply below_drew1) | exact HB.out))) : w.heap.size ≤ gb234)); clear HO_7; clear HB; have HO_7 := n0_; have HB := n1_; have BK234 := n2_; have GW234 := n3_; have GE234 := n4_; clear n0_ n1_ n2_ n3_ n4_; clear hb hbox hg; have hcz9_0 : w8.cell? ⟨gb234, 0, none⟩ = some (.int .i64 0) := (blk_cell BK234.out 0).trans rfl; have hcz9_1 : w8.cell? ⟨gb234, 1, none⟩ = some (.int .i64 0) := (blk_cell BK234.out 1).trans rfl; have hcz9_2 : w8.cell? ⟨gb234, 2, none⟩ = some (.int .i64 0) := (blk_cell BK234.out 2).trans rfl; have hcz9_3 : w8.cell? ⟨gb234, 3, none⟩ = some (.int .i64 0) := (blk_cell BK234.out 3).trans rfl; have hcz9_4 : w8.cell? ⟨gb234, 4, none⟩ = some (.int .i64 0) := (blk_cell BK234.out 4).trans rfl; have hcz9_5 : w8.cell? ⟨gb234, 5, none⟩ = some (.int .i64 0) := (blk_cell BK234.out 5).trans rfl; have hcz9_6 : w8.cell? ⟨gb234, 6, none⟩ = some (.int .i64 0) := (blk_cell BK234.out 6).trans rfl; have hcz9_7 : w8.cell? ⟨gb234, 7, none⟩ = some (.int .i64 0) := (blk_cell BK234.out 7).trans rfl; have hcz9_8 : w8.cell? ⟨gb234, 8, none⟩ = some (.int .i64 0) := (blk_cell BK234.out 8).trans rfl; have hcz9_9 : w8.cell? ⟨gb234, 9, none⟩ = some (.int .i64 0) := (blk_cell BK234.out 9).trans rfl; have hcz9_10 : w8.cell? ⟨gb234, 10, none⟩ = some (.int .i64 0) := (blk_cell BK234.out 10).trans rfl; have hcz9_11 : w8.cell? ⟨gb234, 11, none⟩ = some (.slice none 0 0) := (blk_cell BK234.out 11).trans rfl; have hfz9_0 := blk_frozen BK234.out 0; have hfz9_1 := blk_frozen BK234.out 1; have hfz9_2 := blk_frozen BK234.out 2; have hfz9_3 := blk_frozen BK234.out 3; have hfz9_4 := blk_frozen BK234.out 4; have hfz9_5 := blk_frozen BK234.out 5; have hfz9_6 := blk_frozen BK234.out 6; have hfz9_7 := blk_frozen BK234.out 7; have hfz9_8 := blk_frozen BK234.out 8; have hfz9_9 := blk_frozen BK234.out 9; have hfz9_10 := blk_frozen BK234.out 10; have hfz9_11 := blk_frozen BK234.out 11))
            go_roundg k1
            case measure => have := HK1.out; omega
            case rel => exact ⟨(Go.bits .or .i64 x3_1 ((rd_T32 t230 x9_1).f9)), (wrap64 (x9_1 + 1)), (by first | rfl | (simp; done) | (simp [*]; done)), (by first | rfl | (simp; done) | (simp [*]; done)), H', ⟨by have := HK1.out; omega⟩, ⟨by (with_reducible repeat (first | apply Kd.R_alloc | apply Kd.R_drewN | apply Kd.R_drew)); exact Kd.R_mono (Kd.R_fa gb234 11 (Kd.R_fa gb234 10 (Kd.R_fa gb234 9 (Kd.R_fa gb234 8 (Kd.R_fa gb234 7 (Kd.R_fa gb234 6 (Kd.R_fa gb234 5 (Kd.R_fa gb234 4 (Kd.R_fa gb234 3 (Kd.R_fa gb234 2 (Kd.R_fa gb234 1 (Kd.R_fa gb234 0 (Kd.R_mono HO_7.out (fun k_ hk => (⟨hk, hk.2⟩ : _ ∧ k_ ≠ gb234))) (.int .i64 ((rd_T32 t230 x9_1).f0))) (.int .i64 ((rd_T32 t230 x9_1).f1))) (.int .i64 ((rd_T32 t230 x9_1).f2))) (.int .i64 ((rd_T32 t230 x9_1).f3))) (.int .i64 ((rd_T32 t230 x9_1).f4))) (.int .i64 ((rd_T32 t230 x9_1).f5))) (.int .i64 ((rd_T32 t230 x9_1).f6))) (.int .i64 ((rd_T32 t230 x9_1).f7))) (.int .i64 ((rd_T32 t230 x9_1).f8))) (.int .i64 ((rd_T32 t230 x9_1).f9))) (.int .i64 ((rd_T32 t230 x9_1).f10))) (.slice ((rd_T32 t230 x9_1).f11).A ((rd_T32 t230 x9_1).f11).n ((rd_T32 t230 x9_1).f11).c)) (fun _ hk => trivial)⟩, ⟨by repeat (first | (with_reducible first | exact HB.out | apply below_alloc | apply pw_below_drewN | apply below_drew1 | refine below_set ?_ GE234.out) | exact HB.out)⟩⟩
          · rw [if_neg c7] at H
            exact absurd H (by simp)
        · rw [if_neg c6] at H
          exact absurd H (by simp)
      · rw [if_neg c5] at H
        have c5b0 : decide (x9_1 < (t230.length : Int)) = false := decide_eq_false c5
        clear c5
        obtain rfl := Option.some.inj H
        go_wp2
        go_ret
        exact ⟨by first | rfl | (simp [errW_none, errW_some] <;> rfl) | (simp [*, errW_none, errW_some] <;> rfl), by repeat (first | (with_reducible first | exact HB.out | apply below_alloc | apply pw_below_drewN | apply below_drew1) | exact HB.out)⟩

end Go.Proofs.Ytkhfgflcanmefaa.PAll
end
section
namespace Go.Proofs.Ytkhfgflcanmefaa.PAll
open Go.RowKit Go.Proofs.YtkhfgflcanmefaaW.PrintWords Go.Proofs.YtkhfgflcanmefaaW.PrintLast Go.Proofs.YtkhfgflcanmefaaW.PrintMore
attribute [local go_sem] max2_int min2_int max_two min_two max_three min_three max_four min_four   -- for this text's walks alone
set_option linter.unusedVariables false
set_option linter.unusedSimpArgs false

def plane_within.f (a0 : Int) (a1 : Int) (a2 : Int) : Option (Bool) := if a0 ≥ a1 then (some (decide (a0 ≤ a2))) else (some false)
set_option maxHeartbeats 8000000 in
set_option maxRecDepth 100000 in
theorem plane_within.calls (a0 : Int) (a1 : Int) (a2 : Int) (r : Bool) (w : World) (h : plane_within.f a0 a1 a2 = some r) :
    Calls Try.prog 61 #[.int .i64 a0, .int .i64 a1, .int .i64 a2] w fun e w' => e = .returned (.bool r) ∧ Drawn0 w w' := by
  have H : (if a0 ≥ a1 then (some (decide (a0 ≤ a2))) else (some false)) = some r := h
  clear h
  by_cases c4 : a0 ≥ a1
  · rw [if_pos c4] at H
    have c4b0 : decide (a1 ≤ a0) = true := decide_eq_true c4
    clear c4
    obtain rfl := Option.some.inj H
    go_enter Try.func61, Try.ntmps61
    go_wp2
    go_ret
    exact ⟨by first | rfl | (simp; done) | (simp [*]; done), by repeat (first | exact Drawn0.refl _ | apply Drawn0.step)⟩
  · rw [if_neg c4] at H
    have c4b0 : decide (a1 ≤ a0) = false := decide_eq_false c4
    clear c4
    obtain rfl := Option.some.inj H
    go_enter Try.func61, Try.ntmps61
    go_wp2
    go_ret
    exact ⟨by first | rfl | (simp; done) | (simp [*]; done), by repeat (first | exact Drawn0.refl _ | apply Drawn0.step)⟩

end Go.Proofs.Ytkhfgflcanmefaa.PAll
end
section
namespace Go.Proofs.Ytkhfgflcanmefaa.PAll
open Go.RowKit Go.Proofs.YtkhfgflcanmefaaW.PrintWords Go.Proofs.YtkhfgflcanmefaaW.PrintLast Go.Proofs.YtkhfgflcanmefaaW.PrintMore
attribute [local go_sem] max2_int min2_int max_two min_two max_three min_three max_four min_four   -- for this text's walks alone
set_option linter.unusedVariables false
set_option linter.unusedSimpArgs false

def plane_Good.f (a0_0 : Int) (a0_1 : Int) (a0_2 : Int) (a0_3 : Int) : Option (Bool) := (plane_within.f a0_0 0 1099511627776).bind fun t249 => (if t249 = true then ((plane_within.f a0_2 1 1048576).bind fun t250 => (if t250 = true then ((plane_within.f a0_1 0 31).bind fun t251 => (if t251 = true then ((plane_within.f a0_3 1 (wrap64 (32 - a0_1))).bind fun t252 => (some t252)) else (some false))) else (some false))) else (some false))
set_option maxHeartbeats 8000000 in
set_option maxRecDepth 100000 in
theorem plane_Good.calls (a0_0 : Int) (a0_1 : Int) (a0_2 : Int) (a0_3 : Int) (r : Bool) (w : World) (h : plane_Good.f a0_0 a0_1 a0_2 a0_3 = some r) :
    Calls Try.prog 51 #[.agg #[.int .i64 a0_0, .int .i64 a0_1, .int .i64 a0_2, .int .i64 a0_3]] w fun e w' => e = .returned (.bool r) ∧ Below w.heap.size w w' := by
  have hu63 := Try.underlying63
  have HB := Aside0.mk (Below.refl w.heap.size w)
  have H : ((plane_within.f a0_0 0 1099511627776).bind fun t249 => (if t249 = true then ((plane_within.f a0_2 1 1048576).bind fun t250 => (if t250 = true then ((plane_within.f a0_1 0 31).bind fun t251 => (if t251 = true then ((plane_within.f a0_3 1 (wrap64 (32 - a0_1))).bind fun t252 => (some t252)) else (some false))) else (some false))) else (some false))) = some r := h
  clear h
  replace H := Option.bind_eq_some_iff.mp H
  obtain ⟨t249, A20, H⟩ := H
  replace H : (if t249 = true then ((plane_within.f a0_2 1 1048576).bind fun t250 => (if t250 = true then ((plane_within.f a0_1 0 31).bind fun t251 => (if t251 = true then ((plane_within.f a0_3 1 (wrap64 (32 - a0_1))).bind fun t252 => (some t252)) else (some false))) else (some false))) else (some false)) = some r := H
  have A2 := Aside0.mk A20
  clear A20
  by_cases c3 : t249 = true
  · subst c3
    have H1 : ((plane_within.f a0_2 1 1048576).bind fun t250 => (if t250 = true then ((plane_within.f a0_1 0 31).bind fun t251 => (if t251 = true then ((plane_within.f a0_3 1 (wrap64 (32 - a0_1))).bind fun t252 => (some t252)) else (some false))) else (some false))) = some r := by rw [if_pos rfl] at H; exact H
    clear H
    have H := H1
    clear H1
    replace H := Option.bind_eq_some_iff.mp H
    obtain ⟨t250, A40, H⟩ := H
    replace H : (if t250 = true then ((plane_within.f a0_1 0 31).bind fun t251 => (if t251 = true then ((plane_within.f a0_3 1 (wrap64 (32 - a0_1))).bind fun t252 => (some t252)) else (some false))) else (some false)) = some r := H
    have A4 := Aside0.mk A40
    clear A40
    by_cases c5 : t250 = true
    · subst c5
      have H1 : ((plane_within.f a0_1 0 31).bind fun t251 => (if t251 = true then ((plane_within.f a0_3 1 (wrap64 (32 - a0_1))).bind fun t252 => (some t252)) else (some false))) = some r := by rw [if_pos rfl] at H; exact H
      clear H
      have H := H1
      clear H1
      replace H := Option.bind_eq_some_iff.mp H
      obtain ⟨t251, A60, H⟩ := H
      replace H : (if t251 = true then ((plane_within.f a0_3 1 (wrap64 (32 - a0_1))).bind fun t252 => (some t252)) else (some false)) = some r := H
      have A6 := Aside0.mk A60
      clear A60
      by_cases c7 : t251 = true
      · subst c7
        have H1 : ((plane_within.f a0_3 1 (wrap64 (32 - a0_1))).bind fun t252 => (some t252)) = some r := by rw [if_pos rfl] at H; exact H
        clear H
        have H := H1
        clear H1
        replace H := Option.bind_eq_some_iff.mp H
        obtain ⟨t252, A80, H⟩ := H
        replace H : (some t252) = some r := H
        have A8 := Aside0.mk A80
        clear A80
        obtain rfl := Option.some.inj H
        go_enter Try.func51, Try.ntmps51
        go_wp2_with (first | ((with_reducible refine gate_dst (N := 1) rfl ?_); refine box_event ?hg (N := 1) ?hd (cs := #[.int .i64 a0_0, .int .i64 a0_1, .int .i64 a0_2, .int .i64 a0_3]) (t := 63) ?hr ?_; (case hd => rfl); (case hg => rfl); (case hr => first | (go_simp; done) | (go_simp; rfl)); intro gb248 hg w9 hbox hb; have n0_ := Aside0.mk (below_step (by repeat (first | (with_reducible first | exact HB.out | apply below_alloc | apply pw_below_drewN | apply below_drew1) | exact HB.out)) hb); have n1_ := Aside0.mk (hbox); have n2_ := Aside0.mk ((by rw [hg]; exact (below_size (by repeat (first | (with_reducible first | exact HB.out | apply below_alloc | apply pw_below_drewN | apply below_drew1) | exact HB.out))) : w.heap.size ≤ gb248)); have n3_ := Aside0.mk ((by rw [hg]; exact (below_size (by repeat (first | (with_reducible first | exact HB.out | apply below_alloc | apply pw_below_drewN | apply below_drew1) | exact HB.out))) : w.heap.size ≤ gb248)); clear HB; have HB := n0_; have BK248 := n1_; have GW248 := n2_; have GE248 := n3_; clear n0_ n1_ n2_ n3_; clear hb hbox hg; have hcz10_0 : w9.cell? ⟨gb248, 0, none⟩ = some (.int .i64 a0_0) := (blk_cell BK248.out 0).trans rfl; have hcz10_1 : w9.cell? ⟨gb248, 1, none⟩ = some (.int .i64 a0_1) := (blk_cell BK248.out 1).trans rfl; have hcz10_2 : w9.cell? ⟨gb248, 2, none⟩ = some (.int .i64 a0_2) := (blk_cell BK248.out 2).trans rfl; have hcz10_3 : w9.cell? ⟨gb248, 3, none⟩ = some (.int .i64 a0_3) := (blk_cell BK248.out 3).trans rfl; have hfz10_0 := blk_frozen BK248.out 0; have hfz10_1 := blk_frozen BK248.out 1; have hfz10_2 := blk_frozen BK248.out 2; have hfz10_3 := blk_frozen BK248.out 3) | ((with_reducible refine gate_callee (f := 61) rfl ?_); refine goesL_ (some 5) rfl rfl Try.func61 (by kernel_rfl) rfl #[.int .i64 a0_0, .int .i64 0, .int .i64 1099511627776] rfl (by (try simp only [List.map_toArray, List.map_cons, List.map_nil]); first | done | rfl | (simp only [List.length_drop, List.length_take]; rfl)) ?_; (with_reducible refine (plane_within.calls a0_0 0 1099511627776 true _ A2.out).mono ?_); rintro e w' ⟨rfl, ⟨nd, rfl⟩⟩; refine ⟨_, rfl, ?_⟩) | (go_at_call 61; (with_reducible refine (plane_within.calls a0_2 1 1048576 true _ A4.out).mono ?_); rintro e w' ⟨rfl, ⟨nd, rfl⟩⟩) | (go_at_call 61; (with_reducible refine (plane_within.calls a0_1 0 31 true _ A6.out).mono ?_); rintro e w' ⟨rfl, ⟨nd, rfl⟩⟩) | (go_at_call 61; (with_reducible refine (plane_within.calls a0_3 1 (wrap64 (32 - a0_1)) t252 _ A8.out).mono ?_); rintro e w' ⟨rfl, ⟨nd, rfl⟩⟩))
        go_ret
        exact ⟨by first | rfl | (simp [errW_none, errW_some] <;> rfl) | (simp [*, errW_none, errW_some] <;> rfl), by repeat (first | (with_reducible first | exact HB.out | apply below_alloc | apply pw_below_drewN | apply below_drew1 | refine below_set ?_ GE248.out) | exact HB.out)⟩
      · replace c7 := Bool.eq_false_iff.mpr c7
        subst c7
        have H1 : (some false) = some r := by rw [if_neg (show ¬ (false = true) by decide)] at H; exact H
        clear H
        have H := H1
        clear H1
        obtain rfl := Option.some.inj H
        go_enter Try.func51, Try.ntmps51
        go_wp2_with (first | ((with_reducible refine gate_dst (N := 1) rfl ?_); refine box_event ?hg (N := 1) ?hd (cs := #[.int .i64 a0_0, .int .i64 a0_1, .int .i64 a0_2, .int .i64 a0_3]) (t := 63) ?hr ?_; (case hd => rfl); (case hg => rfl); (case hr => first | (go_simp; done) | (go_simp; rfl)); intro gb248 hg w11 hbox hb; have n0_ := Aside0.mk (below_step (by repeat (first | (with_reducible first | exact HB.out | apply below_alloc | apply pw_below_drewN | apply below_drew1) | exact HB.out)) hb); have n1_ := Aside0.mk (hbox); have n2_ := Aside0.mk ((by rw [hg]; exact (below_size (by repeat (first | (with_reducible first | exact HB.out | apply below_alloc | apply pw_below_drewN | apply below_drew1) | exact HB.out))) : w.heap.size ≤ gb248)); have n3_ := Aside0.mk ((by rw [hg]; exact (below_size (by repeat (first | (with_reducible first | exact HB.out | apply below_alloc | apply pw_below_drewN | apply below_drew1) | exact HB.out))) : w.heap.size ≤ gb248)); clear HB; have HB := n0_; have BK248 := n1_; have GW248 := n2_; have GE248 := n3_; clear n0_ n1_ n2_ n3_; clear hb hbox hg; have hcz12_0 : w11.cell? ⟨gb248, 0, none⟩ = some (.int .i64 a0_0) := (blk_cell BK248.out 0).trans rfl; have hcz12_1 : w11.cell? ⟨gb248, 1, none⟩ = some (.int .i64 a0_1) := (blk_cell BK248.out 1).trans rfl; have hcz12_2 : w11.cell? ⟨gb248, 2, none⟩ = some (.int .i64 a0_2) := (blk_cell BK248.out 2).trans rfl; have hcz12_3 : w11.cell? ⟨gb248, 3, none⟩ = some (.int .i64 a0_3) := (blk_cell BK248.out 3).trans rfl; have hfz12_0 := blk_frozen BK248.out 0; have hfz12_1 := blk_frozen BK248.out 1; have hfz12_2 := blk_frozen BK248.out 2; have hfz12_3 := blk_frozen BK248.out 3) | ((with_reducible refine gate_callee (f := 61) rfl ?_); refine goesL_ (some 5) rfl rfl Try.func61 (by kernel_rfl) rfl #[.int .i64 a0_0, .int .i64 0, .int .i64 1099511627776] rfl (by (try simp only [List.map_toArray, List.map_cons, List.map_nil]); first | done | rfl | (simp only [List.length_drop, List.length_take]; rfl)) ?_; (with_reducible refine (plane_within.calls a0_0 0 1099511627776 true _ A2.out).mono ?_); rintro e w' ⟨rfl, ⟨nd, rfl⟩⟩; refine ⟨_, rfl, ?_⟩) | (go_at_call 61; (with_reducible refine (plane_within.calls a0_2 1 1048576 true _ A4.out).mono ?_); rintro e w' ⟨rfl, ⟨nd, rfl⟩⟩) | (go_at_call 61; (with_reducible refine (plane_within.calls a0_1 0 31 false _ A6.out).mono ?_); rintro e w' ⟨rfl, ⟨nd, rfl⟩⟩))
        go_ret
        exact ⟨by first | rfl | (simp [errW_none, errW_some] <;> rfl) | (simp [*, errW_none, errW_some] <;> rfl), by repeat (first | (with_reducible first | exact HB.out | apply below_alloc | apply pw_below_drewN | apply below_drew1 | refine below_set ?_ GE248.out) | exact HB.out)⟩
    · replace c5 := Bool.eq_false_iff.mpr c5
      subst c5
      have H1 : (some false) = some r := by rw [if_neg (show ¬ (false = true) by decide)] at H; exact H
      clear H
      have H := H1
      clear H1
      obtain rfl := Option.some.inj H
      go_enter Try.func51, Try.ntmps51
      go_wp2_with (first | ((with_reducible refine gate_dst (N := 1) rfl ?_); refine box_event ?hg (N := 1) ?hd (cs := #[.int .i64 a0_0, .int .i64 a0_1, .int .i64 a0_2, .int .i64 a0_3]) (t := 63) ?hr ?_; (case hd => rfl); (case hg => rfl); (case hr => first | (go_simp; done) | (go_simp; rfl)); intro gb248 hg w13 hbox hb; have n0_ := Aside0.mk (below_step (by repeat (first | (with_reducible first | exact HB.out | apply below_alloc | apply pw_below_drewN | apply below_drew1) | exact HB.out)) hb); have n1_ := Aside0.mk (hbox); have n2_ := Aside0.mk ((by rw [hg]; exact (below_size (by repeat (first | (with_reducible first | exact HB.out | apply below_alloc | apply pw_below_drewN | apply below_drew1) | exact HB.out))) : w.heap.size ≤ gb248)); have n3_ := Aside0.mk ((by rw [hg]; exact (below_size (by repeat (first | (with_reducible first | exact HB.out | apply below_alloc | apply pw_below_drewN | apply below_drew1) | exact HB.out))) : w.heap.size ≤ gb248)); clear HB; have HB := n0_; have BK248 := n1_; have GW248 := n2_; have GE248 := n3_; clear n0_ n1_ n2_ n3_; clear hb hbox hg; have hcz14_0 : w13.cell? ⟨gb248, 0, none⟩ = some (.int .i64 a0_0) := (blk_cell BK248.out 0).trans rfl; have hcz14_1 : w13.cell? ⟨gb248, 1, none⟩ = some (.int .i64 a0_1) := (blk_cell BK248.out 1).trans rfl; have hcz14_2 : w13.cell? ⟨gb248, 2, none⟩ = some (.int .i64 a0_2) := (blk_cell BK248.out 2).trans rfl; have hcz14_3 : w13.cell? ⟨gb248, 3, none⟩ = some (.int .i64 a0_3) := (blk_cell BK248.out 3).trans rfl; have hfz14_0 := blk_frozen BK248.out 0; have hfz14_1 := blk_frozen BK248.out 1; have hfz14_2 := blk_frozen BK248.out 2; have hfz14_3 := blk_frozen BK248.out 3) | ((with_reducible refine gate_callee (f := 61) rfl ?_); refine goesL_ (some 5) rfl rfl Try.func61 (by kernel_rfl) rfl #[.int .i64 a0_0, .int .i64 0, .int .i64 1099511627776] rfl (by (try simp only [List.map_toArray, List.map_cons, List.map_nil]); first | done | rfl | (simp only [List.length_drop, List.length_take]; rfl)) ?_; (with_reducible refine (plane_within.calls a0_0 0 1099511627776 true _ A2.out).mono ?_); rintro e w' ⟨rfl, ⟨nd, rfl⟩⟩; refine ⟨_, rfl, ?_⟩) | (go_at_call 61; (with_reducible refine (plane_within.calls a0_2 1 1048576 false _ A4.out).mono ?_); rintro e w' ⟨rfl, ⟨nd, rfl⟩⟩))
      go_ret
      exact ⟨by first | rfl | (simp [errW_none, errW_some] <;> rfl) | (simp [*, errW_none, errW_some] <;> rfl), by repeat (first | (with_reducible first | exact HB.out | apply below_alloc | apply pw_below_drewN | apply below_drew1 | refine below_set ?_ GE248.out) | exact HB.out)⟩
  · replace c3 := Bool.eq_false_iff.mpr c3
    subst c3
    have H1 : (some false) = some r := by rw [if_neg (show ¬ (false = true) by decide)] at H; exact H
    clear H
    have H := H1
    clear H1
    obtain rfl := Option.some.inj H
    go_enter Try.func51, Try.ntmps51
    go_wp2_with (first | ((with_reducible refine gate_dst (N := 1) rfl ?_); refine box_event ?hg (N := 1) ?hd (cs := #[.int .i64 a0_0, .int .i64 a0_1, .int .i64 a0_2, .int .i64 a0_3]) (t := 63) ?hr ?_; (case hd => rfl); (case hg => rfl); (case hr => first | (go_simp; done) | (go_simp; rfl)); intro gb248 hg w15 hbox hb; have n0_ := Aside0.mk (below_step (by repeat (first | (with_reducible first | exact HB.out | apply below_alloc | apply pw_below_drewN | apply below_drew1) | exact HB.out)) hb); have n1_ := Aside0.mk (hbox); have n2_ := Aside0.mk ((by rw [hg]; exact (below_size (by repeat (first | (with_reducible first | exact HB.out | apply below_alloc | apply pw_below_drewN | apply below_drew1) | exact HB.out))) : w.heap.size ≤ gb248)); have n3_ := Aside0.mk ((by rw [hg]; exact (below_size (by repeat (first | (with_reducible first | exact HB.out | apply below_alloc | apply pw_below_drewN | apply below_drew1) | exact HB.out))) : w.heap.size ≤ gb248)); clear HB; have HB := n0_; have BK248 := n1_; have GW248 := n2_; have GE248 := n3_; clear n0_ n1_ n2_ n3_; clear hb hbox hg; have hcz16_0 : w15.cell? ⟨gb248, 0, none⟩ = some (.int .i64 a0_0) := (blk_cell BK248.out 0).trans rfl; have hcz16_1 : w15.cell? ⟨gb248, 1, none⟩ = some (.int .i64 a0_1) := (blk_cell BK248.out 1).trans rfl; have hcz16_2 : w15.cell? ⟨gb248, 2, none⟩ = some (.int .i64 a0_2) := (blk_cell BK248.out 2).trans rfl; have hcz16_3 : w15.cell? ⟨gb248, 3, none⟩ = some (.int .i64 a0_3) := (blk_cell BK248.out 3).trans rfl; have hfz16_0 := blk_frozen BK248.out 0; have hfz16_1 := blk_frozen BK248.out 1; have hfz16_2 := blk_frozen BK248.out 2; have hfz16_3 := blk_frozen BK248.out 3) | ((with_reducible refine gate_callee (f := 61) rfl ?_); refine goesL_ (some 5) rfl rfl Try.func61 (by kernel_rfl) rfl #[.int .i64 a0_0, .int .i64 0, .int .i64 1099511627776] rfl (by (try simp only [List.map_toArray, List.map_cons, List.map_nil]); first | done | rfl | (simp only [List.length_drop, List.length_take]; rfl)) ?_; (with_reducible refine (plane_within.calls a0_0 0 1099511627776 false _ A2.out).mono ?_); rintro e w' ⟨rfl, ⟨nd, rfl⟩⟩; refine ⟨_, rfl, ?_⟩))
    go_ret
    exact ⟨by first | rfl | (simp [errW_none, errW_some] <;> rfl) | (simp [*, errW_none, errW_some] <;> rfl), by repeat (first | (with_reducible first | exact HB.out | apply below_alloc | apply pw_below_drewN | apply below_drew1 | refine below_set ?_ GE248.out) | exact HB.out)⟩

end Go.Proofs.Ytkhfgflcanmefaa.PAll
end
section
namespace Go.Proofs.Ytkhfgflcanmefaa.PAll
open Go.RowKit Go.Proofs.YtkhfgflcanmefaaW.PrintWords Go.Proofs.YtkhfgflcanmefaaW.PrintLast Go.Proofs.YtkhfgflcanmefaaW.PrintMore
attribute [local go_sem] max2_int min2_int max_two min_two max_three min_three max_four min_four   -- for this text's walks alone
set_option linter.unusedVariables false
set_option linter.unusedSimpArgs false

theorem least_of (p : Nat → Prop) (h : ∃ k, p k) : ∃ k, p k ∧ ∀ j, p j → k ≤ j := by
  obtain ⟨k, hk⟩ := h
  induction k using Nat.strongRecOn with
  | _ k ih =>
    by_cases hc : ∃ j, j < k ∧ p j
    · obtain ⟨j, hj, pj⟩ := hc
      exact ih j hj pj
    · exact ⟨k, hk, fun j pj => Nat.le_of_not_lt fun hlt => hc ⟨j, hlt, pj⟩⟩
open Classical in
theorem wp_scope_ghost {P : Program} {a : Act} {w : World} {Q : Exit → Act → World → Prop} {c rest : Code} (l : Nat) (R : Nat → Act → World → Prop) (hf : findLabel c l = some (Code.skip.seq rest))
    (pass : ∀ k a w, R k a w → rest.wp P (Exit.jump l (fun a' w' => ∃ k', k' < k ∧ R k' a' w') Q) a w)
    (first : (∀ k a w, R k a w → rest.wp P (Exit.jump l (fun a' w' => ∃ k', R k' a' w') Q) a w) → c.wp P (Exit.jump l (fun a' w' => ∃ k', R k' a' w') Q) a w) : (Code.scope c).wp P Q a w := by
  refine wp_scope_jumps l (fun a' w' => ∃ k', R k' a' w') (fun a' w' => if h : ∃ k', R k' a' w' then Classical.choose (least_of _ h) else 0) hf (first ?_) ?_
  · intro k a w h
    refine wp_mono (pass k a w h) ?_
    intro e a' w' hq
    cases e <;> first | exact hq | (obtain ⟨e1, k', _, h'⟩ := hq; exact ⟨e1, k', h'⟩)
  · intro a w h
    refine wp_seq (wp_skip ?_)
    show rest.wp _ _ _ _
    refine wp_mono (pass _ a w (Classical.choose_spec (least_of _ h)).1) ?_
    intro e a' w' hq
    cases e <;> first | exact hq | skip
    obtain ⟨e1, k', hk, h'⟩ := hq
    refine ⟨e1, ⟨k', h'⟩, ?_⟩
    have h2 : ∃ k', R k' a' w' := ⟨k', h'⟩
    simp only [dif_pos h2, dif_pos h]
    exact Nat.lt_of_le_of_lt ((Classical.choose_spec (least_of _ h2)).2 _ h') hk
def bitOf (m n : Int) : Int := Go.bits .and .i64 (shr .i64 m n) 1
mutual
def plane_Rows.up : Nat → Int → Int → Int → Option Int
  | 0, _, _, _ => none
  | k + 1, t, m, n => if n < 32 then (if bitOf m n = t then plane_Rows.up k t m (n + 1) else some n) else some n
end
def plane_Rows.l : Nat → Int → Int → Int → List S63 → Int → Option (List S63)
  | 0, _, _, _, _, _ => none
  | k + 1, a0, a1, a2, out, n => (plane_Rows.up 40 0 a2 n).bind fun p => if p = 32 then some out else (plane_Rows.up 40 1 a2 p).bind fun q => plane_Rows.l k a0 a1 a2 (out ++ [(⟨a0, p, a1, q - p⟩ : S63)]) q
def plane_Rows.f (a0 a1 a2 : Int) : Option (List S63) := (plane_Good.f a0 0 a1 1).bind fun g => if g = true then plane_Rows.l 40 a0 a1 a2 [] 0 else some []
structure RowsAt (a0 a1 a2 : Int) (r : List S63) (w : World) (k : Nat) (a' : Act) (w' : World) : Prop where mk :: (out : ∃ (out : List S63) (n : Int) (v7 u3 u4 u5 u9 u10 u11 u12 u13 u14 u15 u16 u17 u18 u19 u20 u21 u22 u23 u24 u25 u26 u27 u28 u29 u30 u31 u32 u33 u34 u35 u36 u37 u38 u39 u40 u41 u42 u43 u44 u45 u46 u47 u48 u49 u50 u51 u52 : Value), a' = { tmps := #[.int .i64 a0, .int .i64 a1, .int .i64 a2, u3, u4, u5, .slice none 0 0, v7, .int .i64 n, u9, u10, u11, u12, u13, u14, u15, u16, u17, u18, u19, u20, u21, u22, u23, u24, u25, u26, u27, u28, u29, u30, u31, u32, u33, u34, u35, u36, u37, u38, u39, u40, u41, u42, u43, u44, u45, u46, u47, u48, u49, u50, u51, u52], defers := [] } ∧ 0 ≤ n ∧ n ≤ 32 ∧ out.length + k ≤ 40 ∧ plane_Rows.l k a0 a1 a2 out n = some r ∧ Kd.R k63 63 w' w.heap.size (fun _ => True) v7 out ∧ Below w.heap.size w w')
set_option maxHeartbeats 4000000 in
set_option maxRecDepth 100000 in
theorem plane_Rows.calls (a0 : Int) (a1 : Int) (a2 : Int) (r : List (S63)) (w : World) (h : plane_Rows.f a0 a1 a2 = some r) :
    Calls Try.prog 43 #[.int .i64 a0, .int .i64 a1, .int .i64 a2] w fun e w' => ∃ v0_ : Value, e = .returned (v0_) ∧ Kd.R k63 63 w' w.heap.size (fun _ => True) v0_ r ∧ Below w.heap.size w w' := by
  have hu23 := Try.underlying63
  obtain ⟨g, hg, h2⟩ := Option.bind_eq_some_iff.1 h
  have HG := Aside0.mk hg
  have H0 := Aside0.mk h2
  clear hg h2 h
  go_enter Try.func43, Try.ntmps43
  go_wp2_with (fail)
  refine wp_scope_ghost 0 (fun k a' w' => RowsAt a0 a1 a2 r w k a' w') rfl ?_ ?_
  · rintro k a' w' ⟨out, n, v7, u3, u4, u5, u9, u10, u11, u12, u13, u14, u15, u16, u17, u18, u19, u20, u21, u22, u23, u24, u25, u26, u27, u28, u29, u30, u31, u32, u33, u34, u35, u36, u37, u38, u39, u40, u41, u42, u43, u44, u45, u46, u47, u48, u49, u50, u51, u52, rfl, hn0, hn1, hlen, hl, ho, hb⟩
    cases k with
    | zero => simp [plane_Rows.l] at hl
    | succ k =>
      obtain ⟨p, hp, hl⟩ := Option.bind_eq_some_iff.1 hl
      have HL := Aside0.mk hl
      have HO := Aside0.mk ho
      have HB := Aside0.mk hb
      have HP := Aside0.mk hp
      clear hl ho hb hp
      go_wp2_with (fail)
      go_loopg [8] 40 (fun kq v8 wc => ∃ m : Int, v8 = .int .i64 m ∧ Aside0 (plane_Rows.up kq 0 a2 m = some p) ∧ Aside0 (0 ≤ m ∧ m ≤ 32) ∧ wc = w')
      case atStart => exact ⟨n, rfl, HP, ⟨hn0, hn1⟩, rfl⟩
      case round =>
        obtain ⟨m, rfl, hu, hm, rfl⟩ := hrel
        cases gk with
        | zero => exact absurd hu.out (by simp [plane_Rows.up])
        | succ k2 =>
          obtain ⟨m0, m1⟩ := hm.out
          have H := hu.out
          simp only [plane_Rows.up] at H
          by_cases c1 : m < 32
          · rw [if_pos c1] at H
            have d1 : decide (m < 32) = true := decide_eq_true c1
            have e0 := eq_true m0
            have e1 : decide (0 ≤ m) = true := decide_eq_true m0
            have hz : shr .i64 a2 m = a2 / 2 ^ m.toNat := (shr_small rfl (by have : (IntKind.i64.bits : Int) = 64 := rfl; omega)).symm
            unfold bitOf at H
            rw [hz] at H
            have f32 : (m == 32) = false := beq_eq_false_iff_ne.mpr (by omega)
            have g32 : ¬ (m = 32) := by omega
            by_cases c2 : Go.bits .and .i64 (a2 / 2 ^ m.toNat) 1 = 0
            · rw [if_pos c2] at H
              have b0 : ((Go.bits .and .i64 (a2 / 2 ^ m.toNat) 1) == 0) = true := beq_iff_eq.mpr c2
              have H' := Aside0.mk H
              clear H c1 hu hz
              go_wp2_with (fail)
              go_roundg k2
              case measure => omega
              case rel => exact ⟨m + 1, rfl, H', ⟨by omega, by omega⟩, rfl⟩
            · rw [if_neg c2] at H
              have b0 : ((Go.bits .and .i64 (a2 / 2 ^ m.toNat) 1) == 0) = false := beq_eq_false_iff_ne.mpr c2
              have HL2 := HL.out
              obtain rfl : m = p := Option.some.inj H
              rw [if_neg g32] at HL2
              obtain ⟨q, hq, HL2⟩ := Option.bind_eq_some_iff.1 HL2
              have HQ := Aside0.mk hq
              have HL3 := Aside0.mk HL2
              clear H c1 hu HL HL2 HP hz hq g32
              go_wp2_with (fail)
              clear e0 e1 b0 f32 d1
              go_loopg [8] 40 (fun kq v8 wc => ∃ m2 : Int, v8 = .int .i64 m2 ∧ Aside0 (plane_Rows.up kq 1 a2 m2 = some q) ∧ Aside0 (m ≤ m2 ∧ m2 ≤ 32) ∧ wc = wr.alloc (.cells #[.int .i64 a0, .int .i64 m, .int .i64 a1, .int .i64 0] 63 (0, 0)))
              case atStart => exact ⟨m, rfl, HQ, ⟨by omega, by omega⟩, rfl⟩
              case round =>
                obtain ⟨m2, rfl, hu2, hm2, rfl⟩ := hrel
                cases gk with
                | zero => exact absurd hu2.out (by simp [plane_Rows.up])
                | succ k3 =>
                  obtain ⟨n0, n1⟩ := hm2.out
                  have m20 : 0 ≤ m2 := by omega
                  have H := hu2.out
                  simp only [plane_Rows.up] at H
                  by_cases c1 : m2 < 32
                  · rw [if_pos c1] at H
                    have d1 : decide (m2 < 32) = true := decide_eq_true c1
                    have e0 := eq_true m20
                    have e1 : decide (0 ≤ m2) = true := decide_eq_true m20
                    have hz : shr .i64 a2 m2 = a2 / 2 ^ m2.toNat := (shr_small rfl (by have : (IntKind.i64.bits : Int) = 64 := rfl; omega)).symm
                    unfold bitOf at H
                    rw [hz] at H
                    by_cases c2 : Go.bits .and .i64 (a2 / 2 ^ m2.toNat) 1 = 1
                    · rw [if_pos c2] at H
                      have b0 : ((Go.bits .and .i64 (a2 / 2 ^ m2.toNat) 1) == 1) = true := beq_iff_eq.mpr c2
                      have H' := Aside0.mk H
                      clear H c1 hu2 hz
                      go_wp2_with (fail)
                      go_roundg k3
                      case measure => omega
                      case rel => exact ⟨m2 + 1, rfl, H', ⟨by omega, by have := of_decide_eq_true d1; omega⟩, rfl⟩
                    · rw [if_neg c2] at H
                      have b0 : ((Go.bits .and .i64 (a2 / 2 ^ m2.toNat) 1) == 1) = false := beq_eq_false_iff_ne.mpr c2
                      obtain rfl : m2 = q := Option.some.inj H
                      clear H c1 hu2 hz
                      have hwz : wrap64 (m2 - m) = m2 - m := by unfold wrap64; omega
                      go_wp2_with (first | ((with_reducible refine gate_builtin (b := .append) (xs := #[.tmp 49, .tmp 51]) rfl ?_); refine Kd.R_append k63 (w0 := w) w.heap.size rfl (.tmp 49) (.tmp 51) 43 63 (.agg #[(.int .i64 0), (.int .i64 0), (.int .i64 0), (.int .i64 0)]) 32 rfl Try.underlying43 info63 rfl (by decide) (by omega) v7 out (⟨a0, m, a1, m2 - m⟩ : S63) [.int .i64 a0, .int .i64 m, .int .i64 a1, .int .i64 (m2 - m)] (fun _ => True) (fun _ => False) rfl (congrArg (fun b_ => Value.slice (some ⟨b_, 0, none⟩) 1 1) (show wr.heap.size + 1 = (wr.alloc (.cells #[.int .i64 a0, .int .i64 m, .int .i64 a1, .int .i64 (m2 - m)] 63 (0, 0))).heap.size by simp)) ?aP (fun _ hk => hk.elim) ?aF ?aO ?aB ?aS ?aL ?_; (case aP => exact k63_mkM _ _ _ (⟨a0, m, a1, m2 - m⟩ : S63)); (case aB => exact (by repeat (first | (with_reducible first | exact HB.out | apply below_alloc | apply pw_below_drewN | apply below_drew1) | exact HB.out))); (case aF => exact (fun _ _ => trivial)); (case aO => exact (by (with_reducible repeat (first | apply Kd.R_alloc | apply Kd.R_drewN | apply Kd.R_drew)); exact HO.out)); (case aS => exact (below_size (by repeat (first | (with_reducible first | exact HB.out | apply below_alloc | apply pw_below_drewN | apply below_drew1) | exact HB.out)))); (case aL => omega); intro v165 w31 ho hb hg hat; have n0_ := Aside0.mk (hb); have n1_ := Aside0.mk (ho); clear HB; clear HO; have HB := n0_; have HO166 := n1_; clear n0_ n1_; clear ho hb hg hat))
                      go_step3
                      refine ⟨rfl, k, Nat.lt_succ_self k, ⟨out ++ [(⟨a0, m, a1, m2 - m⟩ : S63)], m2, _, _, _, _, _, _, _, _, _, _, _, _, _, _, _, _, _, _, _, _, _, _, _, _, _, _, _, _, _, _, _, _, _, _, _, _, _, _, _, _, _, _, _, _, _, _, _, _, rfl, by omega, by omega, by simp; omega, HL3.out, HO166.out, HB.out⟩⟩
                  · rw [if_neg c1] at H
                    have d1 : decide (m2 < 32) = false := decide_eq_false c1
                    obtain rfl : m2 = q := Option.some.inj H
                    clear H c1 hu2
                    have hwz : wrap64 (m2 - m) = m2 - m := by unfold wrap64; omega
                    go_wp2_with (first | ((with_reducible refine gate_builtin (b := .append) (xs := #[.tmp 49, .tmp 51]) rfl ?_); refine Kd.R_append k63 (w0 := w) w.heap.size rfl (.tmp 49) (.tmp 51) 43 63 (.agg #[(.int .i64 0), (.int .i64 0), (.int .i64 0), (.int .i64 0)]) 32 rfl Try.underlying43 info63 rfl (by decide) (by omega) v7 out (⟨a0, m, a1, m2 - m⟩ : S63) [.int .i64 a0, .int .i64 m, .int .i64 a1, .int .i64 (m2 - m)] (fun _ => True) (fun _ => False) rfl (congrArg (fun b_ => Value.slice (some ⟨b_, 0, none⟩) 1 1) (show wr.heap.size + 1 = (wr.alloc (.cells #[.int .i64 a0, .int .i64 m, .int .i64 a1, .int .i64 (m2 - m)] 63 (0, 0))).heap.size by simp)) ?aP (fun _ hk => hk.elim) ?aF ?aO ?aB ?aS ?aL ?_; (case aP => exact k63_mkM _ _ _ (⟨a0, m, a1, m2 - m⟩ : S63)); (case aB => exact (by repeat (first | (with_reducible first | exact HB.out | apply below_alloc | apply pw_below_drewN | apply below_drew1) | exact HB.out))); (case aF => exact (fun _ _ => trivial)); (case aO => exact (by (with_reducible repeat (first | apply Kd.R_alloc | apply Kd.R_drewN | apply Kd.R_drew)); exact HO.out)); (case aS => exact (below_size (by repeat (first | (with_reducible first | exact HB.out | apply below_alloc | apply pw_below_drewN | apply below_drew1) | exact HB.out)))); (case aL => omega); intro v165 w31 ho hb hg hat; have n0_ := Aside0.mk (hb); have n1_ := Aside0.mk (ho); clear HB; clear HO; have HB := n0_; have HO166 := n1_; clear n0_ n1_; clear ho hb hg hat))
                    go_step3
                    refine ⟨rfl, k, Nat.lt_succ_self k, ⟨out ++ [(⟨a0, m, a1, m2 - m⟩ : S63)], m2, _, _, _, _, _, _, _, _, _, _, _, _, _, _, _, _, _, _, _, _, _, _, _, _, _, _, _, _, _, _, _, _, _, _, _, _, _, _, _, _, _, _, _, _, _, _, _, _, rfl, by omega, by omega, by simp; omega, HL3.out, HO166.out, HB.out⟩⟩
          · rw [if_neg c1] at H
            have d1 : decide (m < 32) = false := decide_eq_false c1
            obtain rfl : m = p := Option.some.inj H
            obtain rfl : m = 32 := by omega
            have HL2 := HL.out
            rw [if_pos rfl] at HL2
            obtain rfl := Option.some.inj HL2
            clear H c1 hu HL HL2 HP
            go_wp2_with (fail)
            simp only [Exit.jump]
            go_ret
            exact ⟨_, rfl, HO.out, HB.out⟩
  · intro HR
    cases g with
    | false =>
      obtain rfl : r = [] := by simpa using H0.out.symm
      go_wp2_with (go_at_call 51; refine (plane_Good.calls a0 0 a1 1 false _ HG.out).mono ?_; rintro e w1 ⟨rfl, hb⟩)
      simp only [Exit.jump]
      go_ret
      exact ⟨_, rfl, Kd.R_nil _ _ _ _ _, hb⟩
    | true =>
      have H1 : plane_Rows.l 40 a0 a1 a2 [] 0 = some r := by simpa using H0.out
      clear H0
      go_wp2_with (go_at_call 51; refine (plane_Good.calls a0 0 a1 1 true _ HG.out).mono ?_; rintro e w1 ⟨rfl, hb⟩)
      go_step3
      go_step
      rename_i aK
      exact aK _ _ <| HR 40 _ _ ⟨[], 0, _, _, _, _, _, _, _, _, _, _, _, _, _, _, _, _, _, _, _, _, _, _, _, _, _, _, _, _, _, _, _, _, _, _, _, _, _, _, _, _, _, _, _, _, _, _, _, _, rfl, by omega, by omega, by simp, H1, Kd.R_nil _ _ _ _ _, hb⟩
end Go.Proofs.Ytkhfgflcanmefaa.PAll
end
section
namespace Go.Proofs.Ytkhfgflcanmefaa.PAll
open Go.RowKit Go.Proofs.YtkhfgflcanmefaaW.PrintWords Go.Proofs.YtkhfgflcanmefaaW.PrintLast Go.Proofs.YtkhfgflcanmefaaW.PrintMore
attribute [local go_sem] max2_int min2_int max_two min_two max_three min_three max_four min_four   -- for this text's walks alone
set_option linter.unusedVariables false
set_option linter.unusedSimpArgs false

def slices_Clip_Box.f (l0 : List (S63)) : Option (List (S63)) := some l0
theorem slices_Clip_Box.cut (A : Option Addr) (n c : Nat) (hm : n ≤ c) : ∀ W : World, (Instr.slice 43 (.slice A n c) none (some (.int .i64 (n : Int))) (some (.int .i64 (n : Int)))).run Try.prog W = .ok (.slice A n n) W := by
  intro W
  obtain ⟨i0, hi, _, hsz, _⟩ := info_parts info63
  have ha : (A.map fun x => x.add 0) = A := by cases A <;> simp [Addr.add]
  have hn : (n : Int) ≤ (c : Int) := by omega
  simp [Instr.slice, run_underlying Try.underlying43, Instr.sliceBounds, run_sliceBound, sizeOf, typeInfo, hi, Result.andThen, ha, hn]
set_option maxHeartbeats 8000000 in
set_option maxRecDepth 100000 in
theorem slices_Clip_Box.calls (P0_ : Nat → Prop) (A0 : Option Addr) (c0 : Nat) (l0 : List (S63)) (r : List (S63)) (w : World) (hs0 : Kd.V k63 63 w w.heap.size (fun k_ => P0_ k_) (.slice A0 l0.length c0) l0) (h : slices_Clip_Box.f l0 = some r) :
    Calls Try.prog 44 #[.slice A0 l0.length c0] w fun e w' => ∃ v0_ : Value, e = .returned (v0_) ∧ Kd.V k63 63 w' w.heap.size (fun k_ => (P0_ k_ ∨ w.heap.size ≤ k_)) v0_ r ∧ Below w.heap.size w w' := by
  obtain rfl := Option.some.inj h
  have HO0 := Aside0.mk (show Kd.V k63 63 w w.heap.size (fun k_ => (P0_ k_ ∨ w.heap.size ≤ k_)) (.slice A0 l0.length l0.length) l0 from Kd.V_mk (Nat.le_refl _) (Kd.F_mono (Kd.V_F hs0) (fun k_ hk => .inl hk)))
  have hc := (Kd.V_reads' hs0).2.1
  have hcut := slices_Clip_Box.cut A0 l0.length c0 hc
  clear hs0 hc
  go_enter Try.func44, Try.ntmps44
  go_wp2
  go_ret
  exact ⟨_, rfl, HO0.out, Below.refl _ _⟩
end Go.Proofs.Ytkhfgflcanmefaa.PAll
end
section
namespace Go.Proofs.Ytkhfgflcanmefaa.PAll
open Go.RowKit Go.Proofs.YtkhfgflcanmefaaW.PrintWords Go.Proofs.YtkhfgflcanmefaaW.PrintLast Go.Proofs.YtkhfgflcanmefaaW.PrintMore
attribute [local go_sem] max2_int min2_int max_two min_two max_three min_three max_four min_four   -- for this text's walks alone
set_option linter.unusedVariables false
set_option linter.unusedSimpArgs false

def job_Boxes.l0 : Nat → List (S63) → List (S32) → Int → Int → Option ((List (S63)))
 | 0, _, _, _, _ => none
 | k + 1, x3, x7, x8, x9 => if x9 < x8 then (if 0 ≤ x9 then (if x9 < (x7.length : Int) then ((plane_Rows.f ((rd_T32 x7 x9).f8) ((rd_T32 x7 x9).f3) ((rd_T32 x7 x9).f9)).bind fun t258 => (if x3.length + t258.length < 4398046511104 then (job_Boxes.l0 k (x3 ++ t258) x7 x8 (wrap64 (x9 + 1))) else (none))) else (none)) else (none)) else ((slices_Clip_Box.f x3).bind fun t264 => (some t264))
def job_Boxes.f (k : Nat) (l0 : List (S32)) : Option ((List (S63))) := (job_running.f k l0).bind fun t253 => (job_Boxes.l0 k ([] : List (S63)) t253 (t253.length : Int) 0)
theorem job_Boxes.mono_l : ∀ k, (∀ y0 y1 y2 y3, LeO (job_Boxes.l0 k y0 y1 y2 y3) (job_Boxes.l0 (k + 1) y0 y1 y2 y3))
 | 0 => fun _ _ _ _ r h => by simp [job_Boxes.l0] at h
 | k + 1 => by
  have ih0 := job_Boxes.mono_l k
  ·intro y0 y1 y2 y3
   unfold job_Boxes.l0
   repeat' first
   | (with_reducible exact ih0 _ _ _ _)
   | (with_reducible exact job_running.mono _ _)
   | (with_reducible exact LeO.refl _)
   | (with_reducible exact LeO.none _)
   | (with_reducible refine LeO.ite ?_ ?_)
   | (with_reducible refine LeO.bind ?_ (fun _ => ?_))
   | exact ih0 _ _ _ _
   | exact job_running.mono _ _
   | exact LeO.none _
   | refine LeO.ite ?_ ?_
   | refine LeO.bind ?_ (fun _ => ?_)
theorem job_Boxes.mono : ∀ a0 k, LeO (job_Boxes.f k a0) (job_Boxes.f (k + 1) a0) := by
 intro a0 k
 have ih0 := job_Boxes.mono_l k
 unfold job_Boxes.f
 repeat' first
   | (with_reducible exact ih0 _ _ _ _)
   | (with_reducible exact job_running.mono _ _)
   | (with_reducible exact LeO.refl _)
   | (with_reducible exact LeO.none _)
   | (with_reducible refine LeO.ite ?_ ?_)
   | (with_reducible refine LeO.bind ?_ (fun _ => ?_))
   | exact ih0 _ _ _ _
   | exact job_running.mono _ _
   | exact LeO.none _
   | refine LeO.ite ?_ ?_
   | refine LeO.bind ?_ (fun _ => ?_)
set_option maxHeartbeats 8000000 in
set_option maxRecDepth 100000 in
theorem job_Boxes.calls (k : Nat) (A0 : Option Addr) (c0 : Nat) (l0 : List (S32)) (r : List (S63)) (w : World) (hr0 : Kd.C k32 w A0 l0.length l0) (hc0 : l0.length ≤ c0) (h : job_Boxes.f k l0 = some r) :
  Calls Try.prog 25 #[.slice A0 l0.length c0] w fun e w' => ∃ v0_ : Value, e = .returned (v0_) ∧ Kd.V k63 63 w' w.heap.size (fun k_ => (w.heap.size ≤ k_)) v0_ r ∧ Below w.heap.size w w' := by
 have hu32 := Try.underlying32
 have HR0 := Aside0.mk hr0
 have HC0 := Aside0.mk hc0
 clear hr0; clear hc0
 have HB := Aside0.mk (Below.refl w.heap.size w)
 have H : ((job_running.f k l0).bind fun t253 => (job_Boxes.l0 k ([] : List (S63)) t253 (t253.length : Int) 0)) = some r := h
 clear h
 replace H := Option.bind_eq_some_iff.mp H
 obtain ⟨t253, A20, H⟩ := H
 replace H : (job_Boxes.l0 k ([] : List (S63)) t253 (t253.length : Int) 0) = some r := H
 have A2 := Aside0.mk A20
 clear A20
 have H' := Aside0.mk H
 clear H
 go_enter Try.func25, Try.ntmps25
 go_wp2_with (first | ((with_reducible refine gate_callee (f := 41) rfl ?_); refine goesL_ (some 7) rfl rfl Try.func41 (by kernel_rfl) rfl #[.slice A0 l0.length c0] rfl mt ?_; (with_reducible refine (job_running.calls k _ _ l0 t253 _ ?side1 ?side2 A2.out).mono ?_); (case side1 => exact mC HR0.out); (case side2 => exact HC0.out); rintro e w3 ⟨v254, rfl, ho0, hb⟩; refine ⟨_, rfl, ?_⟩; have n0_ := Aside0.mk (Kd.R_lower (Kd.R_newM (M := fun k_ => (w.heap.size ≤ k_)) ho0 (below_size (mB HB.out)) (fun k_ h_ => h_)) (below_size (mB HB.out))); have n1_ := Aside0.mk (below_step (mB HB.out) hb); clear HB; have HO255 := n0_; have HB := n1_; clear n0_ n1_; (try clear hb); (try clear hb2); (try clear hk); (try clear hi); (try clear ho0); obtain ⟨Ao4, co4, eo4⟩ := Kd.R_slice HO255.out; subst eo4))
 go_loopg [3, 9] k (fun kq v3 v9 w' => ∃ (x3_1 : List (S63)) (x9_1 : Int), v9 = .int .i64 x9_1 ∧ Aside0 (job_Boxes.l0 kq x3_1 t253 (t253.length : Int) x9_1 = some r) ∧ Aside0 (kq ≤ k) ∧ Aside0 (Kd.R k63 63 w' w.heap.size (fun k_ => (w.heap.size ≤ k_)) v3 x3_1) ∧ Aside0 (Kd.R k32 32 w' w.heap.size (fun k_ => (w.heap.size ≤ k_)) (.slice Ao4 t253.length co4) t253) ∧ Aside0 (Below w.heap.size w w'))
 case atStart => exact ⟨(([] : List (S63))), (0), ez, H', ⟨Nat.le_refl _⟩, ⟨by first | exact Kd.R_nil _ _ _ _ _ | exact Kd.N_nil _ _ _ _ _ | exact Kd.V_nil _ _ _ _ _ | exact Kd.Q_nil _ _ _ _ _ | exact Kd.S_nil _ _ _ _ _⟩, ⟨by (with_reducible repeat (first | apply Kd.R_alloc | apply Kd.R_drewN | apply Kd.R_drew)); exact Kd.R_mono HO255.out (fun _ hk => hk.1)⟩, ⟨mB HB.out⟩⟩
 case round =>
  clear H'
  (try clear c2); (try clear p2); (try clear c4)
  obtain ⟨x3_1, x9_1, rfl, HA, HK1, HO_3, HO_7, HB⟩ := hrel
  cases gk with
  | zero => exact absurd HA.out (by simp [job_Boxes.l0])
  | succ k1 =>
   have H := HA.out
   clear HA
   simp only [job_Boxes.l0] at H
   by_cases c5 : x9_1 < (t253.length : Int)
   ·rw [if_pos c5] at H
    have c5b0 : decide (x9_1 < (t253.length : Int)) = true := decide_eq_true c5
    clear c5
    by_cases c6 : 0 ≤ x9_1
    ·rw [if_pos c6] at H
     have c6b0 : decide (0 ≤ x9_1) = true := decide_eq_true c6
     clear c6
     by_cases c7 : x9_1 < (t253.length : Int)
     ·rw [if_pos c7] at H
      have c7b0 : decide (x9_1 < (t253.length : Int)) = true := decide_eq_true c7
      clear c7
      replace H := Option.bind_eq_some_iff.mp H
      obtain ⟨t258, A80, H⟩ := H
      replace H : (if x3_1.length + t258.length < 4398046511104 then (job_Boxes.l0 k1 (x3_1 ++ t258) t253 (t253.length : Int) (wrap64 (x9_1 + 1))) else (none)) = some r := H
      have A8 := Aside0.mk A80
      clear A80
      by_cases c9 : x3_1.length + t258.length < 4398046511104
      ·rw [if_pos c9] at H
       have LMc9 := Aside0.mk c9
       clear c9
       obtain ⟨y261, hy261⟩ : ∃ y_ : List (S63), y_ = (x3_1 ++ t258) := ⟨_, rfl⟩
       replace H : (job_Boxes.l0 k1 y261 t253 (t253.length : Int) (wrap64 (x9_1 + 1))) = some r := mH hy261 H
       have Ny261 := Aside0.mk hy261
       clear hy261
       have H' := Aside0.mk H
       clear H
       have p256 : 0 ≤ (x9_1 : Int) := oda
       have q256 : x9_1 < (t253.length : Int) := oda
       obtain ⟨ad256, e256, hx256_0, hx256_1, hx256_2, hx256_3, hx256_4, hx256_5, hx256_6, hx256_7, hx256_8, hx256_9, hx256_10, hx256_11⟩ := at_T32 (Kd.R_reads' HO_7.out).2.2 x9_1 p256 q256
       cases e256
       replace p256 := eq_true p256
       replace q256 := eq_true q256
       go_wp2_with (first | ((with_reducible refine gate_dst (N := 5) rfl ?_); refine box_event ?hg (N := 5) ?hd (cs := #[.int .i64 0, .int .i64 0, .int .i64 0, .int .i64 0, .int .i64 0, .int .i64 0, .int .i64 0, .int .i64 0, .int .i64 0, .int .i64 0, .int .i64 0, .slice none 0 0]) (t := 32) ?hr ?_; (case hd => rfl); (case hg => rfl); (case hr => first | (go_simp; done) | (go_simp; rfl)); intro gb257 hg w10 hbox hb; have n0_ := Aside0.mk (Kd.R_below (mR HO_3.out) hb); have n1_ := Aside0.mk (Kd.R_below (Kd.R_elderB (mR HO_7.out) gb257 (Nat.le_of_eq hg.symm)) hb); have n2_ := Aside0.mk (below_step (mB HB.out) hb); have n3_ := Aside0.mk (hbox); have n4_ := Aside0.mk ((by rw [hg]; exact (below_size (mB HB.out)) : w.heap.size ≤ gb257)); have n5_ := Aside0.mk ((by rw [hg]; exact (below_size (mB HB.out)) : w.heap.size ≤ gb257)); clear HO_3; clear HO_7; clear HB; have HO_3 := n0_; have HO_7 := n1_; have HB := n2_; have BK257 := n3_; have GW257 := n4_; have GE257 := n5_; clear n0_ n1_ n2_ n3_ n4_ n5_; clear hb hbox hg; have hcz11_0 : w10.cell? ⟨gb257, 0, none⟩ = some (.int .i64 0) := (blk_cell BK257.out 0).trans rfl; have hcz11_1 : w10.cell? ⟨gb257, 1, none⟩ = some (.int .i64 0) := (blk_cell BK257.out 1).trans rfl; have hcz11_2 : w10.cell? ⟨gb257, 2, none⟩ = some (.int .i64 0) := (blk_cell BK257.out 2).trans rfl; have hcz11_3 : w10.cell? ⟨gb257, 3, none⟩ = some (.int .i64 0) := (blk_cell BK257.out 3).trans rfl; have hcz11_4 : w10.cell? ⟨gb257, 4, none⟩ = some (.int .i64 0) := (blk_cell BK257.out 4).trans rfl; have hcz11_5 : w10.cell? ⟨gb257, 5, none⟩ = some (.int .i64 0) := (blk_cell BK257.out 5).trans rfl; have hcz11_6 : w10.cell? ⟨gb257, 6, none⟩ = some (.int .i64 0) := (blk_cell BK257.out 6).trans rfl; have hcz11_7 : w10.cell? ⟨gb257, 7, none⟩ = some (.int .i64 0) := (blk_cell BK257.out 7).trans rfl; have hcz11_8 : w10.cell? ⟨gb257, 8, none⟩ = some (.int .i64 0) := (blk_cell BK257.out 8).trans rfl; have hcz11_9 : w10.cell? ⟨gb257, 9, none⟩ = some (.int .i64 0) := (blk_cell BK257.out 9).trans rfl; have hcz11_10 : w10.cell? ⟨gb257, 10, none⟩ = some (.int .i64 0) := (blk_cell BK257.out 10).trans rfl; have hcz11_11 : w10.cell? ⟨gb257, 11, none⟩ = some (.slice none 0 0) := (blk_cell BK257.out 11).trans rfl; have hfz11_0 := blk_frozen BK257.out 0; have hfz11_1 := blk_frozen BK257.out 1; have hfz11_2 := blk_frozen BK257.out 2; have hfz11_3 := blk_frozen BK257.out 3; have hfz11_4 := blk_frozen BK257.out 4; have hfz11_5 := blk_frozen BK257.out 5; have hfz11_6 := blk_frozen BK257.out 6; have hfz11_7 := blk_frozen BK257.out 7; have hfz11_8 := blk_frozen BK257.out 8; have hfz11_9 := blk_frozen BK257.out 9; have hfz11_10 := blk_frozen BK257.out 10; have hfz11_11 := blk_frozen BK257.out 11) | ((with_reducible refine gate_callee (f := 43) rfl ?_); refine goesL_ (some 20) rfl rfl Try.func43 (by kernel_rfl) rfl #[.int .i64 ((rd_T32 t253 x9_1).f8), .int .i64 ((rd_T32 t253 x9_1).f3), .int .i64 ((rd_T32 t253 x9_1).f9)] rfl mt ?_; (with_reducible refine (plane_Rows.calls ((rd_T32 t253 x9_1).f8) ((rd_T32 t253 x9_1).f3) ((rd_T32 t253 x9_1).f9) t258 _ A8.out).mono ?_); rintro e w12 ⟨v259, rfl, ho0, hb⟩; refine ⟨_, rfl, ?_⟩; have n0_ := Aside0.mk (Kd.R_elder' (by (with_reducible repeat (first | apply Kd.R_alloc | apply Kd.R_drewN | apply Kd.R_drew)); exact (Kd.R_mono (Kd.R_fa gb257 11 (Kd.R_fa gb257 10 (Kd.R_fa gb257 9 (Kd.R_fa gb257 8 (Kd.R_fa gb257 7 (Kd.R_fa gb257 6 (Kd.R_fa gb257 5 (Kd.R_fa gb257 4 (Kd.R_fa gb257 3 (Kd.R_fa gb257 2 (Kd.R_fa gb257 1 (Kd.R_fa gb257 0 (Kd.R_types HO_3.out BK257.out (by decide)) (.int .i64 ((rd_T32 t253 x9_1).f0))) (.int .i64 ((rd_T32 t253 x9_1).f1))) (.int .i64 ((rd_T32 t253 x9_1).f2))) (.int .i64 ((rd_T32 t253 x9_1).f3))) (.int .i64 ((rd_T32 t253 x9_1).f4))) (.int .i64 ((rd_T32 t253 x9_1).f5))) (.int .i64 ((rd_T32 t253 x9_1).f6))) (.int .i64 ((rd_T32 t253 x9_1).f7))) (.int .i64 ((rd_T32 t253 x9_1).f8))) (.int .i64 ((rd_T32 t253 x9_1).f9))) (.int .i64 ((rd_T32 t253 x9_1).f10))) (.slice ((rd_T32 t253 x9_1).f11).A ((rd_T32 t253 x9_1).f11).n ((rd_T32 t253 x9_1).f11).c)) (fun _ h_ => h_.1))) (Kd.R_base ho0) hb); have n1_ := Aside0.mk (Kd.R_below (by (with_reducible repeat (first | apply Kd.R_alloc | apply Kd.R_drewN | apply Kd.R_drew)); exact (Kd.R_mono (Kd.R_fa gb257 11 (Kd.R_fa gb257 10 (Kd.R_fa gb257 9 (Kd.R_fa gb257 8 (Kd.R_fa gb257 7 (Kd.R_fa gb257 6 (Kd.R_fa gb257 5 (Kd.R_fa gb257 4 (Kd.R_fa gb257 3 (Kd.R_fa gb257 2 (Kd.R_fa gb257 1 (Kd.R_fa gb257 0 (Kd.R_mono HO_7.out (fun k_ hk => (⟨hk, hk.2⟩ : _ ∧ k_ ≠ gb257))) (.int .i64 ((rd_T32 t253 x9_1).f0))) (.int .i64 ((rd_T32 t253 x9_1).f1))) (.int .i64 ((rd_T32 t253 x9_1).f2))) (.int .i64 ((rd_T32 t253 x9_1).f3))) (.int .i64 ((rd_T32 t253 x9_1).f4))) (.int .i64 ((rd_T32 t253 x9_1).f5))) (.int .i64 ((rd_T32 t253 x9_1).f6))) (.int .i64 ((rd_T32 t253 x9_1).f7))) (.int .i64 ((rd_T32 t253 x9_1).f8))) (.int .i64 ((rd_T32 t253 x9_1).f9))) (.int .i64 ((rd_T32 t253 x9_1).f10))) (.slice ((rd_T32 t253 x9_1).f11).A ((rd_T32 t253 x9_1).f11).n ((rd_T32 t253 x9_1).f11).c)) (fun _ h_ => h_.1))) hb); have n2_ := Aside0.mk (Kd.R_lower (Kd.R_new' (Kd.R_newM (M := fun k_ => (w.heap.size ≤ k_)) ho0 (below_size (mBs HB.out)) (fun k_ h_ => h_)) (Kd.R_lt (by (with_reducible repeat (first | apply Kd.R_alloc | apply Kd.R_drewN | apply Kd.R_drew)); exact (Kd.R_mono (Kd.R_fa gb257 11 (Kd.R_fa gb257 10 (Kd.R_fa gb257 9 (Kd.R_fa gb257 8 (Kd.R_fa gb257 7 (Kd.R_fa gb257 6 (Kd.R_fa gb257 5 (Kd.R_fa gb257 4 (Kd.R_fa gb257 3 (Kd.R_fa gb257 2 (Kd.R_fa gb257 1 (Kd.R_fa gb257 0 (Kd.R_types HO_3.out BK257.out (by decide)) (.int .i64 ((rd_T32 t253 x9_1).f0))) (.int .i64 ((rd_T32 t253 x9_1).f1))) (.int .i64 ((rd_T32 t253 x9_1).f2))) (.int .i64 ((rd_T32 t253 x9_1).f3))) (.int .i64 ((rd_T32 t253 x9_1).f4))) (.int .i64 ((rd_T32 t253 x9_1).f5))) (.int .i64 ((rd_T32 t253 x9_1).f6))) (.int .i64 ((rd_T32 t253 x9_1).f7))) (.int .i64 ((rd_T32 t253 x9_1).f8))) (.int .i64 ((rd_T32 t253 x9_1).f9))) (.int .i64 ((rd_T32 t253 x9_1).f10))) (.slice ((rd_T32 t253 x9_1).f11).A ((rd_T32 t253 x9_1).f11).n ((rd_T32 t253 x9_1).f11).c)) (fun _ h_ => h_.1))))) (below_size (mBs HB.out))); have n3_ := Aside0.mk (blk_below (g := gb257) (o := .cells (cJ (rd_T32 t253 x9_1)) 32 (0, 0)) (by (with_reducible repeat first | apply blk_drewN | apply blk_drew | apply blk_alloc); refine blk_put (cs := #[.int .i64 ((rd_T32 t253 x9_1).f0), .int .i64 ((rd_T32 t253 x9_1).f1), .int .i64 ((rd_T32 t253 x9_1).f2), .int .i64 ((rd_T32 t253 x9_1).f3), .int .i64 ((rd_T32 t253 x9_1).f4), .int .i64 ((rd_T32 t253 x9_1).f5), .int .i64 ((rd_T32 t253 x9_1).f6), .int .i64 ((rd_T32 t253 x9_1).f7), .int .i64 ((rd_T32 t253 x9_1).f8), .int .i64 ((rd_T32 t253 x9_1).f9), .int .i64 ((rd_T32 t253 x9_1).f10), .slice none 0 0]) ?_ 11 _ rfl; (with_reducible repeat first | apply blk_drewN | apply blk_drew | apply blk_alloc); refine blk_put (cs := #[.int .i64 ((rd_T32 t253 x9_1).f0), .int .i64 ((rd_T32 t253 x9_1).f1), .int .i64 ((rd_T32 t253 x9_1).f2), .int .i64 ((rd_T32 t253 x9_1).f3), .int .i64 ((rd_T32 t253 x9_1).f4), .int .i64 ((rd_T32 t253 x9_1).f5), .int .i64 ((rd_T32 t253 x9_1).f6), .int .i64 ((rd_T32 t253 x9_1).f7), .int .i64 ((rd_T32 t253 x9_1).f8), .int .i64 ((rd_T32 t253 x9_1).f9), .int .i64 0, .slice none 0 0]) ?_ 10 _ rfl; (with_reducible repeat first | apply blk_drewN | apply blk_drew | apply blk_alloc); refine blk_put (cs := #[.int .i64 ((rd_T32 t253 x9_1).f0), .int .i64 ((rd_T32 t253 x9_1).f1), .int .i64 ((rd_T32 t253 x9_1).f2), .int .i64 ((rd_T32 t253 x9_1).f3), .int .i64 ((rd_T32 t253 x9_1).f4), .int .i64 ((rd_T32 t253 x9_1).f5), .int .i64 ((rd_T32 t253 x9_1).f6), .int .i64 ((rd_T32 t253 x9_1).f7), .int .i64 ((rd_T32 t253 x9_1).f8), .int .i64 0, .int .i64 0, .slice none 0 0]) ?_ 9 _ rfl; (with_reducible repeat first | apply blk_drewN | apply blk_drew | apply blk_alloc); refine blk_put (cs := #[.int .i64 ((rd_T32 t253 x9_1).f0), .int .i64 ((rd_T32 t253 x9_1).f1), .int .i64 ((rd_T32 t253 x9_1).f2), .int .i64 ((rd_T32 t253 x9_1).f3), .int .i64 ((rd_T32 t253 x9_1).f4), .int .i64 ((rd_T32 t253 x9_1).f5), .int .i64 ((rd_T32 t253 x9_1).f6), .int .i64 ((rd_T32 t253 x9_1).f7), .int .i64 0, .int .i64 0, .int .i64 0, .slice none 0 0]) ?_ 8 _ rfl; (with_reducible repeat first | apply blk_drewN | apply blk_drew | apply blk_alloc); refine blk_put (cs := #[.int .i64 ((rd_T32 t253 x9_1).f0), .int .i64 ((rd_T32 t253 x9_1).f1), .int .i64 ((rd_T32 t253 x9_1).f2), .int .i64 ((rd_T32 t253 x9_1).f3), .int .i64 ((rd_T32 t253 x9_1).f4), .int .i64 ((rd_T32 t253 x9_1).f5), .int .i64 ((rd_T32 t253 x9_1).f6), .int .i64 0, .int .i64 0, .int .i64 0, .int .i64 0, .slice none 0 0]) ?_ 7 _ rfl; (with_reducible repeat first | apply blk_drewN | apply blk_drew | apply blk_alloc); refine blk_put (cs := #[.int .i64 ((rd_T32 t253 x9_1).f0), .int .i64 ((rd_T32 t253 x9_1).f1), .int .i64 ((rd_T32 t253 x9_1).f2), .int .i64 ((rd_T32 t253 x9_1).f3), .int .i64 ((rd_T32 t253 x9_1).f4), .int .i64 ((rd_T32 t253 x9_1).f5), .int .i64 0, .int .i64 0, .int .i64 0, .int .i64 0, .int .i64 0, .slice none 0 0]) ?_ 6 _ rfl; (with_reducible repeat first | apply blk_drewN | apply blk_drew | apply blk_alloc); refine blk_put (cs := #[.int .i64 ((rd_T32 t253 x9_1).f0), .int .i64 ((rd_T32 t253 x9_1).f1), .int .i64 ((rd_T32 t253 x9_1).f2), .int .i64 ((rd_T32 t253 x9_1).f3), .int .i64 ((rd_T32 t253 x9_1).f4), .int .i64 0, .int .i64 0, .int .i64 0, .int .i64 0, .int .i64 0, .int .i64 0, .slice none 0 0]) ?_ 5 _ rfl; (with_reducible repeat first | apply blk_drewN | apply blk_drew | apply blk_alloc); refine blk_put (cs := #[.int .i64 ((rd_T32 t253 x9_1).f0), .int .i64 ((rd_T32 t253 x9_1).f1), .int .i64 ((rd_T32 t253 x9_1).f2), .int .i64 ((rd_T32 t253 x9_1).f3), .int .i64 0, .int .i64 0, .int .i64 0, .int .i64 0, .int .i64 0, .int .i64 0, .int .i64 0, .slice none 0 0]) ?_ 4 _ rfl; (with_reducible repeat first | apply blk_drewN | apply blk_drew | apply blk_alloc); refine blk_put (cs := #[.int .i64 ((rd_T32 t253 x9_1).f0), .int .i64 ((rd_T32 t253 x9_1).f1), .int .i64 ((rd_T32 t253 x9_1).f2), .int .i64 0, .int .i64 0, .int .i64 0, .int .i64 0, .int .i64 0, .int .i64 0, .int .i64 0, .int .i64 0, .slice none 0 0]) ?_ 3 _ rfl; (with_reducible repeat first | apply blk_drewN | apply blk_drew | apply blk_alloc); refine blk_put (cs := #[.int .i64 ((rd_T32 t253 x9_1).f0), .int .i64 ((rd_T32 t253 x9_1).f1), .int .i64 0, .int .i64 0, .int .i64 0, .int .i64 0, .int .i64 0, .int .i64 0, .int .i64 0, .int .i64 0, .int .i64 0, .slice none 0 0]) ?_ 2 _ rfl; (with_reducible repeat first | apply blk_drewN | apply blk_drew | apply blk_alloc); refine blk_put (cs := #[.int .i64 ((rd_T32 t253 x9_1).f0), .int .i64 0, .int .i64 0, .int .i64 0, .int .i64 0, .int .i64 0, .int .i64 0, .int .i64 0, .int .i64 0, .int .i64 0, .int .i64 0, .slice none 0 0]) ?_ 1 _ rfl; (with_reducible repeat first | apply blk_drewN | apply blk_drew | apply blk_alloc); refine blk_put (cs := #[.int .i64 0, .int .i64 0, .int .i64 0, .int .i64 0, .int .i64 0, .int .i64 0, .int .i64 0, .int .i64 0, .int .i64 0, .int .i64 0, .int .i64 0, .slice none 0 0]) ?_ 0 _ rfl; (with_reducible repeat first | apply blk_drewN | apply blk_drew | apply blk_alloc); exact BK257.out) hb); have n4_ := Aside0.mk (below_step (mBs HB.out) hb); clear HO_3; clear HO_7; clear BK257; clear HB; have HO_3 := n0_; have HO_7 := n1_; have HO260 := n2_; have BK257 := n3_; have HB := n4_; clear n0_ n1_ n2_ n3_ n4_; (try clear hb); (try clear hb2); (try clear hk); (try clear hi); (try clear ho0); obtain ⟨Ao14, co14, eo14⟩ := Kd.R_slice HO260.out; subst eo14) | ((with_reducible refine gate_builtin (b := .append) (xs := #[.tmp 13, .tmp 20]) rfl ?_); at_builtin; refine Kd.R_append_rows k63 (w0 := w) w.heap.size rfl (.tmp 13) (.tmp 20) 43 63 (.agg #[(.int .i64 0), (.int .i64 0), (.int .i64 0), (.int .i64 0)]) 32 rfl Try.underlying43 info63 rfl (by decide) (by omega) u3 x3_1 t258 _ _ _ (fun k_ => (w.heap.size ≤ k_) ∧ some k_ ≠ (.slice Ao14 t258.length co14 : Value).ownBlock) (fun _ => False) rfl rfl ?aO ?aR (fun _ _ h => h) (fun _ h => h.elim) ?aF ?aB ?aS ?aL ?_; (case aR => repeat (first | exact (Kd.R_reads' HO260.out).2.2 | (with_reducible refine Kd.C_alloc ?_ _) | (with_reducible refine Kd.C_drewN ?_ _) | (with_reducible refine Kd.C_drew ?_))); (case aB => exact (mBs HB.out)); (case aF => exact (fun k_ hk => ⟨(Nat.le_trans (below_size (mBs HB.out)) hk), Kd.fresh' (Kd.R_lt (mR HO260.out)) k_ hk⟩)); (case aO => exact (mR HO_3.out)); (case aS => exact (below_size (mBs HB.out))); (case aL => have := LMc9.out; omega); intro v262 w13 ho hb hg hat; rw [← Ny261.out] at ho; have n0_ := Aside0.mk (Kd.R_over' (mR HO_7.out) (Kd.R_typed (mR HO_3.out)) (by decide) hg); have n1_ := Aside0.mk (blk_grown (g := gb257) (o := .cells (cJ (rd_T32 t253 x9_1)) 32 (0, 0)) (mBK BK257.out) hg (Kd.R_ne HO_3.out BK257.out (by decide))); have n2_ := Aside0.mk (Kd.R_after (ok := (fun k_ => (w.heap.size ≤ k_))) (by (with_reducible repeat (first | apply Kd.R_alloc | apply Kd.R_drewN | apply Kd.R_drew)); exact Kd.R_mono HO260.out (fun _ hk => ⟨hk.1.1, hk.2⟩)) hg hat); have n3_ := Aside0.mk (hb); have n4_ := Aside0.mk (ho); clear HO_7; clear BK257; clear HO260; clear HB; clear HO_3; have HO_7 := n0_; have BK257 := n1_; have HO260 := n2_; have HB := n3_; have HO263 := n4_; clear n0_ n1_ n2_ n3_ n4_; clear ho hb hg hat))
       go_roundg k1
       case measure => have := HK1.out; omega
       case rel => exact ⟨(y261), (wrap64 (x9_1 + 1)), ez, H', ⟨by have := HK1.out; omega⟩, ⟨by (with_reducible repeat (first | apply Kd.R_alloc | apply Kd.R_drewN | apply Kd.R_drew)); exact Kd.R_mono HO263.out (fun _ hk => hk.1)⟩, ⟨by (with_reducible repeat (first | apply Kd.R_alloc | apply Kd.R_drewN | apply Kd.R_drew)); exact Kd.R_mono HO_7.out (fun _ hk => hk.1)⟩, ⟨mBs HB.out⟩⟩
      ·rw [if_neg c9] at H
       exact absurd H (by simp)
     ·rw [if_neg c7] at H
      exact absurd H (by simp)
    ·rw [if_neg c6] at H
     exact absurd H (by simp)
   ·rw [if_neg c5] at H
    have c5b0 : decide (x9_1 < (t253.length : Int)) = false := decide_eq_false c5
    clear c5
    replace H := Option.bind_eq_some_iff.mp H
    obtain ⟨t264, A150, H⟩ := H
    replace H : (some t264) = some r := H
    have A15 := Aside0.mk A150
    clear A150
    obtain rfl := Option.some.inj H
    obtain ⟨Ao16, co16, eo16⟩ := Kd.R_slice HO_3.out
    subst eo16
    go_wp2_with (first | ((with_reducible refine gate_callee (f := 44) rfl ?_); refine goesL_ (some 24) rfl rfl Try.func44 (by kernel_rfl) rfl #[.slice Ao16 x3_1.length co16] rfl mt ?_; (with_reducible refine (slices_Clip_Box.calls (fun k_ => some k_ = (.slice Ao16 x3_1.length co16 : Value).ownBlock) _ _ x3_1 t264 _ ?side1 A15.out).mono ?_); (case side1 => exact Kd.R_V (Kd.R_tight rfl (Kd.R_apart' (HO_3.out) (Kd.R_typed HO_7.out) (by decide)))); rintro e w17 ⟨v265, rfl, ho0, hb⟩; refine ⟨_, rfl, ?_⟩; have n0_ := Aside0.mk (Kd.R_below (mR HO_3.out) hb); have n1_ := Aside0.mk (Kd.R_below (mR HO_7.out) hb); have n2_ := Aside0.mk (Kd.V_lower (Kd.V_mono (ok' := fun k_ => (w.heap.size ≤ k_) ∧ some k_ ≠ (.slice Ao4 t253.length co4 : Value).ownBlock) ho0 (fun k_ hk_ => ⟨Or.elim hk_ (fun hs_ => ((Kd.R_apart' (HO_3.out) (Kd.R_typed HO_7.out) (by decide)).1 k_ hs_.symm).1) (fun hn_ => (Nat.le_trans (below_size (mB HB.out)) hn_)), Or.elim hk_ (fun hs_ => ((Kd.R_apart' (HO_3.out) (Kd.R_typed HO_7.out) (by decide)).1 k_ hs_.symm).2) (fun hn_ => (Kd.fresh' (Kd.R_lt (mR HO_7.out)) k_ hn_))⟩)) (below_size (mB HB.out))); have n3_ := Aside0.mk (below_step (mB HB.out) hb); clear HO_3; clear HO_7; clear HB; have HO_3 := n0_; have HO_7 := n1_; have HO266 := n2_; have HB := n3_; clear n0_ n1_ n2_ n3_; (try clear hb); (try clear hb2); (try clear hk); (try clear hi); (try clear ho0)))
    go_ret
    exact ⟨_, by first | rfl | (simp [errW_none, errW_some] <;> rfl) | (simp [*, errW_none, errW_some] <;> rfl), by (with_reducible repeat (first | apply Kd.V_alloc | apply Kd.V_drewN | apply Kd.V_drew)); exact Kd.V_mono HO266.out (fun _ hk => hk.1), by repeat (first | (with_reducible first | exact HB.out | apply below_alloc | apply pw_below_drewN | apply below_drew1) | exact HB.out)⟩

end Go.Proofs.Ytkhfgflcanmefaa.PAll
end
section
namespace Go.Proofs.Ytkhfgflcanmefaa.PAll
open Go.RowKit Go.Proofs.YtkhfgflcanmefaaW.PrintWords Go.Proofs.YtkhfgflcanmefaaW.PrintLast Go.Proofs.YtkhfgflcanmefaaW.PrintMore
attribute [local go_sem] max2_int min2_int max_two min_two max_three min_three max_four min_four   -- for this text's walks alone
set_option linter.unusedVariables false
set_option linter.unusedSimpArgs false

def slices_Clip_int.f (l0 : List Int) : Option (List Int) := some l0
theorem slices_Clip_int.cut (A : Option Addr) (n c : Nat) (hm : n ≤ c) : ∀ W : World, (Instr.slice 24 (.slice A n c) none (some (.int .i64 (n : Int))) (some (.int .i64 (n : Int)))).run Try.prog W = .ok (.slice A n n) W := by
  intro W
  obtain ⟨i0, hi, _, hsz, _⟩ := info_parts info3
  have ha : (A.map fun x => x.add 0) = A := by cases A <;> simp [Addr.add]
  have hn : (n : Int) ≤ (c : Int) := by omega
  simp [Instr.slice, run_underlying Try.underlying24, Instr.sliceBounds, run_sliceBound, sizeOf, typeInfo, hi, Result.andThen, ha, hn]
set_option maxHeartbeats 8000000 in
set_option maxRecDepth 100000 in
theorem slices_Clip_int.calls (P0_ : Nat → Prop) (A0 : Option Addr) (c0 : Nat) (l0 : List Int) (r : List Int) (w : World) (hs0 : Kd.V (Kd.int .i64) 3 w w.heap.size (fun k_ => P0_ k_) (.slice A0 l0.length c0) l0) (h : slices_Clip_int.f l0 = some r) :
    Calls Try.prog 37 #[.slice A0 l0.length c0] w fun e w' => ∃ v0_ : Value, e = .returned (v0_) ∧ Kd.V (Kd.int .i64) 3 w' w.heap.size (fun k_ => (P0_ k_ ∨ w.heap.size ≤ k_)) v0_ r ∧ Below w.heap.size w w' := by
  obtain rfl := Option.some.inj h
  have HO0 := Aside0.mk (show Kd.V (Kd.int .i64) 3 w w.heap.size (fun k_ => (P0_ k_ ∨ w.heap.size ≤ k_)) (.slice A0 l0.length l0.length) l0 from Kd.V_mk (Nat.le_refl _) (Kd.F_mono (Kd.V_F hs0) (fun k_ hk => .inl hk)))
  have hc := (Kd.V_reads' hs0).2.1
  have hcut := slices_Clip_int.cut A0 l0.length c0 hc
  clear hs0 hc
  go_enter Try.func37, Try.ntmps37
  go_wp2
  go_ret
  exact ⟨_, rfl, HO0.out, Below.refl _ _⟩
end Go.Proofs.Ytkhfgflcanmefaa.PAll
end
section
namespace Go.Proofs.Ytkhfgflcanmefaa.PAll
open Go.RowKit Go.Proofs.YtkhfgflcanmefaaW.PrintWords Go.Proofs.YtkhfgflcanmefaaW.PrintLast Go.Proofs.YtkhfgflcanmefaaW.PrintMore
attribute [local go_sem] max2_int min2_int max_two min_two max_three min_three max_four min_four   -- for this text's walks alone
set_option linter.unusedVariables false
set_option linter.unusedSimpArgs false

def cmp_Or_int.l0 : Nat → Int → List Int → Int → Int → Option (Int)
  | 0, _, _, _, _ => none
  | k + 1, x3, x6, x7, x8 => if x8 < x7 then (if 0 ≤ x8 then (if x8 < (x6.length : Int) then (if (rd x6 x8) = x3 then (cmp_Or_int.l0 k x3 x6 x7 (wrap64 (x8 + 1))) else (some (rd x6 x8))) else (none)) else (none)) else (some x3)
def cmp_Or_int.f (k : Nat) (l0 : List Int) : Option (Int) := cmp_Or_int.l0 k 0 l0 (l0.length : Int) 0
theorem cmp_Or_int.mono_l : ∀ k, (∀ y0 y1 y2 y3, LeO (cmp_Or_int.l0 k y0 y1 y2 y3) (cmp_Or_int.l0 (k + 1) y0 y1 y2 y3))
  | 0 => fun _ _ _ _ r h => by simp [cmp_Or_int.l0] at h
  | k + 1 => by
    have ih0 := cmp_Or_int.mono_l k
    · intro y0 y1 y2 y3
      unfold cmp_Or_int.l0
      repeat' first
      | (with_reducible exact ih0 _ _ _ _)
      | (with_reducible exact LeO.refl _)
      | (with_reducible exact LeO.none _)
      | (with_reducible refine LeO.ite ?_ ?_)
      | (with_reducible refine LeO.bind ?_ (fun _ => ?_))
      | exact ih0 _ _ _ _
      | exact LeO.none _
      | refine LeO.ite ?_ ?_
      | refine LeO.bind ?_ (fun _ => ?_)
theorem cmp_Or_int.mono : ∀ a0 k, LeO (cmp_Or_int.f k a0) (cmp_Or_int.f (k + 1) a0) := by
  intro a0 k
  have ih0 := cmp_Or_int.mono_l k
  unfold cmp_Or_int.f
  repeat' first
      | (with_reducible exact ih0 _ _ _ _)
      | (with_reducible exact LeO.refl _)
      | (with_reducible exact LeO.none _)
      | (with_reducible refine LeO.ite ?_ ?_)
      | (with_reducible refine LeO.bind ?_ (fun _ => ?_))
      | exact ih0 _ _ _ _
      | exact LeO.none _
      | refine LeO.ite ?_ ?_
      | refine LeO.bind ?_ (fun _ => ?_)
set_option maxHeartbeats 8000000 in
set_option maxRecDepth 100000 in
theorem cmp_Or_int.calls (k : Nat) (A0 : Option Addr) (c0 : Nat) (l0 : List Int) (r : Int) (w : World) (hr0 : Kd.C (Kd.int .i64) w A0 l0.length l0) (hc0 : l0.length ≤ c0) (h : cmp_Or_int.f k l0 = some r) :
    Calls Try.prog 35 #[.slice A0 l0.length c0] w fun e w' => e = .returned (.int .i64 r) ∧ Drawn0 w w' := by
  have HR0 := Aside0.mk hr0
  have HC0 := Aside0.mk hc0
  clear hr0 hc0
  have H : (cmp_Or_int.l0 k 0 l0 (l0.length : Int) 0) = some r := h
  clear h
  have H' := Aside0.mk H
  clear H
  go_enter Try.func35, Try.ntmps35
  go_wp2
  go_loopg [8] k (fun kq v8 w' => ∃ (x8_1 : Int), v8 = .int .i64 x8_1 ∧ Aside0 (cmp_Or_int.l0 kq 0 l0 (l0.length : Int) x8_1 = some r) ∧ Aside0 (kq ≤ k) ∧ Drawn0 w w')
  case atStart => exact ⟨(0), (by first | rfl | (simp; done) | (simp [*]; done)), H', ⟨Nat.le_refl _⟩, by repeat (first | exact Drawn0.refl _ | apply Drawn0.step)⟩
  case round =>
    clear H'
    obtain ⟨x8_1, rfl, HA, HK1, ⟨m1, rfl⟩⟩ := hrel
    cases gk with
    | zero => exact absurd HA.out (by simp [cmp_Or_int.l0])
    | succ k1 =>
      have H := HA.out
      clear HA
      simp only [cmp_Or_int.l0] at H
      by_cases c2 : x8_1 < (l0.length : Int)
      · rw [if_pos c2] at H
        have c2b0 : decide (x8_1 < (l0.length : Int)) = true := decide_eq_true c2
        clear c2
        by_cases c3 : 0 ≤ x8_1
        · rw [if_pos c3] at H
          have c3b0 : decide (0 ≤ x8_1) = true := decide_eq_true c3
          clear c3
          by_cases c4 : x8_1 < (l0.length : Int)
          · rw [if_pos c4] at H
            have c4b0 : decide (x8_1 < (l0.length : Int)) = true := decide_eq_true c4
            clear c4
            by_cases c5 : (rd l0 x8_1) = 0
            · rw [if_pos c5] at H
              have c5b0 : ((rd l0 x8_1) == 0) = true := beq_iff_eq.mpr c5
              have c5b1 : ((rd l0 x8_1) != 0) = false := bne_eq_false_iff_eq.mpr c5
              clear c5
              have H' := Aside0.mk H
              clear H
              have p162 : 0 ≤ (x8_1 : Int) := of_decide_eq_true (by first | (with_reducible assumption) | assumption)
              have q162 : x8_1 < (l0.length : Int) := of_decide_eq_true (by first | (with_reducible assumption) | assumption)
              obtain ⟨ad162, e162, hx162_0⟩ := Kd.at_int HR0.out x8_1 p162 q162
              cases e162
              replace p162 := eq_true p162
              replace q162 := eq_true q162
              go_wp2
              go_roundg k1
              case measure => have := HK1.out; omega
              case rel => exact ⟨(wrap64 (x8_1 + 1)), (by first | rfl | (simp; done) | (simp [*]; done)), H', ⟨by have := HK1.out; omega⟩, by repeat (first | exact Drawn0.refl _ | apply Drawn0.step)⟩
            · rw [if_neg c5] at H
              have c5b0 : ((rd l0 x8_1) == 0) = false := beq_eq_false_iff_ne.mpr c5
              have c5b1 : ((rd l0 x8_1) != 0) = true := bne_iff_ne.mpr c5
              obtain rfl := Option.some.inj H
              have p162 : 0 ≤ (x8_1 : Int) := of_decide_eq_true (by first | (with_reducible assumption) | assumption)
              have q162 : x8_1 < (l0.length : Int) := of_decide_eq_true (by first | (with_reducible assumption) | assumption)
              obtain ⟨ad162, e162, hx162_0⟩ := Kd.at_int HR0.out x8_1 p162 q162
              cases e162
              replace p162 := eq_true p162
              replace q162 := eq_true q162
              go_wp2
              go_ret
              exact ⟨by first | rfl | (simp; done) | (simp [*]; done), by repeat (first | exact Drawn0.refl _ | apply Drawn0.step)⟩
          · rw [if_neg c4] at H
            exact absurd H (by simp)
        · rw [if_neg c3] at H
          exact absurd H (by simp)
      · rw [if_neg c2] at H
        have c2b0 : decide (x8_1 < (l0.length : Int)) = false := decide_eq_false c2
        clear c2
        obtain rfl := Option.some.inj H
        go_wp2
        go_ret
        exact ⟨by first | rfl | (simp; done) | (simp [*]; done), by repeat (first | exact Drawn0.refl _ | apply Drawn0.step)⟩

end Go.Proofs.Ytkhfgflcanmefaa.PAll
end
section
namespace Go.Proofs.Ytkhfgflcanmefaa.PAll
open Go.RowKit Go.Proofs.YtkhfgflcanmefaaW.PrintWords Go.Proofs.YtkhfgflcanmefaaW.PrintLast Go.Proofs.YtkhfgflcanmefaaW.PrintMore
attribute [local go_sem] max2_int min2_int max_two min_two max_three min_three max_four min_four   -- for this text's walks alone
set_option linter.unusedVariables false
set_option linter.unusedSimpArgs false

def cmp_isNaN_int.f (a0 : Int) : Option (Bool) := some (a0 != a0)
set_option maxHeartbeats 8000000 in
set_option maxRecDepth 100000 in
theorem cmp_isNaN_int.calls (a0 : Int) (r : Bool) (w : World) (h : cmp_isNaN_int.f a0 = some r) :
    Calls Try.prog 54 #[.int .i64 a0] w fun e w' => e = .returned (.bool r) ∧ Drawn0 w w' := by
  have H : (some (a0 != a0)) = some r := h
  clear h
  obtain rfl := Option.some.inj H
  go_enter Try.func54, Try.ntmps54
  go_wp2
  go_ret
  exact ⟨by first | rfl | (simp; done) | (simp [*]; done), by repeat (first | exact Drawn0.refl _ | apply Drawn0.step)⟩

end Go.Proofs.Ytkhfgflcanmefaa.PAll
end
section
namespace Go.Proofs.Ytkhfgflcanmefaa.PAll
open Go.RowKit Go.Proofs.YtkhfgflcanmefaaW.PrintWords Go.Proofs.YtkhfgflcanmefaaW.PrintLast Go.Proofs.YtkhfgflcanmefaaW.PrintMore
attribute [local go_sem] max2_int min2_int max_two min_two max_three min_three max_four min_four   -- for this text's walks alone
set_option linter.unusedVariables false
set_option linter.unusedSimpArgs false

def cmp_Compare_int.f (a0 : Int) (a1 : Int) : Option (Int) := (cmp_isNaN_int.f a0).bind fun t163 => ((cmp_isNaN_int.f a1).bind fun t164 => (if t163 = true then (if t164 = true then (some 0) else (some (-1))) else (if t164 = true then (some 1) else (if a0 < a1 then (some (-1)) else (if a0 > a1 then (some 1) else (some 0))))))
set_option maxHeartbeats 8000000 in
set_option maxRecDepth 100000 in
theorem cmp_Compare_int.calls (a0 : Int) (a1 : Int) (r : Int) (w : World) (h : cmp_Compare_int.f a0 a1 = some r) :
    Calls Try.prog 36 #[.int .i64 a0, .int .i64 a1] w fun e w' => e = .returned (.int .i64 r) ∧ Drawn0 w w' := by
  have H : ((cmp_isNaN_int.f a0).bind fun t163 => ((cmp_isNaN_int.f a1).bind fun t164 => (if t163 = true then (if t164 = true then (some 0) else (some (-1))) else (if t164 = true then (some 1) else (if a0 < a1 then (some (-1)) else (if a0 > a1 then (some 1) else (some 0))))))) = some r := h
  clear h
  replace H := Option.bind_eq_some_iff.mp H
  obtain ⟨t163, A30, H⟩ := H
  replace H : ((cmp_isNaN_int.f a1).bind fun t164 => (if t163 = true then (if t164 = true then (some 0) else (some (-1))) else (if t164 = true then (some 1) else (if a0 < a1 then (some (-1)) else (if a0 > a1 then (some 1) else (some 0)))))) = some r := H
  have A3 := Aside0.mk A30
  clear A30
  replace H := Option.bind_eq_some_iff.mp H
  obtain ⟨t164, A40, H⟩ := H
  replace H : (if t163 = true then (if t164 = true then (some 0) else (some (-1))) else (if t164 = true then (some 1) else (if a0 < a1 then (some (-1)) else (if a0 > a1 then (some 1) else (some 0))))) = some r := H
  have A4 := Aside0.mk A40
  clear A40
  by_cases c5 : t163 = true
  · subst c5
    have H1 : (if t164 = true then (some 0) else (some (-1))) = some r := by rw [if_pos rfl] at H; exact H
    clear H
    have H := H1
    clear H1
    by_cases c6 : t164 = true
    · subst c6
      have H1 : (some 0) = some r := by rw [if_pos rfl] at H; exact H
      clear H
      have H := H1
      clear H1
      obtain rfl := Option.some.inj H
      go_enter Try.func36, Try.ntmps36
      go_wp2_with (first | ((with_reducible refine gate_callee (f := 54) rfl ?_); refine goesL_ (some 8) rfl rfl Try.func54 (by kernel_rfl) rfl #[.int .i64 a0] rfl (by (try simp only [List.map_toArray, List.map_cons, List.map_nil]); first | done | rfl | (simp only [List.length_drop, List.length_take]; rfl)) ?_; (with_reducible refine (cmp_isNaN_int.calls a0 true _ A3.out).mono ?_); rintro e w' ⟨rfl, ⟨nd, rfl⟩⟩; refine ⟨_, rfl, ?_⟩) | ((with_reducible refine gate_callee (f := 54) rfl ?_); refine goesL_ (some 10) rfl rfl Try.func54 (by kernel_rfl) rfl #[.int .i64 a1] rfl (by (try simp only [List.map_toArray, List.map_cons, List.map_nil]); first | done | rfl | (simp only [List.length_drop, List.length_take]; rfl)) ?_; (with_reducible refine (cmp_isNaN_int.calls a1 true _ A4.out).mono ?_); rintro e w' ⟨rfl, ⟨nd, rfl⟩⟩; refine ⟨_, rfl, ?_⟩))
      go_ret
      exact ⟨by first | rfl | (simp; done) | (simp [*]; done), by repeat (first | exact Drawn0.refl _ | apply Drawn0.step)⟩
    · replace c6 := Bool.eq_false_iff.mpr c6
      subst c6
      have H1 : (some (-1)) = some r := by rw [if_neg (show ¬ (false = true) by decide)] at H; exact H
      clear H
      have H := H1
      clear H1
      obtain rfl := Option.some.inj H
      go_enter Try.func36, Try.ntmps36
      go_wp2_with (first | ((with_reducible refine gate_callee (f := 54) rfl ?_); refine goesL_ (some 8) rfl rfl Try.func54 (by kernel_rfl) rfl #[.int .i64 a0] rfl (by (try simp only [List.map_toArray, List.map_cons, List.map_nil]); first | done | rfl | (simp only [List.length_drop, List.length_take]; rfl)) ?_; (with_reducible refine (cmp_isNaN_int.calls a0 true _ A3.out).mono ?_); rintro e w' ⟨rfl, ⟨nd, rfl⟩⟩; refine ⟨_, rfl, ?_⟩) | ((with_reducible refine gate_callee (f := 54) rfl ?_); refine goesL_ (some 10) rfl rfl Try.func54 (by kernel_rfl) rfl #[.int .i64 a1] rfl (by (try simp only [List.map_toArray, List.map_cons, List.map_nil]); first | done | rfl | (simp only [List.length_drop, List.length_take]; rfl)) ?_; (with_reducible refine (cmp_isNaN_int.calls a1 false _ A4.out).mono ?_); rintro e w' ⟨rfl, ⟨nd, rfl⟩⟩; refine ⟨_, rfl, ?_⟩))
      go_ret
      exact ⟨by first | rfl | (simp; done) | (simp [*]; done), by repeat (first | exact Drawn0.refl _ | apply Drawn0.step)⟩
  · replace c5 := Bool.eq_false_iff.mpr c5
    subst c5
    have H1 : (if t164 = true then (some 1) else (if a0 < a1 then (some (-1)) else (if a0 > a1 then (some 1) else (some 0)))) = some r := by rw [if_neg (show ¬ (false = true) by decide)] at H; exact H
    clear H
    have H := H1
    clear H1
    by_cases c7 : t164 = true
    · subst c7
      have H1 : (some 1) = some r := by rw [if_pos rfl] at H; exact H
      clear H
      have H := H1
      clear H1
      obtain rfl := Option.some.inj H
      go_enter Try.func36, Try.ntmps36
      go_wp2_with (first | ((with_reducible refine gate_callee (f := 54) rfl ?_); refine goesL_ (some 8) rfl rfl Try.func54 (by kernel_rfl) rfl #[.int .i64 a0] rfl (by (try simp only [List.map_toArray, List.map_cons, List.map_nil]); first | done | rfl | (simp only [List.length_drop, List.length_take]; rfl)) ?_; (with_reducible refine (cmp_isNaN_int.calls a0 false _ A3.out).mono ?_); rintro e w' ⟨rfl, ⟨nd, rfl⟩⟩; refine ⟨_, rfl, ?_⟩) | ((with_reducible refine gate_callee (f := 54) rfl ?_); refine goesL_ (some 10) rfl rfl Try.func54 (by kernel_rfl) rfl #[.int .i64 a1] rfl (by (try simp only [List.map_toArray, List.map_cons, List.map_nil]); first | done | rfl | (simp only [List.length_drop, List.length_take]; rfl)) ?_; (with_reducible refine (cmp_isNaN_int.calls a1 true _ A4.out).mono ?_); rintro e w' ⟨rfl, ⟨nd, rfl⟩⟩; refine ⟨_, rfl, ?_⟩))
      go_ret
      exact ⟨by first | rfl | (simp; done) | (simp [*]; done), by repeat (first | exact Drawn0.refl _ | apply Drawn0.step)⟩
    · replace c7 := Bool.eq_false_iff.mpr c7
      subst c7
      have H1 : (if a0 < a1 then (some (-1)) else (if a0 > a1 then (some 1) else (some 0))) = some r := by rw [if_neg (show ¬ (false = true) by decide)] at H; exact H
      clear H
      have H := H1
      clear H1
      by_cases c8 : a0 < a1
      · rw [if_pos c8] at H
        have c8b0 : decide (a0 < a1) = true := decide_eq_true c8
        clear c8
        obtain rfl := Option.some.inj H
        go_enter Try.func36, Try.ntmps36
        go_wp2_with (first | ((with_reducible refine gate_callee (f := 54) rfl ?_); refine goesL_ (some 8) rfl rfl Try.func54 (by kernel_rfl) rfl #[.int .i64 a0] rfl (by (try simp only [List.map_toArray, List.map_cons, List.map_nil]); first | done | rfl | (simp only [List.length_drop, List.length_take]; rfl)) ?_; (with_reducible refine (cmp_isNaN_int.calls a0 false _ A3.out).mono ?_); rintro e w' ⟨rfl, ⟨nd, rfl⟩⟩; refine ⟨_, rfl, ?_⟩) | ((with_reducible refine gate_callee (f := 54) rfl ?_); refine goesL_ (some 10) rfl rfl Try.func54 (by kernel_rfl) rfl #[.int .i64 a1] rfl (by (try simp only [List.map_toArray, List.map_cons, List.map_nil]); first | done | rfl | (simp only [List.length_drop, List.length_take]; rfl)) ?_; (with_reducible refine (cmp_isNaN_int.calls a1 false _ A4.out).mono ?_); rintro e w' ⟨rfl, ⟨nd, rfl⟩⟩; refine ⟨_, rfl, ?_⟩))
        go_ret
        exact ⟨by first | rfl | (simp; done) | (simp [*]; done), by repeat (first | exact Drawn0.refl _ | apply Drawn0.step)⟩
      · rw [if_neg c8] at H
        have c8b0 : decide (a0 < a1) = false := decide_eq_false c8
        clear c8
        by_cases c9 : a0 > a1
        · rw [if_pos c9] at H
          have c9b0 : decide (a1 < a0) = true := decide_eq_true c9
          clear c9
          obtain rfl := Option.some.inj H
          go_enter Try.func36, Try.ntmps36
          go_wp2_with (first | ((with_reducible refine gate_callee (f := 54) rfl ?_); refine goesL_ (some 8) rfl rfl Try.func54 (by kernel_rfl) rfl #[.int .i64 a0] rfl (by (try simp only [List.map_toArray, List.map_cons, List.map_nil]); first | done | rfl | (simp only [List.length_drop, List.length_take]; rfl)) ?_; (with_reducible refine (cmp_isNaN_int.calls a0 false _ A3.out).mono ?_); rintro e w' ⟨rfl, ⟨nd, rfl⟩⟩; refine ⟨_, rfl, ?_⟩) | ((with_reducible refine gate_callee (f := 54) rfl ?_); refine goesL_ (some 10) rfl rfl Try.func54 (by kernel_rfl) rfl #[.int .i64 a1] rfl (by (try simp only [List.map_toArray, List.map_cons, List.map_nil]); first | done | rfl | (simp only [List.length_drop, List.length_take]; rfl)) ?_; (with_reducible refine (cmp_isNaN_int.calls a1 false _ A4.out).mono ?_); rintro e w' ⟨rfl, ⟨nd, rfl⟩⟩; refine ⟨_, rfl, ?_⟩))
          go_ret
          exact ⟨by first | rfl | (simp; done) | (simp [*]; done), by repeat (first | exact Drawn0.refl _ | apply Drawn0.step)⟩
        · rw [if_neg c9] at H
          have c9b0 : decide (a1 < a0) = false := decide_eq_false c9
          clear c9
          obtain rfl := Option.some.inj H
          go_enter Try.func36, Try.ntmps36
          go_wp2_with (first | ((with_reducible refine gate_callee (f := 54) rfl ?_); refine goesL_ (some 8) rfl rfl Try.func54 (by kernel_rfl) rfl #[.int .i64 a0] rfl (by (try simp only [List.map_toArray, List.map_cons, List.map_nil]); first | done | rfl | (simp only [List.length_drop, List.length_take]; rfl)) ?_; (with_reducible refine (cmp_isNaN_int.calls a0 false _ A3.out).mono ?_); rintro e w' ⟨rfl, ⟨nd, rfl⟩⟩; refine ⟨_, rfl, ?_⟩) | ((with_reducible refine gate_callee (f := 54) rfl ?_); refine goesL_ (some 10) rfl rfl Try.func54 (by kernel_rfl) rfl #[.int .i64 a1] rfl (by (try simp only [List.map_toArray, List.map_cons, List.map_nil]); first | done | rfl | (simp only [List.length_drop, List.length_take]; rfl)) ?_; (with_reducible refine (cmp_isNaN_int.calls a1 false _ A4.out).mono ?_); rintro e w' ⟨rfl, ⟨nd, rfl⟩⟩; refine ⟨_, rfl, ?_⟩))
          go_ret
          exact ⟨by first | rfl | (simp; done) | (simp [*]; done), by repeat (first | exact Drawn0.refl _ | apply Drawn0.step)⟩

end Go.Proofs.Ytkhfgflcanmefaa.PAll
end
section
namespace Go.Proofs.Ytkhfgflcanmefaa.PAll
open Go.RowKit Go.Proofs.YtkhfgflcanmefaaW.PrintWords Go.Proofs.YtkhfgflcanmefaaW.PrintLast Go.Proofs.YtkhfgflcanmefaaW.PrintMore
attribute [local go_sem] max2_int min2_int max_two min_two max_three min_three max_four min_four   -- for this text's walks alone
set_option linter.unusedVariables false
set_option linter.unusedSimpArgs false

def job_DueL.f (k : Nat) (a0_0 : Int) (a0_1 : Int) (a0_2 : Int) (a0_3 : Int) (a0_4 : Int) (a0_5 : Int) (a0_6 : Int) (a0_7 : Int) (a0_8 : Int) (a0_9 : Int) (a0_10 : Int) (a0_11 : SH) (a1_0 : Int) (a1_1 : Int) (a1_2 : Int) (a1_3 : Int) (a1_4 : Int) (a1_5 : Int) (a1_6 : Int) (a1_7 : Int) (a1_8 : Int) (a1_9 : Int) (a1_10 : Int) (a1_11 : SH) : Option (Int) := (cmp_Compare_int.f (wrap64 (a0_8 + a0_3)) (wrap64 (a1_8 + a1_3))).bind fun t269 => ((cmp_Compare_int.f a0_0 a1_0).bind fun t270 => ((cmp_Or_int.f k (([t269, t270] : List Int))).bind fun t274 => (some t274)))
theorem job_DueL.mono : ∀ a0 a1 a2 a3 a4 a5 a6 a7 a8 a9 a10 a11 a12 a13 a14 a15 a16 a17 a18 a19 a20 a21 a22 a23 k, LeO (job_DueL.f k a0 a1 a2 a3 a4 a5 a6 a7 a8 a9 a10 a11 a12 a13 a14 a15 a16 a17 a18 a19 a20 a21 a22 a23) (job_DueL.f (k + 1) a0 a1 a2 a3 a4 a5 a6 a7 a8 a9 a10 a11 a12 a13 a14 a15 a16 a17 a18 a19 a20 a21 a22 a23) := by
  intro a0 a1 a2 a3 a4 a5 a6 a7 a8 a9 a10 a11 a12 a13 a14 a15 a16 a17 a18 a19 a20 a21 a22 a23 k
  unfold job_DueL.f
  repeat' first
      | (with_reducible exact cmp_Or_int.mono _ _)
      | (with_reducible exact LeO.refl _)
      | (with_reducible exact LeO.none _)
      | (with_reducible refine LeO.ite ?_ ?_)
      | (with_reducible refine LeO.bind ?_ (fun _ => ?_))
      | exact cmp_Or_int.mono _ _
      | exact LeO.none _
      | refine LeO.ite ?_ ?_
      | refine LeO.bind ?_ (fun _ => ?_)
def job_DueL.T1 : Bool × List (List Nat × List Nat) := (true, [([], []), ([0], [0]), ([], []), ([2], [2]), ([1, 3], [1, 3]), ([], []), ([5], [5]), ([], []), ([7], [7]), ([6, 8], [6, 8]), ([4, 9], [4, 9]), ([], []), ([11], [11]), ([], []), ([13], [13]), ([12, 14, 10], [12, 14]), ([10, 15], [10, 15]), ([16, 15], [16]), ([17, 17, 0, 1, 2, 3, 4, 5, 6, 7, 8, 9, 10, 11, 12, 13, 14, 15, 16, 17], [17])])
def job_DueL.B1 : List Nat := [0, 1, 0, 4, 15, 0, 32, 0, 128, 480, 1023, 0, 2048, 0, 8192, 32767, 65535, 131071, 262143]
theorem job_DueL.tab1 : rtab .any (opsOf Try.f47 1) = job_DueL.T1 := by kernel_rfl
theorem job_DueL.bits1 : waitsOk job_DueL.T1.2 job_DueL.B1 = true := by kernel_rfl
set_option maxHeartbeats 8000000 in
set_option maxRecDepth 100000 in
theorem job_DueL.calls (k : Nat) (a0_0 : Int) (a0_1 : Int) (a0_2 : Int) (a0_3 : Int) (a0_4 : Int) (a0_5 : Int) (a0_6 : Int) (a0_7 : Int) (a0_8 : Int) (a0_9 : Int) (a0_10 : Int) (a0_11 : SH) (a1_0 : Int) (a1_1 : Int) (a1_2 : Int) (a1_3 : Int) (a1_4 : Int) (a1_5 : Int) (a1_6 : Int) (a1_7 : Int) (a1_8 : Int) (a1_9 : Int) (a1_10 : Int) (a1_11 : SH) (r : Int) (w : World) (h : job_DueL.f k a0_0 a0_1 a0_2 a0_3 a0_4 a0_5 a0_6 a0_7 a0_8 a0_9 a0_10 a0_11 a1_0 a1_1 a1_2 a1_3 a1_4 a1_5 a1_6 a1_7 a1_8 a1_9 a1_10 a1_11 = some r) :
    Calls Try.prog 47 #[.agg #[.int .i64 a0_0, .int .i64 a0_1, .int .i64 a0_2, .int .i64 a0_3, .int .i64 a0_4, .int .i64 a0_5, .int .i64 a0_6, .int .i64 a0_7, .int .i64 a0_8, .int .i64 a0_9, .int .i64 a0_10, .slice a0_11.A a0_11.n a0_11.c], .agg #[.int .i64 a1_0, .int .i64 a1_1, .int .i64 a1_2, .int .i64 a1_3, .int .i64 a1_4, .int .i64 a1_5, .int .i64 a1_6, .int .i64 a1_7, .int .i64 a1_8, .int .i64 a1_9, .int .i64 a1_10, .slice a1_11.A a1_11.n a1_11.c]] w fun e w' => e = .returned (.int .i64 r) ∧ Below w.heap.size w w' := by
  have hu32 := Try.underlying32
  have HB := Aside0.mk (Below.refl w.heap.size w)
  have H : ((cmp_Compare_int.f (wrap64 (a0_8 + a0_3)) (wrap64 (a1_8 + a1_3))).bind fun t269 => ((cmp_Compare_int.f a0_0 a1_0).bind fun t270 => ((cmp_Or_int.f k (([t269, t270] : List Int))).bind fun t274 => (some t274)))) = some r := h
  clear h
  replace H := Option.bind_eq_some_iff.mp H
  obtain ⟨t269, A30, H⟩ := H
  replace H : ((cmp_Compare_int.f a0_0 a1_0).bind fun t270 => ((cmp_Or_int.f k (([t269, t270] : List Int))).bind fun t274 => (some t274))) = some r := H
  have A3 := Aside0.mk A30
  clear A30
  replace H := Option.bind_eq_some_iff.mp H
  obtain ⟨t270, A40, H⟩ := H
  replace H : ((cmp_Or_int.f k (([t269, t270] : List Int))).bind fun t274 => (some t274)) = some r := H
  have A4 := Aside0.mk A40
  clear A40
  obtain ⟨y271, hy271⟩ : ∃ y_ : List Int, y_ = (([t269, t270] : List Int)) := ⟨_, rfl⟩
  replace H : ((cmp_Or_int.f k y271).bind fun t274 => (some t274)) = some r := by first | (rw [hy271]; with_reducible exact H) | (have H2_ := (Option.bind_some _ _).symm.trans H; rw [hy271]; with_reducible exact H2_) | (have H2_ := (Option.bind_some _ _).symm.trans H; with_reducible exact H2_) | with_reducible exact H | (rw [hy271]; exact H) | exact H
  have Ny271 := Aside0.mk hy271
  clear hy271
  replace H := Option.bind_eq_some_iff.mp H
  obtain ⟨t274, A50, H⟩ := H
  replace H : (some t274) = some r := H
  have A5 := Aside0.mk A50
  clear A50
  obtain rfl := Option.some.inj H
  go_enter Try.func47, Try.ntmps47
  try go_wp2_with (first | ((with_reducible refine gate_dst (N := 2) rfl ?_); refine box_event ?hg (N := 2) ?hd (cs := #[.int .i64 a0_0, .int .i64 a0_1, .int .i64 a0_2, .int .i64 a0_3, .int .i64 a0_4, .int .i64 a0_5, .int .i64 a0_6, .int .i64 a0_7, .int .i64 a0_8, .int .i64 a0_9, .int .i64 a0_10, .slice a0_11.A a0_11.n a0_11.c]) (t := 32) ?hr ?_; (case hd => rfl); (case hg => rfl); (case hr => first | (go_simp; done) | (go_simp; rfl)); intro gb267 hg w6 hbox hb; have n0_ := Aside0.mk (below_step (by repeat (first | (with_reducible first | exact HB.out | apply below_alloc | apply pw_below_drewN | apply below_drew1) | exact HB.out)) hb); have n1_ := Aside0.mk (hbox); have n2_ := Aside0.mk ((by rw [hg]; exact (below_size (by repeat (first | (with_reducible first | exact HB.out | apply below_alloc | apply pw_below_drewN | apply below_drew1) | exact HB.out))) : w.heap.size ≤ gb267)); have n3_ := Aside0.mk ((by rw [hg]; exact (below_size (by repeat (first | (with_reducible first | exact HB.out | apply below_alloc | apply pw_below_drewN | apply below_drew1) | exact HB.out))) : w.heap.size ≤ gb267)); clear HB; have HB := n0_; have BK267 := n1_; have GW267 := n2_; have GE267 := n3_; clear n0_ n1_ n2_ n3_; clear hb hbox hg) | ((with_reducible refine gate_dst (N := 3) rfl ?_); refine box_event ?hg (N := 3) ?hd (cs := #[.int .i64 a1_0, .int .i64 a1_1, .int .i64 a1_2, .int .i64 a1_3, .int .i64 a1_4, .int .i64 a1_5, .int .i64 a1_6, .int .i64 a1_7, .int .i64 a1_8, .int .i64 a1_9, .int .i64 a1_10, .slice a1_11.A a1_11.n a1_11.c]) (t := 32) ?hr ?_; (case hd => rfl); (case hg => rfl); (case hr => first | (go_simp; done) | (go_simp; rfl)); intro gb268 hg w7 hbox hb; have n0_ := Aside0.mk (blk_below (g := gb267) (o := .cells #[.int .i64 a0_0, .int .i64 a0_1, .int .i64 a0_2, .int .i64 a0_3, .int .i64 a0_4, .int .i64 a0_5, .int .i64 a0_6, .int .i64 a0_7, .int .i64 a0_8, .int .i64 a0_9, .int .i64 a0_10, .slice a0_11.A a0_11.n a0_11.c] 32 (0, 0)) (by (with_reducible repeat first | apply blk_drewN | apply blk_drew | apply blk_alloc); exact BK267.out) hb); have n1_ := Aside0.mk (below_step (by repeat (first | (with_reducible first | exact HB.out | apply below_alloc | apply pw_below_drewN | apply below_drew1 | refine below_set ?_ GE267.out) | exact HB.out)) hb); have n2_ := Aside0.mk (hbox); have n3_ := Aside0.mk ((by rw [hg]; exact (below_size (by repeat (first | (with_reducible first | exact HB.out | apply below_alloc | apply pw_below_drewN | apply below_drew1 | refine below_set ?_ GE267.out) | exact HB.out))) : w.heap.size ≤ gb268)); have n4_ := Aside0.mk ((by rw [hg]; exact (below_size (by repeat (first | (with_reducible first | exact HB.out | apply below_alloc | apply pw_below_drewN | apply below_drew1 | refine below_set ?_ GE267.out) | exact HB.out))) : w.heap.size ≤ gb268)); have n5_ := Aside0.mk ((by rw [hg]; exact Nat.ne_of_lt (blk_lt (g := gb267) (o := .cells #[.int .i64 a0_0, .int .i64 a0_1, .int .i64 a0_2, .int .i64 a0_3, .int .i64 a0_4, .int .i64 a0_5, .int .i64 a0_6, .int .i64 a0_7, .int .i64 a0_8, .int .i64 a0_9, .int .i64 a0_10, .slice a0_11.A a0_11.n a0_11.c] 32 (0, 0)) (by (with_reducible repeat first | apply blk_drewN | apply blk_drew | apply blk_alloc); exact BK267.out)) : gb267 ≠ gb268)); have n6_ := Aside0.mk ((by rw [hg]; exact Nat.ne_of_gt (blk_lt (g := gb267) (o := .cells #[.int .i64 a0_0, .int .i64 a0_1, .int .i64 a0_2, .int .i64 a0_3, .int .i64 a0_4, .int .i64 a0_5, .int .i64 a0_6, .int .i64 a0_7, .int .i64 a0_8, .int .i64 a0_9, .int .i64 a0_10, .slice a0_11.A a0_11.n a0_11.c] 32 (0, 0)) (by (with_reducible repeat first | apply blk_drewN | apply blk_drew | apply blk_alloc); exact BK267.out)) : gb268 ≠ gb267)); clear BK267; clear HB; have BK267 := n0_; have HB := n1_; have BK268 := n2_; have GW268 := n3_; have GE268 := n4_; have NB267_268 := n5_; have NB268_267 := n6_; clear n0_ n1_ n2_ n3_ n4_ n5_ n6_; clear hb hbox hg))
  have n0_ := Aside0.mk (blk_drew BK267.out)
  have n1_ := Aside0.mk (blk_drew BK268.out)
  have n2_ := Aside0.mk (below_drew1 HB.out)
  clear BK267
  clear BK268
  clear HB
  have BK267 := n0_
  have BK268 := n1_
  have HB := n2_
  clear n0_ n1_ n2_
  refine start_ (n := 19) (S := fun w' => w'.cell? ⟨gb267, 0, none⟩ = some (.int .i64 a0_0) ∧ w'.cell? ⟨gb267, 1, none⟩ = some (.int .i64 a0_1) ∧ w'.cell? ⟨gb267, 2, none⟩ = some (.int .i64 a0_2) ∧ w'.cell? ⟨gb267, 3, none⟩ = some (.int .i64 a0_3) ∧ w'.cell? ⟨gb267, 4, none⟩ = some (.int .i64 a0_4) ∧ w'.cell? ⟨gb267, 5, none⟩ = some (.int .i64 a0_5) ∧ w'.cell? ⟨gb267, 6, none⟩ = some (.int .i64 a0_6) ∧ w'.cell? ⟨gb267, 7, none⟩ = some (.int .i64 a0_7) ∧ w'.cell? ⟨gb267, 8, none⟩ = some (.int .i64 a0_8) ∧ w'.cell? ⟨gb267, 9, none⟩ = some (.int .i64 a0_9) ∧ w'.cell? ⟨gb267, 10, none⟩ = some (.int .i64 a0_10) ∧ w'.cell? ⟨gb267, 11, none⟩ = some (.slice a0_11.A a0_11.n a0_11.c) ∧ w'.cell? ⟨gb268, 0, none⟩ = some (.int .i64 a1_0) ∧ w'.cell? ⟨gb268, 1, none⟩ = some (.int .i64 a1_1) ∧ w'.cell? ⟨gb268, 2, none⟩ = some (.int .i64 a1_2) ∧ w'.cell? ⟨gb268, 3, none⟩ = some (.int .i64 a1_3) ∧ w'.cell? ⟨gb268, 4, none⟩ = some (.int .i64 a1_4) ∧ w'.cell? ⟨gb268, 5, none⟩ = some (.int .i64 a1_5) ∧ w'.cell? ⟨gb268, 6, none⟩ = some (.int .i64 a1_6) ∧ w'.cell? ⟨gb268, 7, none⟩ = some (.int .i64 a1_7) ∧ w'.cell? ⟨gb268, 8, none⟩ = some (.int .i64 a1_8) ∧ w'.cell? ⟨gb268, 9, none⟩ = some (.int .i64 a1_9) ∧ w'.cell? ⟨gb268, 10, none⟩ = some (.int .i64 a1_10) ∧ w'.cell? ⟨gb268, 11, none⟩ = some (.slice a1_11.A a1_11.n a1_11.c)) (ds := []) #[false, false, false, false, false, false, false, false, false, false, false, false, false, false, false, false, false, false, false] (by kernel_rfl) rfl rfl ⟨(blk_cell BK267.out 0).trans rfl, (blk_cell BK267.out 1).trans rfl, (blk_cell BK267.out 2).trans rfl, (blk_cell BK267.out 3).trans rfl, (blk_cell BK267.out 4).trans rfl, (blk_cell BK267.out 5).trans rfl, (blk_cell BK267.out 6).trans rfl, (blk_cell BK267.out 7).trans rfl, (blk_cell BK267.out 8).trans rfl, (blk_cell BK267.out 9).trans rfl, (blk_cell BK267.out 10).trans rfl, (blk_cell BK267.out 11).trans rfl, (blk_cell BK268.out 0).trans rfl, (blk_cell BK268.out 1).trans rfl, (blk_cell BK268.out 2).trans rfl, (blk_cell BK268.out 3).trans rfl, (blk_cell BK268.out 4).trans rfl, (blk_cell BK268.out 5).trans rfl, (blk_cell BK268.out 6).trans rfl, (blk_cell BK268.out 7).trans rfl, (blk_cell BK268.out 8).trans rfl, (blk_cell BK268.out 9).trans rfl, (blk_cell BK268.out 10).trans rfl, (blk_cell BK268.out 11).trans rfl⟩ (fun hHeld => ?_); refine with_tabW job_DueL.tab1 job_DueL.bits1 (fun HT_ HW_ => ?_)
  generalize w7.drew = w8 at BK267 BK268 HB hHeld ⊢
  refine pure_ (i := 0) (N := some 5) (v := ?_) (a' := ?_) #[true, false, false, false, false, false, false, false, false, false, false, false, false, false, false, false, false, false, false] rfl rfl (any_of HT_.out (by kernel_rfl)) (fun _ _ _ h => h) (Or.inl ⟨by rfl, ?_⟩) ?_ ?_
  rotate_left
  · intro w'
    go_simp
    with_reducible rfl
  rotate_left
  · simp only [Act.put, List.setIfInBounds_toArray, List.set_cons_zero, List.set_cons_succ, i64_w, i32_w]
    rfl
  refine pure_ (i := 2) (N := some 7) (v := ?_) (a' := ?_) #[true, false, true, false, false, false, false, false, false, false, false, false, false, false, false, false, false, false, false] rfl rfl (any_of HT_.out (by kernel_rfl)) (fun _ _ _ h => h) (Or.inl ⟨by rfl, ?_⟩) ?_ ?_
  rotate_left
  · intro w'
    go_simp
    with_reducible rfl
  rotate_left
  · simp only [Act.put, List.setIfInBounds_toArray, List.set_cons_zero, List.set_cons_succ, i64_w, i32_w]
    rfl
  refine pure_ (i := 5) (N := some 10) (v := ?_) (a' := ?_) #[true, false, true, false, false, true, false, false, false, false, false, false, false, false, false, false, false, false, false] rfl rfl (any_of HT_.out (by kernel_rfl)) (fun _ _ _ h => h) (Or.inl ⟨by rfl, ?_⟩) ?_ ?_
  rotate_left
  · intro w'
    go_simp
    with_reducible rfl
  rotate_left
  · simp only [Act.put, List.setIfInBounds_toArray, List.set_cons_zero, List.set_cons_succ, i64_w, i32_w]
    rfl
  refine pure_ (i := 7) (N := some 12) (v := ?_) (a' := ?_) #[true, false, true, false, false, true, false, true, false, false, false, false, false, false, false, false, false, false, false] rfl rfl (any_of HT_.out (by kernel_rfl)) (fun _ _ _ h => h) (Or.inl ⟨by rfl, ?_⟩) ?_ ?_
  rotate_left
  · intro w'
    go_simp
    with_reducible rfl
  rotate_left
  · simp only [Act.put, List.setIfInBounds_toArray, List.set_cons_zero, List.set_cons_succ, i64_w, i32_w]
    rfl
  refine pure_ (i := 11) (N := some 16) (v := ?_) (a' := ?_) #[true, false, true, false, false, true, false, true, false, false, false, true, false, false, false, false, false, false, false] rfl rfl (any_of HT_.out (by kernel_rfl)) (fun _ _ _ h => h) (Or.inl ⟨by rfl, ?_⟩) ?_ ?_
  rotate_left
  · intro w'
    go_simp
    with_reducible rfl
  rotate_left
  · simp only [Act.put, List.setIfInBounds_toArray, List.set_cons_zero, List.set_cons_succ, i64_w, i32_w]
    rfl
  refine pure_ (i := 13) (N := some 18) (v := ?_) (a' := ?_) #[true, false, true, false, false, true, false, true, false, false, false, true, false, true, false, false, false, false, false] rfl rfl (any_of HT_.out (by kernel_rfl)) (fun _ _ _ h => h) (Or.inl ⟨by rfl, ?_⟩) ?_ ?_
  rotate_left
  · intro w'
    go_simp
    with_reducible rfl
  rotate_left
  · simp only [Act.put, List.setIfInBounds_toArray, List.set_cons_zero, List.set_cons_succ, i64_w, i32_w]
    rfl
  refine take_ (i := 1) (N := some 6) (v := ?_) (a' := ?_) #[true, true, true, false, false, true, false, true, false, false, false, true, false, true, false, false, false, false, false] rfl rfl (take_ofW HT_.out HW_.out (by kernel_rfl)) (fun _ _ _ h => h) (Or.inl ⟨by rfl, ?_⟩) hHeld ?_ ?_
  rotate_left
  · rintro w' ⟨s0, s1, s2, s3, s4, s5, s6, s7, s8, s9, s10, s11, s12, s13, s14, s15, s16, s17, s18, s19, s20, s21, s22, s23⟩
    go_simp
    with_reducible rfl
  rotate_left
  · simp only [Act.put, List.setIfInBounds_toArray, List.set_cons_zero, List.set_cons_succ, i64_w, i32_w]
    rfl
  refine take_ (i := 3) (N := some 8) (v := ?_) (a' := ?_) #[true, true, true, true, false, true, false, true, false, false, false, true, false, true, false, false, false, false, false] rfl rfl (take_ofW HT_.out HW_.out (by kernel_rfl)) (fun _ _ _ h => h) (Or.inl ⟨by rfl, ?_⟩) hHeld ?_ ?_
  rotate_left
  · rintro w' ⟨s0, s1, s2, s3, s4, s5, s6, s7, s8, s9, s10, s11, s12, s13, s14, s15, s16, s17, s18, s19, s20, s21, s22, s23⟩
    go_simp
    with_reducible rfl
  rotate_left
  · simp only [Act.put, List.setIfInBounds_toArray, List.set_cons_zero, List.set_cons_succ, i64_w, i32_w]
    rfl
  refine pure_ (i := 4) (N := some 9) (v := ?_) (a' := ?_) #[true, true, true, true, true, true, false, true, false, false, false, true, false, true, false, false, false, false, false] rfl rfl (any_of HT_.out (by kernel_rfl)) (fun _ _ _ h => h) (Or.inl ⟨by rfl, ?_⟩) ?_ ?_
  rotate_left
  · intro w'
    go_simp
    with_reducible rfl
  rotate_left
  · simp only [Act.put, List.setIfInBounds_toArray, List.set_cons_zero, List.set_cons_succ, i64_w, i32_w]
    rfl
  refine take_ (i := 6) (N := some 11) (v := ?_) (a' := ?_) #[true, true, true, true, true, true, true, true, false, false, false, true, false, true, false, false, false, false, false] rfl rfl (take_ofW HT_.out HW_.out (by kernel_rfl)) (fun _ _ _ h => h) (Or.inl ⟨by rfl, ?_⟩) hHeld ?_ ?_
  rotate_left
  · rintro w' ⟨s0, s1, s2, s3, s4, s5, s6, s7, s8, s9, s10, s11, s12, s13, s14, s15, s16, s17, s18, s19, s20, s21, s22, s23⟩
    go_simp
    with_reducible rfl
  rotate_left
  · simp only [Act.put, List.setIfInBounds_toArray, List.set_cons_zero, List.set_cons_succ, i64_w, i32_w]
    rfl
  refine take_ (i := 8) (N := some 13) (v := ?_) (a' := ?_) #[true, true, true, true, true, true, true, true, true, false, false, true, false, true, false, false, false, false, false] rfl rfl (take_ofW HT_.out HW_.out (by kernel_rfl)) (fun _ _ _ h => h) (Or.inl ⟨by rfl, ?_⟩) hHeld ?_ ?_
  rotate_left
  · rintro w' ⟨s0, s1, s2, s3, s4, s5, s6, s7, s8, s9, s10, s11, s12, s13, s14, s15, s16, s17, s18, s19, s20, s21, s22, s23⟩
    go_simp
    with_reducible rfl
  rotate_left
  · simp only [Act.put, List.setIfInBounds_toArray, List.set_cons_zero, List.set_cons_succ, i64_w, i32_w]
    rfl
  refine pure_ (i := 9) (N := some 14) (v := ?_) (a' := ?_) #[true, true, true, true, true, true, true, true, true, true, false, true, false, true, false, false, false, false, false] rfl rfl (any_of HT_.out (by kernel_rfl)) (fun _ _ _ h => h) (Or.inl ⟨by rfl, ?_⟩) ?_ ?_
  rotate_left
  · intro w'
    go_simp
    with_reducible rfl
  rotate_left
  · simp only [Act.put, List.setIfInBounds_toArray, List.set_cons_zero, List.set_cons_succ, i64_w, i32_w]
    rfl
  refine take_ (i := 12) (N := some 17) (v := ?_) (a' := ?_) #[true, true, true, true, true, true, true, true, true, true, false, true, true, true, false, false, false, false, false] rfl rfl (take_ofW HT_.out HW_.out (by kernel_rfl)) (fun _ _ _ h => h) (Or.inl ⟨by rfl, ?_⟩) hHeld ?_ ?_
  rotate_left
  · rintro w' ⟨s0, s1, s2, s3, s4, s5, s6, s7, s8, s9, s10, s11, s12, s13, s14, s15, s16, s17, s18, s19, s20, s21, s22, s23⟩
    go_simp
    with_reducible rfl
  rotate_left
  · simp only [Act.put, List.setIfInBounds_toArray, List.set_cons_zero, List.set_cons_succ, i64_w, i32_w]
    rfl
  refine take_ (i := 14) (N := some 19) (v := ?_) (a' := ?_) #[true, true, true, true, true, true, true, true, true, true, false, true, true, true, true, false, false, false, false] rfl rfl (take_ofW HT_.out HW_.out (by kernel_rfl)) (fun _ _ _ h => h) (Or.inl ⟨by rfl, ?_⟩) hHeld ?_ ?_
  rotate_left
  · rintro w' ⟨s0, s1, s2, s3, s4, s5, s6, s7, s8, s9, s10, s11, s12, s13, s14, s15, s16, s17, s18, s19, s20, s21, s22, s23⟩
    go_simp
    with_reducible rfl
  rotate_left
  · simp only [Act.put, List.setIfInBounds_toArray, List.set_cons_zero, List.set_cons_succ, i64_w, i32_w]
    rfl
  refine one_ (i := 10) (N := some 15) #[true, true, true, true, true, true, true, true, true, true, true, true, true, true, true, false, false, false, false] rfl rfl (one_of HT_.out (by kernel_rfl)) (by decide) (fun K hK => ?_)
  refine goes_ Try.func36 (by kernel_rfl) rfl #[.int .i64 (wrap64 (a0_8 + a0_3)), .int .i64 (wrap64 (a1_8 + a1_3))] (by rfl) rfl rfl (by (try simp only [List.map_toArray, List.map_cons, List.map_nil]); first | done | rfl | (simp only [List.length_drop, List.length_take]; rfl)) ?_
  with_reducible refine (cmp_Compare_int.calls (wrap64 (a0_8 + a0_3)) (wrap64 (a1_8 + a1_3)) t269 _ A3.out).mono ?_
  rintro e w' ⟨rfl, ⟨nd, rfl⟩⟩
  refine ⟨_, rfl, ?_⟩
  refine hK.out _ _ ⟨(blk_cell BK267.out 0).trans rfl, (blk_cell BK267.out 1).trans rfl, (blk_cell BK267.out 2).trans rfl, (blk_cell BK267.out 3).trans rfl, (blk_cell BK267.out 4).trans rfl, (blk_cell BK267.out 5).trans rfl, (blk_cell BK267.out 6).trans rfl, (blk_cell BK267.out 7).trans rfl, (blk_cell BK267.out 8).trans rfl, (blk_cell BK267.out 9).trans rfl, (blk_cell BK267.out 10).trans rfl, (blk_cell BK267.out 11).trans rfl, (blk_cell BK268.out 0).trans rfl, (blk_cell BK268.out 1).trans rfl, (blk_cell BK268.out 2).trans rfl, (blk_cell BK268.out 3).trans rfl, (blk_cell BK268.out 4).trans rfl, (blk_cell BK268.out 5).trans rfl, (blk_cell BK268.out 6).trans rfl, (blk_cell BK268.out 7).trans rfl, (blk_cell BK268.out 8).trans rfl, (blk_cell BK268.out 9).trans rfl, (blk_cell BK268.out 10).trans rfl, (blk_cell BK268.out 11).trans rfl⟩ (fun hHeld => ?_)
  clear hK K
  refine norm_ (a' := ?_) ?_ ?_
  rotate_left
  · show Act.put _ (some 15) _ = _
    simp only [Act.put, List.setIfInBounds_toArray, List.set_cons_zero, List.set_cons_succ, i64_w, i32_w]
    rfl
  refine one_ (i := 15) (N := some 20) #[true, true, true, true, true, true, true, true, true, true, true, true, true, true, true, true, false, false, false] rfl rfl (one_of HT_.out (by kernel_rfl)) (by decide) (fun K hK => ?_)
  refine goes_ Try.func36 (by kernel_rfl) rfl #[.int .i64 a0_0, .int .i64 a1_0] (by rfl) rfl rfl (by (try simp only [List.map_toArray, List.map_cons, List.map_nil]); first | done | rfl | (simp only [List.length_drop, List.length_take]; rfl)) ?_
  with_reducible refine (cmp_Compare_int.calls a0_0 a1_0 t270 _ A4.out).mono ?_
  rintro e w' ⟨rfl, ⟨nd, rfl⟩⟩
  refine ⟨_, rfl, ?_⟩
  refine hK.out _ _ ⟨(blk_cell BK267.out 0).trans rfl, (blk_cell BK267.out 1).trans rfl, (blk_cell BK267.out 2).trans rfl, (blk_cell BK267.out 3).trans rfl, (blk_cell BK267.out 4).trans rfl, (blk_cell BK267.out 5).trans rfl, (blk_cell BK267.out 6).trans rfl, (blk_cell BK267.out 7).trans rfl, (blk_cell BK267.out 8).trans rfl, (blk_cell BK267.out 9).trans rfl, (blk_cell BK267.out 10).trans rfl, (blk_cell BK267.out 11).trans rfl, (blk_cell BK268.out 0).trans rfl, (blk_cell BK268.out 1).trans rfl, (blk_cell BK268.out 2).trans rfl, (blk_cell BK268.out 3).trans rfl, (blk_cell BK268.out 4).trans rfl, (blk_cell BK268.out 5).trans rfl, (blk_cell BK268.out 6).trans rfl, (blk_cell BK268.out 7).trans rfl, (blk_cell BK268.out 8).trans rfl, (blk_cell BK268.out 9).trans rfl, (blk_cell BK268.out 10).trans rfl, (blk_cell BK268.out 11).trans rfl⟩ (fun hHeld => ?_)
  clear hK K
  refine norm_ (a' := ?_) ?_ ?_
  rotate_left
  · show Act.put _ (some 20) _ = _
    simp only [Act.put, List.setIfInBounds_toArray, List.set_cons_zero, List.set_cons_succ, i64_w, i32_w]
    rfl
  refine one_ (i := 16) (N := some 21) #[true, true, true, true, true, true, true, true, true, true, true, true, true, true, true, true, true, false, false] rfl rfl (one_of HT_.out (by kernel_rfl)) (by decide) (fun K hK => ?_)
  refine Kd.R_lit_step (Kd.int .i64) _ 3 ?hg (N := 21) ?hd (xs := ([t269, t270] : List Int)) (inner := [.int .i64 t269, .int .i64 t270]) (ok := fun _ => True) (okp := fun _ => True) ?hr ?hp (fun _ hk => hk) trivial (Below.refl _ _) (Nat.le_refl _) (by simp) ?_; (case hd => rfl); (case hg => rfl); (case hr => first | (go_simp; done) | (go_simp; rfl)); (case hp => exact (Reps.one (show Kd.M (Kd.int .i64) _ _ _ t269 [.int .i64 t269] from rfl) (Reps.one (show Kd.M (Kd.int .i64) _ _ _ t270 [.int .i64 t270] from rfl) (Reps.none _ _))))
  intro v272 w9 ho10 hb hg_ hnew_
  clear hg_ hnew_
  (first | rw [← Ny271.out] at ho10 | (simp only [Int.reduceToNat] at ho10; rw [← Ny271.out] at ho10))
  have n0_ := Aside0.mk (Kd.R_lower ho10 (below_size (by repeat (first | (with_reducible first | exact HB.out | apply below_alloc | apply pw_below_drewN | apply below_drew1 | refine below_set ?_ GE267.out | refine below_set ?_ GE268.out) | exact HB.out))))
  have n1_ := Aside0.mk (blk_below (g := gb267) (o := .cells #[.int .i64 a0_0, .int .i64 a0_1, .int .i64 a0_2, .int .i64 a0_3, .int .i64 a0_4, .int .i64 a0_5, .int .i64 a0_6, .int .i64 a0_7, .int .i64 a0_8, .int .i64 a0_9, .int .i64 a0_10, .slice a0_11.A a0_11.n a0_11.c] 32 (0, 0)) (by (with_reducible repeat first | apply blk_drewN | apply blk_drew | apply blk_alloc); exact BK267.out) hb)
  have n2_ := Aside0.mk (blk_below (g := gb268) (o := .cells #[.int .i64 a1_0, .int .i64 a1_1, .int .i64 a1_2, .int .i64 a1_3, .int .i64 a1_4, .int .i64 a1_5, .int .i64 a1_6, .int .i64 a1_7, .int .i64 a1_8, .int .i64 a1_9, .int .i64 a1_10, .slice a1_11.A a1_11.n a1_11.c] 32 (0, 0)) (by (with_reducible repeat first | apply blk_drewN | apply blk_drew | apply blk_alloc); exact BK268.out) hb)
  have n3_ := Aside0.mk (below_step (by repeat (first | (with_reducible first | exact HB.out | apply below_alloc | apply pw_below_drewN | apply below_drew1 | refine below_set ?_ GE267.out | refine below_set ?_ GE268.out) | exact HB.out)) hb)
  clear BK267
  clear BK268
  clear HB
  have HO273 := n0_
  have BK267 := n1_
  have BK268 := n2_
  have HB := n3_
  clear n0_ n1_ n2_ n3_
  clear hb ho10
  obtain ⟨Ao11, co11, eo11⟩ := Kd.R_slice HO273.out
  (first | subst eo11 | (injection eo11 with f1_ f2_ f3_; have f4_ := f1_.symm; have f5_ := f3_.symm; clear f1_ f2_ f3_; subst f4_; subst f5_))
  refine hK.out _ _ ⟨(blk_cell BK267.out 0).trans rfl, (blk_cell BK267.out 1).trans rfl, (blk_cell BK267.out 2).trans rfl, (blk_cell BK267.out 3).trans rfl, (blk_cell BK267.out 4).trans rfl, (blk_cell BK267.out 5).trans rfl, (blk_cell BK267.out 6).trans rfl, (blk_cell BK267.out 7).trans rfl, (blk_cell BK267.out 8).trans rfl, (blk_cell BK267.out 9).trans rfl, (blk_cell BK267.out 10).trans rfl, (blk_cell BK267.out 11).trans rfl, (blk_cell BK268.out 0).trans rfl, (blk_cell BK268.out 1).trans rfl, (blk_cell BK268.out 2).trans rfl, (blk_cell BK268.out 3).trans rfl, (blk_cell BK268.out 4).trans rfl, (blk_cell BK268.out 5).trans rfl, (blk_cell BK268.out 6).trans rfl, (blk_cell BK268.out 7).trans rfl, (blk_cell BK268.out 8).trans rfl, (blk_cell BK268.out 9).trans rfl, (blk_cell BK268.out 10).trans rfl, (blk_cell BK268.out 11).trans rfl⟩ (fun hHeld => ?_)
  clear hK K
  refine norm_ (a' := ?_) ?_ ?_
  rotate_left
  · show Act.put _ (some 21) _ = _
    simp only [Act.put, List.setIfInBounds_toArray, List.set_cons_zero, List.set_cons_succ, i64_w, i32_w]
    rfl
  refine one_ (i := 17) (N := some 22) #[true, true, true, true, true, true, true, true, true, true, true, true, true, true, true, true, true, true, false] rfl rfl (one_of HT_.out (by kernel_rfl)) (by decide) (fun K hK => ?_)
  refine goes_ Try.func35 (by kernel_rfl) rfl #[.slice Ao11 y271.length co11] (by rfl) rfl rfl (by (try simp only [List.map_toArray, List.map_cons, List.map_nil]); first | done | rfl | (simp only [List.length_drop, List.length_take]; rfl)) ?_
  with_reducible refine (cmp_Or_int.calls k _ _ y271 t274 _ ?side1 ?side2 A5.out).mono ?_
  (case side1 => repeat (first | exact (Kd.R_reads' HO273.out).2.2 | (with_reducible refine Kd.C_alloc ?_ _) | (with_reducible refine Kd.C_drewN ?_ _) | (with_reducible refine Kd.C_drew ?_)))
  (case side2 => exact (Kd.R_reads' HO273.out).2.1)
  rintro e w' ⟨rfl, ⟨nd, rfl⟩⟩
  refine ⟨_, rfl, ?_⟩
  refine hK.out _ _ ⟨(blk_cell BK267.out 0).trans rfl, (blk_cell BK267.out 1).trans rfl, (blk_cell BK267.out 2).trans rfl, (blk_cell BK267.out 3).trans rfl, (blk_cell BK267.out 4).trans rfl, (blk_cell BK267.out 5).trans rfl, (blk_cell BK267.out 6).trans rfl, (blk_cell BK267.out 7).trans rfl, (blk_cell BK267.out 8).trans rfl, (blk_cell BK267.out 9).trans rfl, (blk_cell BK267.out 10).trans rfl, (blk_cell BK267.out 11).trans rfl, (blk_cell BK268.out 0).trans rfl, (blk_cell BK268.out 1).trans rfl, (blk_cell BK268.out 2).trans rfl, (blk_cell BK268.out 3).trans rfl, (blk_cell BK268.out 4).trans rfl, (blk_cell BK268.out 5).trans rfl, (blk_cell BK268.out 6).trans rfl, (blk_cell BK268.out 7).trans rfl, (blk_cell BK268.out 8).trans rfl, (blk_cell BK268.out 9).trans rfl, (blk_cell BK268.out 10).trans rfl, (blk_cell BK268.out 11).trans rfl⟩ (fun hHeld => ?_)
  clear hK K
  refine norm_ (a' := ?_) ?_ ?_
  rotate_left
  · show Act.put _ (some 22) _ = _
    simp only [Act.put, List.setIfInBounds_toArray, List.set_cons_zero, List.set_cons_succ, i64_w, i32_w]
    rfl
  refine pure_ (i := 18) (N := some 4) (v := ?_) (a' := ?_) #[true, true, true, true, true, true, true, true, true, true, true, true, true, true, true, true, true, true, true] rfl rfl (any_of HT_.out (by kernel_rfl)) (fun _ _ _ h => h) (Or.inl ⟨by rfl, ?_⟩) ?_ ?_
  rotate_left
  · intro w'
    go_simp
    with_reducible rfl
  rotate_left
  · simp only [Act.put, List.setIfInBounds_toArray, List.set_cons_zero, List.set_cons_succ, i64_w, i32_w]
    rfl
  refine done_ (done_of HT_.out (by kernel_rfl)) ?_
  try go_wp2
  go_ret
  exact ⟨by first | rfl | (simp [errW_none, errW_some] <;> rfl) | (simp [*, errW_none, errW_some] <;> rfl), by repeat (first | (with_reducible first | exact HB.out | apply below_alloc | apply pw_below_drewN | apply below_drew1 | refine below_set ?_ GE267.out | refine below_set ?_ GE268.out) | exact HB.out)⟩

def job_Due_1.f (a0_0 : Int) (a0_1 : Int) (a0_2 : Int) (a0_3 : Int) (a0_4 : Int) (a0_5 : Int) (a0_6 : Int) (a0_7 : Int) (a0_8 : Int) (a0_9 : Int) (a0_10 : Int) (a0_11 : SH) (a1_0 : Int) (a1_1 : Int) (a1_2 : Int) (a1_3 : Int) (a1_4 : Int) (a1_5 : Int) (a1_6 : Int) (a1_7 : Int) (a1_8 : Int) (a1_9 : Int) (a1_10 : Int) (a1_11 : SH) : Option (Int) := job_DueL.f 10 a0_0 a0_1 a0_2 a0_3 a0_4 a0_5 a0_6 a0_7 a0_8 a0_9 a0_10 a0_11 a1_0 a1_1 a1_2 a1_3 a1_4 a1_5 a1_6 a1_7 a1_8 a1_9 a1_10 a1_11
theorem job_Due_1.calls (a0_0 : Int) (a0_1 : Int) (a0_2 : Int) (a0_3 : Int) (a0_4 : Int) (a0_5 : Int) (a0_6 : Int) (a0_7 : Int) (a0_8 : Int) (a0_9 : Int) (a0_10 : Int) (a0_11 : SH) (a1_0 : Int) (a1_1 : Int) (a1_2 : Int) (a1_3 : Int) (a1_4 : Int) (a1_5 : Int) (a1_6 : Int) (a1_7 : Int) (a1_8 : Int) (a1_9 : Int) (a1_10 : Int) (a1_11 : SH) (r : Int) (w : World) (h : job_Due_1.f a0_0 a0_1 a0_2 a0_3 a0_4 a0_5 a0_6 a0_7 a0_8 a0_9 a0_10 a0_11 a1_0 a1_1 a1_2 a1_3 a1_4 a1_5 a1_6 a1_7 a1_8 a1_9 a1_10 a1_11 = some r) :
    Calls Try.prog 47 #[.agg #[.int .i64 a0_0, .int .i64 a0_1, .int .i64 a0_2, .int .i64 a0_3, .int .i64 a0_4, .int .i64 a0_5, .int .i64 a0_6, .int .i64 a0_7, .int .i64 a0_8, .int .i64 a0_9, .int .i64 a0_10, .slice a0_11.A a0_11.n a0_11.c], .agg #[.int .i64 a1_0, .int .i64 a1_1, .int .i64 a1_2, .int .i64 a1_3, .int .i64 a1_4, .int .i64 a1_5, .int .i64 a1_6, .int .i64 a1_7, .int .i64 a1_8, .int .i64 a1_9, .int .i64 a1_10, .slice a1_11.A a1_11.n a1_11.c]] w fun e w' => e = .returned (.int .i64 r) ∧ Below w.heap.size w w' := job_DueL.calls 10 a0_0 a0_1 a0_2 a0_3 a0_4 a0_5 a0_6 a0_7 a0_8 a0_9 a0_10 a0_11 a1_0 a1_1 a1_2 a1_3 a1_4 a1_5 a1_6 a1_7 a1_8 a1_9 a1_10 a1_11 r w h
end Go.Proofs.Ytkhfgflcanmefaa.PAll
end
section
namespace Go.Proofs.Ytkhfgflcanmefaa.PAll
open Go.RowKit Go.Proofs.YtkhfgflcanmefaaW.PrintWords Go.Proofs.YtkhfgflcanmefaaW.PrintLast Go.Proofs.YtkhfgflcanmefaaW.PrintMore
attribute [local go_sem] max2_int min2_int max_two min_two max_three min_three max_four min_four   -- for this text's walks alone
set_option linter.unusedVariables false
set_option linter.unusedSimpArgs false

mutual
def slices_insertionSortCmpFunc_Job__job_Due_1.l0 : Nat → List (S32) → Int → Int → Int → Option ((List (S32)))
 | 0, _, _, _, _ => none
 | k + 1, x0, x1, x2, x8 => if x8 < x2 then (slices_insertionSortCmpFunc_Job__job_Due_1.l1 k x0 x1 x2 x8 x8) else (some x0)
def slices_insertionSortCmpFunc_Job__job_Due_1.l1 : Nat → List (S32) → Int → Int → Int → Int → Option ((List (S32)))
 | 0, _, _, _, _, _ => none
 | k + 1, x0, x1, x2, x8, x9 => if x9 > x1 then (if 0 ≤ x9 then (if x9 < (x0.length : Int) then (if 0 ≤ (wrap64 (x9 - 1)) then (if (wrap64 (x9 - 1)) < (x0.length : Int) then ((job_Due_1.f ((rd_T32 x0 x9).f0) ((rd_T32 x0 x9).f1) ((rd_T32 x0 x9).f2) ((rd_T32 x0 x9).f3) ((rd_T32 x0 x9).f4) ((rd_T32 x0 x9).f5) ((rd_T32 x0 x9).f6) ((rd_T32 x0 x9).f7) ((rd_T32 x0 x9).f8) ((rd_T32 x0 x9).f9) ((rd_T32 x0 x9).f10) ((rd_T32 x0 x9).f11) ((rd_T32 x0 (wrap64 (x9 - 1))).f0) ((rd_T32 x0 (wrap64 (x9 - 1))).f1) ((rd_T32 x0 (wrap64 (x9 - 1))).f2) ((rd_T32 x0 (wrap64 (x9 - 1))).f3) ((rd_T32 x0 (wrap64 (x9 - 1))).f4) ((rd_T32 x0 (wrap64 (x9 - 1))).f5) ((rd_T32 x0 (wrap64 (x9 - 1))).f6) ((rd_T32 x0 (wrap64 (x9 - 1))).f7) ((rd_T32 x0 (wrap64 (x9 - 1))).f8) ((rd_T32 x0 (wrap64 (x9 - 1))).f9) ((rd_T32 x0 (wrap64 (x9 - 1))).f10) ((rd_T32 x0 (wrap64 (x9 - 1))).f11)).bind fun t269 => (if t269 < 0 then (slices_insertionSortCmpFunc_Job__job_Due_1.l1 k ((x0.set (x9 : Int).toNat (⟨(rd_T32 x0 (wrap64 (x9 - 1))).f0, (rd_T32 x0 (wrap64 (x9 - 1))).f1, (rd_T32 x0 (wrap64 (x9 - 1))).f2, (rd_T32 x0 (wrap64 (x9 - 1))).f3, (rd_T32 x0 (wrap64 (x9 - 1))).f4, (rd_T32 x0 (wrap64 (x9 - 1))).f5, (rd_T32 x0 (wrap64 (x9 - 1))).f6, (rd_T32 x0 (wrap64 (x9 - 1))).f7, (rd_T32 x0 (wrap64 (x9 - 1))).f8, (rd_T32 x0 (wrap64 (x9 - 1))).f9, (rd_T32 x0 (wrap64 (x9 - 1))).f10, (rd_T32 x0 (wrap64 (x9 - 1))).f11⟩ : S32)).set ((wrap64 (x9 - 1)) : Int).toNat (⟨(rd_T32 x0 x9).f0, (rd_T32 x0 x9).f1, (rd_T32 x0 x9).f2, (rd_T32 x0 x9).f3, (rd_T32 x0 x9).f4, (rd_T32 x0 x9).f5, (rd_T32 x0 x9).f6, (rd_T32 x0 x9).f7, (rd_T32 x0 x9).f8, (rd_T32 x0 x9).f9, (rd_T32 x0 x9).f10, (rd_T32 x0 x9).f11⟩ : S32)) x1 x2 x8 (wrap64 (x9 - 1))) else (slices_insertionSortCmpFunc_Job__job_Due_1.l0 k x0 x1 x2 (wrap64 (x8 + 1))))) else (none)) else (none)) else (none)) else (none)) else (slices_insertionSortCmpFunc_Job__job_Due_1.l0 k x0 x1 x2 (wrap64 (x8 + 1)))
end
def slices_insertionSortCmpFunc_Job__job_Due_1.f (k : Nat) (l0 : List (S32)) (a1 : Int) (a2 : Int)  : Option ((List (S32))) := slices_insertionSortCmpFunc_Job__job_Due_1.l0 k l0 a1 a2 (wrap64 (a1 + 1))
theorem slices_insertionSortCmpFunc_Job__job_Due_1.mono_l : ∀ k, (∀ y0 y1 y2 y3, LeO (slices_insertionSortCmpFunc_Job__job_Due_1.l0 k y0 y1 y2 y3) (slices_insertionSortCmpFunc_Job__job_Due_1.l0 (k + 1) y0 y1 y2 y3)) ∧ (∀ y0 y1 y2 y3 y4, LeO (slices_insertionSortCmpFunc_Job__job_Due_1.l1 k y0 y1 y2 y3 y4) (slices_insertionSortCmpFunc_Job__job_Due_1.l1 (k + 1) y0 y1 y2 y3 y4))
 | 0 => ⟨fun _ _ _ _ r h => by simp [slices_insertionSortCmpFunc_Job__job_Due_1.l0] at h, fun _ _ _ _ _ r h => by simp [slices_insertionSortCmpFunc_Job__job_Due_1.l1] at h⟩
 | k + 1 => by
  obtain ⟨ih0, ih1⟩ := slices_insertionSortCmpFunc_Job__job_Due_1.mono_l k
  refine ⟨?_, ?_⟩
  ·intro y0 y1 y2 y3
   unfold slices_insertionSortCmpFunc_Job__job_Due_1.l0
   repeat' first
   | (with_reducible exact ih0 _ _ _ _)
   | (with_reducible exact ih1 _ _ _ _ _)
   | (with_reducible exact LeO.refl _)
   | (with_reducible exact LeO.none _)
   | (with_reducible refine LeO.ite ?_ ?_)
   | (with_reducible refine LeO.bind ?_ (fun _ => ?_))
   | exact ih0 _ _ _ _
   | exact ih1 _ _ _ _ _
   | exact LeO.none _
   | refine LeO.ite ?_ ?_
   | refine LeO.bind ?_ (fun _ => ?_)
  ·intro y0 y1 y2 y3 y4
   unfold slices_insertionSortCmpFunc_Job__job_Due_1.l1
   repeat' first
   | (with_reducible exact ih0 _ _ _ _)
   | (with_reducible exact ih1 _ _ _ _ _)
   | (with_reducible exact LeO.refl _)
   | (with_reducible exact LeO.none _)
   | (with_reducible refine LeO.ite ?_ ?_)
   | (with_reducible refine LeO.bind ?_ (fun _ => ?_))
   | exact ih0 _ _ _ _
   | exact ih1 _ _ _ _ _
   | exact LeO.none _
   | refine LeO.ite ?_ ?_
   | refine LeO.bind ?_ (fun _ => ?_)
theorem slices_insertionSortCmpFunc_Job__job_Due_1.mono : ∀ a0 a1 a2 k, LeO (slices_insertionSortCmpFunc_Job__job_Due_1.f k a0 a1 a2) (slices_insertionSortCmpFunc_Job__job_Due_1.f (k + 1) a0 a1 a2) := by
 intro a0 a1 a2 k
 obtain ⟨ih0, ih1⟩ := slices_insertionSortCmpFunc_Job__job_Due_1.mono_l k
 unfold slices_insertionSortCmpFunc_Job__job_Due_1.f
 repeat' first
   | (with_reducible exact ih0 _ _ _ _)
   | (with_reducible exact ih1 _ _ _ _ _)
   | (with_reducible exact LeO.refl _)
   | (with_reducible exact LeO.none _)
   | (with_reducible refine LeO.ite ?_ ?_)
   | (with_reducible refine LeO.bind ?_ (fun _ => ?_))
   | exact ih0 _ _ _ _
   | exact ih1 _ _ _ _ _
   | exact LeO.none _
   | refine LeO.ite ?_ ?_
   | refine LeO.bind ?_ (fun _ => ?_)
def slices_insertionSortCmpFunc_Job__job_Due_1.T4 : Bool × List (List Nat × List Nat) := (true, [([], []), ([], []), ([0, 1], [0, 1]), ([2], [2]), ([3], [3]), ([3], [3]), ([3], [3]), ([5, 6, 3], [3, 5, 6]), ([7, 3], [3, 7]), ([3], [3]), ([3], [3]), ([10, 3], [3, 10]), ([9, 11, 3], [3, 9, 11]), ([12, 3], [3, 12]), ([4, 8, 13, 3, 3], [3, 4, 8, 13]), ([14, 3], [3, 14]), ([3, 15], [3, 15])])
def slices_insertionSortCmpFunc_Job__job_Due_1.B4 : List Nat := [0, 0, 3, 7, 15, 15, 15, 111, 239, 15, 15, 1039, 3599, 7695, 16383, 32767, 65535]
theorem slices_insertionSortCmpFunc_Job__job_Due_1.tab4 : rtab .any (opsOf Try.f67 4) = slices_insertionSortCmpFunc_Job__job_Due_1.T4 := by kernel_rfl
theorem slices_insertionSortCmpFunc_Job__job_Due_1.bits4 : waitsOk slices_insertionSortCmpFunc_Job__job_Due_1.T4.2 slices_insertionSortCmpFunc_Job__job_Due_1.B4 = true := by kernel_rfl
def slices_insertionSortCmpFunc_Job__job_Due_1.T6 : Bool × List (List Nat × List Nat) := (true, [([], []), ([], []), ([], []), ([], []), ([3], [3]), ([], []), ([], []), ([6], [6]), ([5, 7], [5, 7]), ([8], [8]), ([], []), ([], []), ([10, 11], [10, 11]), ([12], [12]), ([0, 1, 0, 1, 5, 6, 7, 8, 9, 13], [0, 1]), ([14, 9, 0, 1, 5, 6, 7, 8, 9, 13], [9, 14]), ([2, 4, 0, 1, 2, 3, 4, 5, 6, 7, 8, 9, 10, 11, 12, 13, 14, 15], [2, 4]), ([16, 13, 15, 0, 1, 2, 3, 4, 5, 6, 7, 8, 9, 10, 11, 12, 13, 14, 15], [13, 16])])
def slices_insertionSortCmpFunc_Job__job_Due_1.B6 : List Nat := [0, 0, 0, 0, 8, 0, 0, 64, 224, 480, 0, 0, 3072, 7168, 16355, 32739, 65535, 131071]
theorem slices_insertionSortCmpFunc_Job__job_Due_1.tab6 : rtab .any (opsOf Try.f67 6) = slices_insertionSortCmpFunc_Job__job_Due_1.T6 := by kernel_rfl
theorem slices_insertionSortCmpFunc_Job__job_Due_1.bits6 : waitsOk slices_insertionSortCmpFunc_Job__job_Due_1.T6.2 slices_insertionSortCmpFunc_Job__job_Due_1.B6 = true := by kernel_rfl
set_option maxHeartbeats 8000000 in
set_option maxRecDepth 100000 in
theorem slices_insertionSortCmpFunc_Job__job_Due_1.calls (k : Nat) (P0_ : Nat → Prop) (u9000_ : Value) (l0 : List (S32)) (a1 : Int) (a2 : Int)  (r : List (S32)) (w0 w : World) (hB : Below w0.heap.size w0 w) (ho0 : Kd.R k32 32 w w0.heap.size P0_ u9000_ l0) (h : slices_insertionSortCmpFunc_Job__job_Due_1.f k l0 a1 a2 = some r) :
  Calls Try.prog 67 #[u9000_, .int .i64 a1, .int .i64 a2, .func (.func 47) #[] #[]] w fun e w' => e = .returned (.tuple #[]) ∧ Kd.R k32 32 w' w0.heap.size (fun k_ => (P0_ k_ ∨ w.heap.size ≤ k_)) u9000_ r ∧ Below w0.heap.size w0 w' ∧ Kept w w' (fun k_ => P0_ k_) := by
 have hu32 := Try.underlying32
 have HO0 := Aside0.mk (show Kd.R k32 32 w w0.heap.size (fun k_ => (P0_ k_ ∨ w.heap.size ≤ k_)) u9000_ l0 from Kd.R_mono ho0 (fun k_ hk => (.inl hk)))
 have HK := Aside0.mk (Kept.refl w (fun k_ => P0_ k_))
 have HW0 := Aside0.mk hB.size
 have HB := Aside0.mk hB
 clear hB
 have H : (slices_insertionSortCmpFunc_Job__job_Due_1.l0 k l0 a1 a2 (wrap64 (a1 + 1))) = some r := h
 clear h
 have H' := Aside0.mk H
 clear H
 go_enter Try.func67, Try.ntmps67
 go_wp2
 go_loopg [8] k (fun kq v8 w' => ∃ (x0_1 : List (S32)) (x8_1 : Int), v8 = .int .i64 x8_1 ∧ Aside0 (slices_insertionSortCmpFunc_Job__job_Due_1.l0 kq x0_1 a1 a2 x8_1 = some r) ∧ Aside0 (kq ≤ k) ∧ Aside0 (Kd.R k32 32 w' w0.heap.size (fun k_ => (P0_ k_ ∨ w.heap.size ≤ k_)) u9000_ x0_1) ∧ Aside0 (Kept w w' (fun k_ => P0_ k_)) ∧ Aside0 (Below w0.heap.size w0 w'))
 case atStart => exact ⟨(l0), (wrap64 (a1 + 1)), ez, H', ⟨Nat.le_refl _⟩, ⟨mR HO0.out⟩, ⟨mK HK.out⟩, ⟨mB HB.out⟩⟩
 case round =>
  clear H'
  (try clear p2)
  obtain ⟨x0_1, x8_1, rfl, HA, HK1, HO_0, HK, HB⟩ := hrel
  cases gk with
  | zero => exact absurd HA.out (by simp [slices_insertionSortCmpFunc_Job__job_Due_1.l0])
  | succ k1 =>
   have H := HA.out
   clear HA
   simp only [slices_insertionSortCmpFunc_Job__job_Due_1.l0] at H
   by_cases c5 : x8_1 < a2
   ·rw [if_pos c5] at H
    have c5b0 : decide (x8_1 < a2) = true := decide_eq_true c5
    clear c5
    have H' := Aside0.mk H
    clear H
    go_wp2
    go_loopg [9] k1 (fun kq v9 w' => ∃ (x0_2 : List (S32)) (x9_2 : Int), v9 = .int .i64 x9_2 ∧ Aside0 (slices_insertionSortCmpFunc_Job__job_Due_1.l1 kq x0_2 a1 a2 x8_1 x9_2 = some r) ∧ Aside0 (kq ≤ k1) ∧ Aside0 (Kd.R k32 32 w' w0.heap.size (fun k_ => (P0_ k_ ∨ w.heap.size ≤ k_)) u9000_ x0_2) ∧ Aside0 (Kept w w' (fun k_ => P0_ k_)) ∧ Aside0 (Below w0.heap.size w0 w'))
    case atStart => exact ⟨(x0_1), (x8_1), ez, H', ⟨Nat.le_refl _⟩, ⟨mR HO_0.out⟩, ⟨mK HK.out⟩, ⟨mB HB.out⟩⟩
    case round =>
     clear H'
     (try clear p2); (try clear c5); (try clear c5b0); (try clear p2)
     obtain ⟨x0_2, x9_2, rfl, HA, HK2, HO_0, HK, HB⟩ := hrel
     cases gk with
     | zero => exact absurd HA.out (by simp [slices_insertionSortCmpFunc_Job__job_Due_1.l1])
     | succ k2 =>
      have H := HA.out
      clear HA
      simp only [slices_insertionSortCmpFunc_Job__job_Due_1.l1] at H
      by_cases c6 : x9_2 > a1
      ·rw [if_pos c6] at H
       have c6b0 : decide (a1 < x9_2) = true := decide_eq_true c6
       clear c6
       by_cases c7 : 0 ≤ x9_2
       ·rw [if_pos c7] at H
        have c7b0 : decide (0 ≤ x9_2) = true := decide_eq_true c7
        clear c7
        by_cases c8 : x9_2 < (x0_2.length : Int)
        ·rw [if_pos c8] at H
         have c8b0 : decide (x9_2 < (x0_2.length : Int)) = true := decide_eq_true c8
         clear c8
         obtain ⟨ji9, hji9⟩ : ∃ j_ : Int, (wrap64 (x9_2 - 1)) = j_ := ⟨_, rfl⟩
         replace H : (if 0 ≤ (ji9) then (if (ji9) < (x0_2.length : Int) then ((job_Due_1.f ((rd_T32 x0_2 x9_2).f0) ((rd_T32 x0_2 x9_2).f1) ((rd_T32 x0_2 x9_2).f2) ((rd_T32 x0_2 x9_2).f3) ((rd_T32 x0_2 x9_2).f4) ((rd_T32 x0_2 x9_2).f5) ((rd_T32 x0_2 x9_2).f6) ((rd_T32 x0_2 x9_2).f7) ((rd_T32 x0_2 x9_2).f8) ((rd_T32 x0_2 x9_2).f9) ((rd_T32 x0_2 x9_2).f10) ((rd_T32 x0_2 x9_2).f11) ((rd_T32 x0_2 (ji9)).f0) ((rd_T32 x0_2 (ji9)).f1) ((rd_T32 x0_2 (ji9)).f2) ((rd_T32 x0_2 (ji9)).f3) ((rd_T32 x0_2 (ji9)).f4) ((rd_T32 x0_2 (ji9)).f5) ((rd_T32 x0_2 (ji9)).f6) ((rd_T32 x0_2 (ji9)).f7) ((rd_T32 x0_2 (ji9)).f8) ((rd_T32 x0_2 (ji9)).f9) ((rd_T32 x0_2 (ji9)).f10) ((rd_T32 x0_2 (ji9)).f11)).bind fun t269 => (if t269 < 0 then (slices_insertionSortCmpFunc_Job__job_Due_1.l1 k2 ((x0_2.set (x9_2 : Int).toNat (⟨(rd_T32 x0_2 (ji9)).f0, (rd_T32 x0_2 (ji9)).f1, (rd_T32 x0_2 (ji9)).f2, (rd_T32 x0_2 (ji9)).f3, (rd_T32 x0_2 (ji9)).f4, (rd_T32 x0_2 (ji9)).f5, (rd_T32 x0_2 (ji9)).f6, (rd_T32 x0_2 (ji9)).f7, (rd_T32 x0_2 (ji9)).f8, (rd_T32 x0_2 (ji9)).f9, (rd_T32 x0_2 (ji9)).f10, (rd_T32 x0_2 (ji9)).f11⟩ : S32)).set ((ji9) : Int).toNat (⟨(rd_T32 x0_2 x9_2).f0, (rd_T32 x0_2 x9_2).f1, (rd_T32 x0_2 x9_2).f2, (rd_T32 x0_2 x9_2).f3, (rd_T32 x0_2 x9_2).f4, (rd_T32 x0_2 x9_2).f5, (rd_T32 x0_2 x9_2).f6, (rd_T32 x0_2 x9_2).f7, (rd_T32 x0_2 x9_2).f8, (rd_T32 x0_2 x9_2).f9, (rd_T32 x0_2 x9_2).f10, (rd_T32 x0_2 x9_2).f11⟩ : S32)) a1 a2 x8_1 ji9) else (slices_insertionSortCmpFunc_Job__job_Due_1.l0 k2 x0_2 a1 a2 (wrap64 (x8_1 + 1))))) else (none)) else (none)) = some r := by first | (rw [hji9] at H; exact H) | (simp only [hji9] at H ⊢; exact H)
         have hji9w : (IntKind.i64.wrap (x9_2 - 1)) = ji9 := (i64_w _).trans hji9
         by_cases c10 : 0 ≤ (ji9)
         ·rw [if_pos c10] at H
          have c10b0 : decide (0 ≤ (ji9)) = true := decide_eq_true c10
          clear c10
          by_cases c11 : (ji9) < (x0_2.length : Int)
          ·rw [if_pos c11] at H
           have c11b0 : decide ((ji9) < (x0_2.length : Int)) = true := decide_eq_true c11
           clear c11
           replace H := Option.bind_eq_some_iff.mp H
           obtain ⟨t269, A120, H⟩ := H
           replace H : (if t269 < 0 then (slices_insertionSortCmpFunc_Job__job_Due_1.l1 k2 ((x0_2.set (x9_2 : Int).toNat (⟨(rd_T32 x0_2 (ji9)).f0, (rd_T32 x0_2 (ji9)).f1, (rd_T32 x0_2 (ji9)).f2, (rd_T32 x0_2 (ji9)).f3, (rd_T32 x0_2 (ji9)).f4, (rd_T32 x0_2 (ji9)).f5, (rd_T32 x0_2 (ji9)).f6, (rd_T32 x0_2 (ji9)).f7, (rd_T32 x0_2 (ji9)).f8, (rd_T32 x0_2 (ji9)).f9, (rd_T32 x0_2 (ji9)).f10, (rd_T32 x0_2 (ji9)).f11⟩ : S32)).set ((ji9) : Int).toNat (⟨(rd_T32 x0_2 x9_2).f0, (rd_T32 x0_2 x9_2).f1, (rd_T32 x0_2 x9_2).f2, (rd_T32 x0_2 x9_2).f3, (rd_T32 x0_2 x9_2).f4, (rd_T32 x0_2 x9_2).f5, (rd_T32 x0_2 x9_2).f6, (rd_T32 x0_2 x9_2).f7, (rd_T32 x0_2 x9_2).f8, (rd_T32 x0_2 x9_2).f9, (rd_T32 x0_2 x9_2).f10, (rd_T32 x0_2 x9_2).f11⟩ : S32)) a1 a2 x8_1 ji9) else (slices_insertionSortCmpFunc_Job__job_Due_1.l0 k2 x0_2 a1 a2 (wrap64 (x8_1 + 1)))) = some r := H
           have A12 := Aside0.mk A120
           clear A120
           by_cases c13 : t269 < 0
           ·rw [if_pos c13] at H
            have c13b0 : decide (t269 < 0) = true := decide_eq_true c13
            clear c13
            obtain ⟨y272, hy272⟩ : ∃ y_ : List (S32), y_ = (x0_2.set (x9_2 : Int).toNat (⟨(rd_T32 x0_2 (ji9)).f0, (rd_T32 x0_2 (ji9)).f1, (rd_T32 x0_2 (ji9)).f2, (rd_T32 x0_2 (ji9)).f3, (rd_T32 x0_2 (ji9)).f4, (rd_T32 x0_2 (ji9)).f5, (rd_T32 x0_2 (ji9)).f6, (rd_T32 x0_2 (ji9)).f7, (rd_T32 x0_2 (ji9)).f8, (rd_T32 x0_2 (ji9)).f9, (rd_T32 x0_2 (ji9)).f10, (rd_T32 x0_2 (ji9)).f11⟩ : S32)) := ⟨_, rfl⟩
            replace H : (slices_insertionSortCmpFunc_Job__job_Due_1.l1 k2 (y272.set ((ji9) : Int).toNat (⟨(rd_T32 x0_2 x9_2).f0, (rd_T32 x0_2 x9_2).f1, (rd_T32 x0_2 x9_2).f2, (rd_T32 x0_2 x9_2).f3, (rd_T32 x0_2 x9_2).f4, (rd_T32 x0_2 x9_2).f5, (rd_T32 x0_2 x9_2).f6, (rd_T32 x0_2 x9_2).f7, (rd_T32 x0_2 x9_2).f8, (rd_T32 x0_2 x9_2).f9, (rd_T32 x0_2 x9_2).f10, (rd_T32 x0_2 x9_2).f11⟩ : S32)) a1 a2 x8_1 ji9) = some r := mH hy272 H
            have Ny272 := Aside0.mk hy272
            clear hy272
            obtain ⟨y273, hy273⟩ : ∃ y_ : List (S32), y_ = (y272.set ((ji9) : Int).toNat (⟨(rd_T32 x0_2 x9_2).f0, (rd_T32 x0_2 x9_2).f1, (rd_T32 x0_2 x9_2).f2, (rd_T32 x0_2 x9_2).f3, (rd_T32 x0_2 x9_2).f4, (rd_T32 x0_2 x9_2).f5, (rd_T32 x0_2 x9_2).f6, (rd_T32 x0_2 x9_2).f7, (rd_T32 x0_2 x9_2).f8, (rd_T32 x0_2 x9_2).f9, (rd_T32 x0_2 x9_2).f10, (rd_T32 x0_2 x9_2).f11⟩ : S32)) := ⟨_, rfl⟩
            replace H : (slices_insertionSortCmpFunc_Job__job_Due_1.l1 k2 y273 a1 a2 x8_1 ji9) = some r := mH hy273 H
            have Ny273 := Aside0.mk hy273
            clear hy273
            have H' := Aside0.mk H
            clear H
            try go_wp2
            have n0_ := Aside0.mk (Kd.R_drew HO_0.out)
            have n1_ := Aside0.mk (Kept.drew HK.out)
            have n2_ := Aside0.mk (below_drew1 HB.out)
            clear HO_0; clear HK; clear HB
            have HO_0 := n0_
            have HK := n1_
            have HB := n2_
            clear n0_; clear n1_; clear n2_
            obtain ⟨Ao17, co17, eo17⟩ := Kd.R_slice HO_0.out
            (first | subst eo17 | (injection eo17 with f1_ f2_ f3_; have f4_ := f1_.symm; have f5_ := f3_.symm; clear f1_ f2_ f3_; subst f4_; subst f5_))
            have p267 : 0 ≤ (x9_2 : Int) := oda
            have q267 : x9_2 < (x0_2.length : Int) := oda
            obtain ⟨ad267, e267, hx267_0, hx267_1, hx267_2, hx267_3, hx267_4, hx267_5, hx267_6, hx267_7, hx267_8, hx267_9, hx267_10, hx267_11⟩ := at_T32 (Kd.R_reads' HO_0.out).2.2 x9_2 p267 q267
            cases e267
            replace p267 := eq_true p267
            replace q267 := eq_true q267
            have p268 : 0 ≤ ((ji9) : Int) := oda
            have q268 : (ji9) < (x0_2.length : Int) := oda
            obtain ⟨ad268, e268, hx268_0, hx268_1, hx268_2, hx268_3, hx268_4, hx268_5, hx268_6, hx268_7, hx268_8, hx268_9, hx268_10, hx268_11⟩ := at_T32 (Kd.R_reads' HO_0.out).2.2 (ji9) p268 q268
            obtain rfl : ad267 = ad268 := (by injection e268)
            replace p268 := eq_true p268
            replace q268 := eq_true q268
            refine start_ (n := 17) (S := fun w' => c12 w' (ad267.add ((x9_2).toNat * 12)) (rd_T32 x0_2 x9_2) <| c12e w' (ad267.add (((ji9)).toNat * 12)) (rd_T32 x0_2 (ji9))) (ds := []) #[false, false, false, false, false, false, false, false, false, false, false, false, false, false, false, false, false] (by kernel_rfl) rfl rfl ⟨hx267_0, hx267_1, hx267_2, hx267_3, hx267_4, hx267_5, hx267_6, hx267_7, hx267_8, hx267_9, hx267_10, hx267_11, hx268_0, hx268_1, hx268_2, hx268_3, hx268_4, hx268_5, hx268_6, hx268_7, hx268_8, hx268_9, hx268_10, hx268_11⟩ (fun hHeld => ?_); refine with_tabW slices_insertionSortCmpFunc_Job__job_Due_1.tab4 slices_insertionSortCmpFunc_Job__job_Due_1.bits4 (fun HT_ HW_ => ?_)
            generalize wr.drew = w16 at HO_0 HK HB hx267_0 hx267_1 hx267_10 hx267_11 hx267_2 hx267_3 hx267_4 hx267_5 hx267_6 hx267_7 hx267_8 hx267_9 hx268_0 hx268_1 hx268_10 hx268_11 hx268_2 hx268_3 hx268_4 hx268_5 hx268_6 hx268_7 hx268_8 hx268_9 hHeld ⊢
            refine plan_ [(0, 18), (1, 19), (2, 20), (3, 21), (4, 22), (5, 23), (6, 24), (7, 25), (9, 27), (10, 28), (11, 29), (12, 30)] ?_
            iterate 12 (refine planP_ (v := ?_) (a' := ?_) rfl rfl (any_of HT_.out (by kernel_rfl)) (fun _ _ _ h => h) (Or.inl ⟨by rfl, ?_⟩) ?_ ?_; rotate_left; (intro w'; go_simp; with_reducible rfl); rotate_left; (simp only [Act.put, List.setIfInBounds_toArray, List.set_cons_zero, List.set_cons_succ, i64_w, i32_w]; rfl))
            refine planEnd_ ?_
            refine plan_ [(8, 26), (13, 31)] ?_
            iterate 2 (refine planT_ (v := ?_) (a' := ?_) rfl rfl (take_ofW HT_.out HW_.out (by kernel_rfl)) (fun _ _ _ h => h) (Or.inl ⟨by rfl, ?_⟩) hHeld ?_ ?_; rotate_left; (rintro w' ⟨s0, s1, s2, s3, s4, s5, s6, s7, s8, s9, s10, s11, s12, s13, s14, s15, s16, s17, s18, s19, s20, s21, s22, s23⟩; go_simp; with_reducible rfl); rotate_left; (simp only [Act.put, List.setIfInBounds_toArray, List.set_cons_zero, List.set_cons_succ, i64_w, i32_w]; rfl))
            refine planEnd_ ?_
            refine one_ (i := 14) (N := some 32) #[true, true, true, true, true, true, true, true, true, true, true, true, true, true, true, false, false] rfl rfl (one_of HT_.out (by kernel_rfl)) (by decide) (fun K hK => ?_)
            refine goesV_ Try.func47 (by kernel_rfl) rfl #[.agg (cJ (rd_T32 x0_2 x9_2)), .agg (cJ (rd_T32 x0_2 (ji9)))] (by rfl) rfl rfl (by (try simp only [List.map_toArray, List.map_cons, List.map_nil]); first | done | (simp only [hji9]; rfl) | rfl | (simp only [List.length_drop, List.length_take]; rfl)) rfl ?_
            with_reducible refine (job_Due_1.calls ((rd_T32 x0_2 x9_2).f0) ((rd_T32 x0_2 x9_2).f1) ((rd_T32 x0_2 x9_2).f2) ((rd_T32 x0_2 x9_2).f3) ((rd_T32 x0_2 x9_2).f4) ((rd_T32 x0_2 x9_2).f5) ((rd_T32 x0_2 x9_2).f6) ((rd_T32 x0_2 x9_2).f7) ((rd_T32 x0_2 x9_2).f8) ((rd_T32 x0_2 x9_2).f9) ((rd_T32 x0_2 x9_2).f10) ((rd_T32 x0_2 x9_2).f11) ((rd_T32 x0_2 (ji9)).f0) ((rd_T32 x0_2 (ji9)).f1) ((rd_T32 x0_2 (ji9)).f2) ((rd_T32 x0_2 (ji9)).f3) ((rd_T32 x0_2 (ji9)).f4) ((rd_T32 x0_2 (ji9)).f5) ((rd_T32 x0_2 (ji9)).f6) ((rd_T32 x0_2 (ji9)).f7) ((rd_T32 x0_2 (ji9)).f8) ((rd_T32 x0_2 (ji9)).f9) ((rd_T32 x0_2 (ji9)).f10) ((rd_T32 x0_2 (ji9)).f11) t269 _ A12.out).mono ?_
            rintro e w18 ⟨rfl, hb⟩
            have HS0_ := hs_ hb hHeld.1
            have HS1_ := hs_ hb hHeld.2.1
            have HS2_ := hs_ hb hHeld.2.2.1
            have HS3_ := hs_ hb hHeld.2.2.2.1
            have HS4_ := hs_ hb hHeld.2.2.2.2.1
            have HS5_ := hs_ hb hHeld.2.2.2.2.2.1
            have HS6_ := hs_ hb hHeld.2.2.2.2.2.2.1
            have HS7_ := hs_ hb hHeld.2.2.2.2.2.2.2.1
            have HS8_ := hs_ hb hHeld.2.2.2.2.2.2.2.2.1
            have HS9_ := hs_ hb hHeld.2.2.2.2.2.2.2.2.2.1
            have HS10_ := hs_ hb hHeld.2.2.2.2.2.2.2.2.2.2.1
            have HS11_ := hs_ hb hHeld.2.2.2.2.2.2.2.2.2.2.2.1
            have HS12_ := hs_ hb hHeld.2.2.2.2.2.2.2.2.2.2.2.2.1
            have HS13_ := hs_ hb hHeld.2.2.2.2.2.2.2.2.2.2.2.2.2.1
            have HS14_ := hs_ hb hHeld.2.2.2.2.2.2.2.2.2.2.2.2.2.2.1
            have HS15_ := hs_ hb hHeld.2.2.2.2.2.2.2.2.2.2.2.2.2.2.2.1
            have HS16_ := hs_ hb hHeld.2.2.2.2.2.2.2.2.2.2.2.2.2.2.2.2.1
            have HS17_ := hs_ hb hHeld.2.2.2.2.2.2.2.2.2.2.2.2.2.2.2.2.2.1
            have HS18_ := hs_ hb hHeld.2.2.2.2.2.2.2.2.2.2.2.2.2.2.2.2.2.2.1
            have HS19_ := hs_ hb hHeld.2.2.2.2.2.2.2.2.2.2.2.2.2.2.2.2.2.2.2.1
            have HS20_ := hs_ hb hHeld.2.2.2.2.2.2.2.2.2.2.2.2.2.2.2.2.2.2.2.2.1
            have HS21_ := hs_ hb hHeld.2.2.2.2.2.2.2.2.2.2.2.2.2.2.2.2.2.2.2.2.2.1
            have HS22_ := hs_ hb hHeld.2.2.2.2.2.2.2.2.2.2.2.2.2.2.2.2.2.2.2.2.2.2.1
            have HS23_ := hs_ hb hHeld.2.2.2.2.2.2.2.2.2.2.2.2.2.2.2.2.2.2.2.2.2.2.2
            refine ⟨_, rfl, ?_⟩
            have n0_ := Aside0.mk (Kd.R_below (mR HO_0.out) hb)
            have n1_ := Aside0.mk (Kept.below (S := (fun k_ => P0_ k_)) (mK HK.out) hb)
            have n2_ := Aside0.mk (below_step (mB HB.out) hb)
            clear HO_0; clear HK; clear HB
            have HO_0 := n0_
            have HK := n1_
            have HB := n2_
            clear n0_; clear n1_; clear n2_
            (try clear hb); (try clear hb2); (try clear hk); (try clear hi)
            refine hK.out _ _ ⟨HS0_, HS1_, HS2_, HS3_, HS4_, HS5_, HS6_, HS7_, HS8_, HS9_, HS10_, HS11_, HS12_, HS13_, HS14_, HS15_, HS16_, HS17_, HS18_, HS19_, HS20_, HS21_, HS22_, HS23_⟩ (fun hHeld => ?_)
            clear hK; clear K
            refine norm_ (a' := ?_) ?_ ?_
            rotate_left
            ·show Act.put _ (some 32) _ = _
             simp only [Act.put, List.setIfInBounds_toArray, List.set_cons_zero, List.set_cons_succ, i64_w, i32_w]
             rfl
            refine plan_ [(15, 33), (16, 34)] ?_
            iterate 2 (refine planP_ (v := ?_) (a' := ?_) rfl rfl (any_of HT_.out (by kernel_rfl)) (fun _ _ _ h => h) (Or.inl ⟨by rfl, ?_⟩) ?_ ?_; rotate_left; (intro w'; go_simp; with_reducible rfl); rotate_left; (simp only [Act.put, List.setIfInBounds_toArray, List.set_cons_zero, List.set_cons_succ, i64_w, i32_w]; rfl))
            refine planEnd_ ?_
            refine done_ (done_of HT_.out (by kernel_rfl)) ?_
            try go_wp2
            have n0_ := Aside0.mk (Kd.R_drew HO_0.out)
            have n1_ := Aside0.mk (Kept.drew HK.out)
            have n2_ := Aside0.mk (below_drew1 HB.out)
            clear HO_0; clear HK; clear HB
            have HO_0 := n0_
            have HK := n1_
            have HB := n2_
            clear n0_; clear n1_; clear n2_
            have p270 : 0 ≤ ((ji9) : Int) := oda
            have q270 : (ji9) < (x0_2.length : Int) := oda
            obtain ⟨ad270, e270, hx270_0, hx270_1, hx270_2, hx270_3, hx270_4, hx270_5, hx270_6, hx270_7, hx270_8, hx270_9, hx270_10, hx270_11⟩ := at_T32 (Kd.R_reads' HO_0.out).2.2 (ji9) p270 q270
            obtain rfl : ad267 = ad270 := (by injection e270)
            replace p270 := eq_true p270
            replace q270 := eq_true q270
            have p271 : 0 ≤ (x9_2 : Int) := oda
            have q271 : x9_2 < (x0_2.length : Int) := oda
            obtain ⟨ad271, e271, hx271_0, hx271_1, hx271_2, hx271_3, hx271_4, hx271_5, hx271_6, hx271_7, hx271_8, hx271_9, hx271_10, hx271_11⟩ := at_T32 (Kd.R_reads' HO_0.out).2.2 x9_2 p271 q271
            obtain rfl : ad267 = ad271 := (by injection e271)
            replace p271 := eq_true p271
            replace q271 := eq_true q271
            have p14 : 0 ≤ (x9_2 : Int) := oda
            have q14 : (x9_2 : Int) < ((x0_2.length : Int) : Int) := oda
            obtain ⟨go14, co14, eo14, gb14, gl14, cl14, HG14⟩ := Kd.R_form HO_0.out (by omega)
            (first | cases eo14 | (injection eo14 with ea_ en_ ec_; (first | subst ea_ | (injection ea_ with ea_; subst ea_)); subst ec_; clear en_))
            have GB14 := Aside0.mk gb14
            have GG14 := Aside0.mk HG14
            clear gb14; clear gl14; clear HG14
            have HMgo14 := Aside0.mk (show (P0_ go14 ∨ w.heap.size ≤ go14) from (HO_0.out.1 _ rfl))
            (first | simp only [add_plain] at hx267_0 | skip)
            (first | simp only [add_plain] at hx267_1 | skip)
            (first | simp only [add_plain] at hx267_2 | skip)
            (first | simp only [add_plain] at hx267_3 | skip)
            (first | simp only [add_plain] at hx267_4 | skip)
            (first | simp only [add_plain] at hx267_5 | skip)
            (first | simp only [add_plain] at hx267_6 | skip)
            (first | simp only [add_plain] at hx267_7 | skip)
            (first | simp only [add_plain] at hx267_8 | skip)
            (first | simp only [add_plain] at hx267_9 | skip)
            (first | simp only [add_plain] at hx267_10 | skip)
            (first | simp only [add_plain] at hx267_11 | skip)
            (first | simp only [add_plain] at hx268_0 | skip)
            (first | simp only [add_plain] at hx268_1 | skip)
            (first | simp only [add_plain] at hx268_2 | skip)
            (first | simp only [add_plain] at hx268_3 | skip)
            (first | simp only [add_plain] at hx268_4 | skip)
            (first | simp only [add_plain] at hx268_5 | skip)
            (first | simp only [add_plain] at hx268_6 | skip)
            (first | simp only [add_plain] at hx268_7 | skip)
            (first | simp only [add_plain] at hx268_8 | skip)
            (first | simp only [add_plain] at hx268_9 | skip)
            (first | simp only [add_plain] at hx268_10 | skip)
            (first | simp only [add_plain] at hx268_11 | skip)
            (first | simp only [add_plain] at hx270_0 | skip)
            (first | simp only [add_plain] at hx270_1 | skip)
            (first | simp only [add_plain] at hx270_2 | skip)
            (first | simp only [add_plain] at hx270_3 | skip)
            (first | simp only [add_plain] at hx270_4 | skip)
            (first | simp only [add_plain] at hx270_5 | skip)
            (first | simp only [add_plain] at hx270_6 | skip)
            (first | simp only [add_plain] at hx270_7 | skip)
            (first | simp only [add_plain] at hx270_8 | skip)
            (first | simp only [add_plain] at hx270_9 | skip)
            (first | simp only [add_plain] at hx270_10 | skip)
            (first | simp only [add_plain] at hx270_11 | skip)
            (first | simp only [add_plain] at hx271_0 | skip)
            (first | simp only [add_plain] at hx271_1 | skip)
            (first | simp only [add_plain] at hx271_2 | skip)
            (first | simp only [add_plain] at hx271_3 | skip)
            (first | simp only [add_plain] at hx271_4 | skip)
            (first | simp only [add_plain] at hx271_5 | skip)
            (first | simp only [add_plain] at hx271_6 | skip)
            (first | simp only [add_plain] at hx271_7 | skip)
            (first | simp only [add_plain] at hx271_8 | skip)
            (first | simp only [add_plain] at hx271_9 | skip)
            (first | simp only [add_plain] at hx271_10 | skip)
            (first | simp only [add_plain] at hx271_11 | skip)
            refine start_ (n := 18) (S := fun w' => c12 w' ⟨go14, (((ji9)).toNat * 12), none⟩ (rd_T32 x0_2 (ji9)) <| c12e w' ⟨go14, ((x9_2).toNat * 12), none⟩ (rd_T32 x0_2 x9_2)) (ds := [15, 17]) #[false, false, false, false, false, false, false, false, false, false, false, false, false, false, false, false, false, false] (by kernel_rfl) rfl rfl ⟨hx270_0, hx270_1, hx270_2, hx270_3, hx270_4, hx270_5, hx270_6, hx270_7, hx270_8, hx270_9, hx270_10, hx270_11, hx271_0, hx271_1, hx271_2, hx271_3, hx271_4, hx271_5, hx271_6, hx271_7, hx271_8, hx271_9, hx271_10, hx271_11⟩ (fun hHeld => ?_); refine with_tabW slices_insertionSortCmpFunc_Job__job_Due_1.tab6 slices_insertionSortCmpFunc_Job__job_Due_1.bits6 (fun HT_ HW_ => ?_)
            generalize w18.drew = w19 at HO_0 HK HB GG14 hx267_0 hx267_1 hx267_10 hx267_11 hx267_2 hx267_3 hx267_4 hx267_5 hx267_6 hx267_7 hx267_8 hx267_9 hx268_0 hx268_1 hx268_10 hx268_11 hx268_2 hx268_3 hx268_4 hx268_5 hx268_6 hx268_7 hx268_8 hx268_9 hx270_0 hx270_1 hx270_10 hx270_11 hx270_2 hx270_3 hx270_4 hx270_5 hx270_6 hx270_7 hx270_8 hx270_9 hx271_0 hx271_1 hx271_10 hx271_11 hx271_2 hx271_3 hx271_4 hx271_5 hx271_6 hx271_7 hx271_8 hx271_9 hHeld ⊢
            refine plan_ [(0, 37), (1, 38), (2, 39), (3, 40), (4, 41), (5, 42), (6, 43), (7, 44), (8, 45), (10, 47), (11, 48), (12, 49)] ?_
            iterate 12 (refine planP_ (v := ?_) (a' := ?_) rfl rfl (any_of HT_.out (by kernel_rfl)) (fun _ _ _ h => h) (Or.inl ⟨by rfl, ?_⟩) ?_ ?_; rotate_left; (intro w'; go_simp; with_reducible rfl); rotate_left; (simp only [Act.put, List.setIfInBounds_toArray, List.set_cons_zero, List.set_cons_succ, i64_w, i32_w]; rfl))
            refine planEnd_ ?_
            refine plan_ [(9, 46), (13, 50)] ?_
            iterate 2 (refine planT_ (v := ?_) (a' := ?_) rfl rfl (take_ofW HT_.out HW_.out (by kernel_rfl)) (fun _ _ _ h => h) (Or.inl ⟨by rfl, ?_⟩) hHeld ?_ ?_; rotate_left; (rintro w' ⟨s0, s1, s2, s3, s4, s5, s6, s7, s8, s9, s10, s11, s12, s13, s14, s15, s16, s17, s18, s19, s20, s21, s22, s23⟩; go_simp; with_reducible rfl); rotate_left; (simp only [Act.put, List.setIfInBounds_toArray, List.set_cons_zero, List.set_cons_succ, i64_w, i32_w]; rfl))
            refine planEnd_ ?_
            refine plan_ [(14, 51)] ?_
            refine planP_ (v := ?_) (a' := ?_) rfl rfl (any_of HT_.out (by kernel_rfl)) (fun _ _ _ h => h) (Or.inl ⟨by rfl, ?_⟩) ?_ ?_; rotate_left; (intro w'; go_simp; with_reducible rfl); rotate_left; (simp only [Act.put, List.setIfInBounds_toArray, List.set_cons_zero, List.set_cons_succ, i64_w, i32_w]; rfl)
            refine planEnd_ ?_
            refine last_ (i := 15) (N := none) #[true, true, true, true, true, true, true, true, true, true, true, true, true, true, true, true, false, false] rfl rfl (one_of HT_.out (by kernel_rfl)) (by decide) (fun K hK => ?_)
            refine storeW_ k32 (w0 := w0) (g := go14) (x9_2) z32 (⟨(rd_T32 x0_2 (ji9)).f0, (rd_T32 x0_2 (ji9)).f1, (rd_T32 x0_2 (ji9)).f2, (rd_T32 x0_2 (ji9)).f3, (rd_T32 x0_2 (ji9)).f4, (rd_T32 x0_2 (ji9)).f5, (rd_T32 x0_2 (ji9)).f6, (rd_T32 x0_2 (ji9)).f7, (rd_T32 x0_2 (ji9)).f8, (rd_T32 x0_2 (ji9)).f9, (rd_T32 x0_2 (ji9)).f10, (rd_T32 x0_2 (ji9)).f11⟩ : S32) [.int .i64 ((rd_T32 x0_2 (ji9)).f0), .int .i64 ((rd_T32 x0_2 (ji9)).f1), .int .i64 ((rd_T32 x0_2 (ji9)).f2), .int .i64 ((rd_T32 x0_2 (ji9)).f3), .int .i64 ((rd_T32 x0_2 (ji9)).f4), .int .i64 ((rd_T32 x0_2 (ji9)).f5), .int .i64 ((rd_T32 x0_2 (ji9)).f6), .int .i64 ((rd_T32 x0_2 (ji9)).f7), .int .i64 ((rd_T32 x0_2 (ji9)).f8), .int .i64 ((rd_T32 x0_2 (ji9)).f9), .int .i64 ((rd_T32 x0_2 (ji9)).f10), .slice ((rd_T32 x0_2 (ji9)).f11).A ((rd_T32 x0_2 (ji9)).f11).n ((rd_T32 x0_2 (ji9)).f11).c] (by rfl) rfl rfl (by first | rfl | (go_simp; done) | (go_simp; rfl)) rfl (by first | rfl | (go_simp; done) | (go_simp; rfl)) rfl (by kernel_rfl) rfl one12 HO_0.out (of_eq_true p271) (of_eq_true q271) (k32_mkM _ _ _ (⟨(rd_T32 x0_2 (ji9)).f0, (rd_T32 x0_2 (ji9)).f1, (rd_T32 x0_2 (ji9)).f2, (rd_T32 x0_2 (ji9)).f3, (rd_T32 x0_2 (ji9)).f4, (rd_T32 x0_2 (ji9)).f5, (rd_T32 x0_2 (ji9)).f6, (rd_T32 x0_2 (ji9)).f7, (rd_T32 x0_2 (ji9)).f8, (rd_T32 x0_2 (ji9)).f9, (rd_T32 x0_2 (ji9)).f10, (rd_T32 x0_2 (ji9)).f11⟩ : S32)) (fun _ hk => hk) HB.out ?_
            intro wa hoa hba hga
            rw [← Ny272.out] at hoa
            have n0_ := Aside0.mk hoa
            have n1_ := Aside0.mk hba
            have n2_ := Aside0.mk (Kept.of_grown hga HK.out (fun k e_ => by injection e_ with e_; subst e_; exact HMgo14.out))
            clear HO_0; clear HB; clear HK; clear hoa; clear hba; clear hga
            have HO_0 := n0_
            have HB := n1_
            have HK := n2_
            clear n0_; clear n1_; clear n2_
            refine hK.out _ _ ?_
            clear hK; clear K
            refine plan_ [(16, 52)] ?_
            refine planP_ (v := ?_) (a' := ?_) rfl rfl (any_of HT_.out (by kernel_rfl)) (fun _ _ _ h => h) (Or.inl ⟨by rfl, ?_⟩) ?_ ?_; rotate_left; (intro w'; go_simp; with_reducible rfl); rotate_left; (simp only [Act.put, List.setIfInBounds_toArray, List.set_cons_zero, List.set_cons_succ, i64_w, i32_w]; rfl)
            refine planEnd_ ?_
            refine last_ (i := 17) (N := none) #[true, true, true, true, true, true, true, true, true, true, true, true, true, true, true, true, true, true] rfl rfl (one_of HT_.out (by kernel_rfl)) (by decide) (fun K hK => ?_)
            refine storeW_ k32 (w0 := w0) (g := go14) (ji9) z32 (⟨(rd_T32 x0_2 (x9_2)).f0, (rd_T32 x0_2 (x9_2)).f1, (rd_T32 x0_2 (x9_2)).f2, (rd_T32 x0_2 (x9_2)).f3, (rd_T32 x0_2 (x9_2)).f4, (rd_T32 x0_2 (x9_2)).f5, (rd_T32 x0_2 (x9_2)).f6, (rd_T32 x0_2 (x9_2)).f7, (rd_T32 x0_2 (x9_2)).f8, (rd_T32 x0_2 (x9_2)).f9, (rd_T32 x0_2 (x9_2)).f10, (rd_T32 x0_2 (x9_2)).f11⟩ : S32) [.int .i64 ((rd_T32 x0_2 (x9_2)).f0), .int .i64 ((rd_T32 x0_2 (x9_2)).f1), .int .i64 ((rd_T32 x0_2 (x9_2)).f2), .int .i64 ((rd_T32 x0_2 (x9_2)).f3), .int .i64 ((rd_T32 x0_2 (x9_2)).f4), .int .i64 ((rd_T32 x0_2 (x9_2)).f5), .int .i64 ((rd_T32 x0_2 (x9_2)).f6), .int .i64 ((rd_T32 x0_2 (x9_2)).f7), .int .i64 ((rd_T32 x0_2 (x9_2)).f8), .int .i64 ((rd_T32 x0_2 (x9_2)).f9), .int .i64 ((rd_T32 x0_2 (x9_2)).f10), .slice ((rd_T32 x0_2 (x9_2)).f11).A ((rd_T32 x0_2 (x9_2)).f11).n ((rd_T32 x0_2 (x9_2)).f11).c] (by rfl) rfl rfl (by first | rfl | (go_simp; done) | (go_simp; rfl)) rfl (by first | rfl | (go_simp; done) | (go_simp; rfl)) rfl (by kernel_rfl) rfl one12 HO_0.out (of_eq_true p270) (of_eq_true q270) (k32_mkM _ _ _ (⟨(rd_T32 x0_2 (x9_2)).f0, (rd_T32 x0_2 (x9_2)).f1, (rd_T32 x0_2 (x9_2)).f2, (rd_T32 x0_2 (x9_2)).f3, (rd_T32 x0_2 (x9_2)).f4, (rd_T32 x0_2 (x9_2)).f5, (rd_T32 x0_2 (x9_2)).f6, (rd_T32 x0_2 (x9_2)).f7, (rd_T32 x0_2 (x9_2)).f8, (rd_T32 x0_2 (x9_2)).f9, (rd_T32 x0_2 (x9_2)).f10, (rd_T32 x0_2 (x9_2)).f11⟩ : S32)) (fun _ hk => hk) HB.out ?_
            intro wb hob hbb hgb
            rw [← Ny273.out] at hob
            have n0_ := Aside0.mk hob
            have n1_ := Aside0.mk hbb
            have n2_ := Aside0.mk (Kept.of_grown hgb HK.out (fun k e_ => by injection e_ with e_; subst e_; exact HMgo14.out))
            clear HO_0; clear HB; clear HK; clear hob; clear hbb; clear hgb
            have HO_0 := n0_
            have HB := n1_
            have HK := n2_
            clear n0_; clear n1_; clear n2_
            refine hK.out _ _ ?_
            clear hK; clear K
            refine done_ (done_of HT_.out (by kernel_rfl)) ?_
            try go_wp2
            go_roundg k2
            case measure => have := HK1.out; have := HK2.out; omega
            case rel => exact ⟨(y273), (ji9), (by first | rfl | (simp; done) | (simp only [← hji9] <;> (first | rfl | simp)) | (simp [*]; done)), H', ⟨by have := HK1.out; have := HK2.out; omega⟩, ⟨mR HO_0.out⟩, ⟨by repeat (first | (with_reducible first | exact HK.out | apply Kept.alloc | apply Kept.drewN | apply Kept.drew | refine Kept.setCell ?_ HMgo14.out _ | refine Kept.setCell ?_ HMgo14.out _ | refine Kept.setCell ?_ HMgo14.out _ | refine Kept.setCell ?_ HMgo14.out _ | refine Kept.setCell ?_ HMgo14.out _ | refine Kept.setCell ?_ HMgo14.out _ | refine Kept.setCell ?_ HMgo14.out _ | refine Kept.setCell ?_ HMgo14.out _ | refine Kept.setCell ?_ HMgo14.out _ | refine Kept.setCell ?_ HMgo14.out _ | refine Kept.setCell ?_ HMgo14.out _ | refine Kept.setCell ?_ HMgo14.out _ | refine Kept.setCell ?_ HMgo14.out _ | refine Kept.setCell ?_ HMgo14.out _ | refine Kept.setCell ?_ HMgo14.out _ | refine Kept.setCell ?_ HMgo14.out _ | refine Kept.setCell ?_ HMgo14.out _ | refine Kept.setCell ?_ HMgo14.out _ | refine Kept.setCell ?_ HMgo14.out _ | refine Kept.setCell ?_ HMgo14.out _ | refine Kept.setCell ?_ HMgo14.out _ | refine Kept.setCell ?_ HMgo14.out _ | refine Kept.setCell ?_ HMgo14.out _ | refine Kept.setCell ?_ HMgo14.out _) | exact HK.out)⟩, ⟨mBs HB.out⟩⟩
           ·rw [if_neg c13] at H
            have c13b0 : decide (t269 < 0) = false := decide_eq_false c13
            clear c13
            have H' := Aside0.mk H
            clear H
            try go_wp2
            have n0_ := Aside0.mk (Kd.R_drew HO_0.out)
            have n1_ := Aside0.mk (Kept.drew HK.out)
            have n2_ := Aside0.mk (below_drew1 HB.out)
            clear HO_0; clear HK; clear HB
            have HO_0 := n0_
            have HK := n1_
            have HB := n2_
            clear n0_; clear n1_; clear n2_
            obtain ⟨Ao23, co23, eo23⟩ := Kd.R_slice HO_0.out
            (first | subst eo23 | (injection eo23 with f1_ f2_ f3_; have f4_ := f1_.symm; have f5_ := f3_.symm; clear f1_ f2_ f3_; subst f4_; subst f5_))
            have p267 : 0 ≤ (x9_2 : Int) := oda
            have q267 : x9_2 < (x0_2.length : Int) := oda
            obtain ⟨ad267, e267, hx267_0, hx267_1, hx267_2, hx267_3, hx267_4, hx267_5, hx267_6, hx267_7, hx267_8, hx267_9, hx267_10, hx267_11⟩ := at_T32 (Kd.R_reads' HO_0.out).2.2 x9_2 p267 q267
            cases e267
            replace p267 := eq_true p267
            replace q267 := eq_true q267
            have p268 : 0 ≤ ((ji9) : Int) := oda
            have q268 : (ji9) < (x0_2.length : Int) := oda
            obtain ⟨ad268, e268, hx268_0, hx268_1, hx268_2, hx268_3, hx268_4, hx268_5, hx268_6, hx268_7, hx268_8, hx268_9, hx268_10, hx268_11⟩ := at_T32 (Kd.R_reads' HO_0.out).2.2 (ji9) p268 q268
            obtain rfl : ad267 = ad268 := (by injection e268)
            replace p268 := eq_true p268
            replace q268 := eq_true q268
            refine start_ (n := 17) (S := fun w' => c12 w' (ad267.add ((x9_2).toNat * 12)) (rd_T32 x0_2 x9_2) <| c12e w' (ad267.add (((ji9)).toNat * 12)) (rd_T32 x0_2 (ji9))) (ds := []) #[false, false, false, false, false, false, false, false, false, false, false, false, false, false, false, false, false] (by kernel_rfl) rfl rfl ⟨hx267_0, hx267_1, hx267_2, hx267_3, hx267_4, hx267_5, hx267_6, hx267_7, hx267_8, hx267_9, hx267_10, hx267_11, hx268_0, hx268_1, hx268_2, hx268_3, hx268_4, hx268_5, hx268_6, hx268_7, hx268_8, hx268_9, hx268_10, hx268_11⟩ (fun hHeld => ?_); refine with_tabW slices_insertionSortCmpFunc_Job__job_Due_1.tab4 slices_insertionSortCmpFunc_Job__job_Due_1.bits4 (fun HT_ HW_ => ?_)
            generalize wr.drew = w22 at HO_0 HK HB hx267_0 hx267_1 hx267_10 hx267_11 hx267_2 hx267_3 hx267_4 hx267_5 hx267_6 hx267_7 hx267_8 hx267_9 hx268_0 hx268_1 hx268_10 hx268_11 hx268_2 hx268_3 hx268_4 hx268_5 hx268_6 hx268_7 hx268_8 hx268_9 hHeld ⊢
            refine plan_ [(0, 18), (1, 19), (2, 20), (3, 21), (4, 22), (5, 23), (6, 24), (7, 25), (9, 27), (10, 28), (11, 29), (12, 30)] ?_
            iterate 12 (refine planP_ (v := ?_) (a' := ?_) rfl rfl (any_of HT_.out (by kernel_rfl)) (fun _ _ _ h => h) (Or.inl ⟨by rfl, ?_⟩) ?_ ?_; rotate_left; (intro w'; go_simp; with_reducible rfl); rotate_left; (simp only [Act.put, List.setIfInBounds_toArray, List.set_cons_zero, List.set_cons_succ, i64_w, i32_w]; rfl))
            refine planEnd_ ?_
            refine plan_ [(8, 26), (13, 31)] ?_
            iterate 2 (refine planT_ (v := ?_) (a' := ?_) rfl rfl (take_ofW HT_.out HW_.out (by kernel_rfl)) (fun _ _ _ h => h) (Or.inl ⟨by rfl, ?_⟩) hHeld ?_ ?_; rotate_left; (rintro w' ⟨s0, s1, s2, s3, s4, s5, s6, s7, s8, s9, s10, s11, s12, s13, s14, s15, s16, s17, s18, s19, s20, s21, s22, s23⟩; go_simp; with_reducible rfl); rotate_left; (simp only [Act.put, List.setIfInBounds_toArray, List.set_cons_zero, List.set_cons_succ, i64_w, i32_w]; rfl))
            refine planEnd_ ?_
            refine one_ (i := 14) (N := some 32) #[true, true, true, true, true, true, true, true, true, true, true, true, true, true, true, false, false] rfl rfl (one_of HT_.out (by kernel_rfl)) (by decide) (fun K hK => ?_)
            refine goesV_ Try.func47 (by kernel_rfl) rfl #[.agg (cJ (rd_T32 x0_2 x9_2)), .agg (cJ (rd_T32 x0_2 (ji9)))] (by rfl) rfl rfl (by (try simp only [List.map_toArray, List.map_cons, List.map_nil]); first | done | (simp only [hji9]; rfl) | rfl | (simp only [List.length_drop, List.length_take]; rfl)) rfl ?_
            with_reducible refine (job_Due_1.calls ((rd_T32 x0_2 x9_2).f0) ((rd_T32 x0_2 x9_2).f1) ((rd_T32 x0_2 x9_2).f2) ((rd_T32 x0_2 x9_2).f3) ((rd_T32 x0_2 x9_2).f4) ((rd_T32 x0_2 x9_2).f5) ((rd_T32 x0_2 x9_2).f6) ((rd_T32 x0_2 x9_2).f7) ((rd_T32 x0_2 x9_2).f8) ((rd_T32 x0_2 x9_2).f9) ((rd_T32 x0_2 x9_2).f10) ((rd_T32 x0_2 x9_2).f11) ((rd_T32 x0_2 (ji9)).f0) ((rd_T32 x0_2 (ji9)).f1) ((rd_T32 x0_2 (ji9)).f2) ((rd_T32 x0_2 (ji9)).f3) ((rd_T32 x0_2 (ji9)).f4) ((rd_T32 x0_2 (ji9)).f5) ((rd_T32 x0_2 (ji9)).f6) ((rd_T32 x0_2 (ji9)).f7) ((rd_T32 x0_2 (ji9)).f8) ((rd_T32 x0_2 (ji9)).f9) ((rd_T32 x0_2 (ji9)).f10) ((rd_T32 x0_2 (ji9)).f11) t269 _ A12.out).mono ?_
            rintro e w24 ⟨rfl, hb⟩
            have HS0_ := hs_ hb hHeld.1
            have HS1_ := hs_ hb hHeld.2.1
            have HS2_ := hs_ hb hHeld.2.2.1
            have HS3_ := hs_ hb hHeld.2.2.2.1
            have HS4_ := hs_ hb hHeld.2.2.2.2.1
            have HS5_ := hs_ hb hHeld.2.2.2.2.2.1
            have HS6_ := hs_ hb hHeld.2.2.2.2.2.2.1
            have HS7_ := hs_ hb hHeld.2.2.2.2.2.2.2.1
            have HS8_ := hs_ hb hHeld.2.2.2.2.2.2.2.2.1
            have HS9_ := hs_ hb hHeld.2.2.2.2.2.2.2.2.2.1
            have HS10_ := hs_ hb hHeld.2.2.2.2.2.2.2.2.2.2.1
            have HS11_ := hs_ hb hHeld.2.2.2.2.2.2.2.2.2.2.2.1
            have HS12_ := hs_ hb hHeld.2.2.2.2.2.2.2.2.2.2.2.2.1
            have HS13_ := hs_ hb hHeld.2.2.2.2.2.2.2.2.2.2.2.2.2.1
            have HS14_ := hs_ hb hHeld.2.2.2.2.2.2.2.2.2.2.2.2.2.2.1
            have HS15_ := hs_ hb hHeld.2.2.2.2.2.2.2.2.2.2.2.2.2.2.2.1
            have HS16_ := hs_ hb hHeld.2.2.2.2.2.2.2.2.2.2.2.2.2.2.2.2.1
            have HS17_ := hs_ hb hHeld.2.2.2.2.2.2.2.2.2.2.2.2.2.2.2.2.2.1
            have HS18_ := hs_ hb hHeld.2.2.2.2.2.2.2.2.2.2.2.2.2.2.2.2.2.2.1
            have HS19_ := hs_ hb hHeld.2.2.2.2.2.2.2.2.2.2.2.2.2.2.2.2.2.2.2.1
            have HS20_ := hs_ hb hHeld.2.2.2.2.2.2.2.2.2.2.2.2.2.2.2.2.2.2.2.2.1
            have HS21_ := hs_ hb hHeld.2.2.2.2.2.2.2.2.2.2.2.2.2.2.2.2.2.2.2.2.2.1
            have HS22_ := hs_ hb hHeld.2.2.2.2.2.2.2.2.2.2.2.2.2.2.2.2.2.2.2.2.2.2.1
            have HS23_ := hs_ hb hHeld.2.2.2.2.2.2.2.2.2.2.2.2.2.2.2.2.2.2.2.2.2.2.2
            refine ⟨_, rfl, ?_⟩
            have n0_ := Aside0.mk (Kd.R_below (mR HO_0.out) hb)
            have n1_ := Aside0.mk (Kept.below (S := (fun k_ => P0_ k_)) (mK HK.out) hb)
            have n2_ := Aside0.mk (below_step (mB HB.out) hb)
            clear HO_0; clear HK; clear HB
            have HO_0 := n0_
            have HK := n1_
            have HB := n2_
            clear n0_; clear n1_; clear n2_
            (try clear hb); (try clear hb2); (try clear hk); (try clear hi)
            refine hK.out _ _ ⟨HS0_, HS1_, HS2_, HS3_, HS4_, HS5_, HS6_, HS7_, HS8_, HS9_, HS10_, HS11_, HS12_, HS13_, HS14_, HS15_, HS16_, HS17_, HS18_, HS19_, HS20_, HS21_, HS22_, HS23_⟩ (fun hHeld => ?_)
            clear hK; clear K
            refine norm_ (a' := ?_) ?_ ?_
            rotate_left
            ·show Act.put _ (some 32) _ = _
             simp only [Act.put, List.setIfInBounds_toArray, List.set_cons_zero, List.set_cons_succ, i64_w, i32_w]
             rfl
            refine plan_ [(15, 33), (16, 34)] ?_
            iterate 2 (refine planP_ (v := ?_) (a' := ?_) rfl rfl (any_of HT_.out (by kernel_rfl)) (fun _ _ _ h => h) (Or.inl ⟨by rfl, ?_⟩) ?_ ?_; rotate_left; (intro w'; go_simp; with_reducible rfl); rotate_left; (simp only [Act.put, List.setIfInBounds_toArray, List.set_cons_zero, List.set_cons_succ, i64_w, i32_w]; rfl))
            refine planEnd_ ?_
            refine done_ (done_of HT_.out (by kernel_rfl)) ?_
            try go_wp2
            go_roundg k2
            case measure => have := HK1.out; have := HK2.out; omega
            case rel => exact ⟨(x0_2), (wrap64 (x8_1 + 1)), ez, H', ⟨by have := HK1.out; have := HK2.out; omega⟩, ⟨mR HO_0.out⟩, ⟨mK HK.out⟩, ⟨mB HB.out⟩⟩
          ·rw [if_neg c11] at H
           exact absurd H (by simp)
         ·rw [if_neg c10] at H
          exact absurd H (by simp)
        ·rw [if_neg c8] at H
         exact absurd H (by simp)
       ·rw [if_neg c7] at H
        exact absurd H (by simp)
      ·rw [if_neg c6] at H
       have c6b0 : decide (a1 < x9_2) = false := decide_eq_false c6
       clear c6
       have H' := Aside0.mk H
       clear H
       try go_wp2
       have n0_ := Aside0.mk (Kd.R_drew HO_0.out)
       have n1_ := Aside0.mk (Kept.drew HK.out)
       have n2_ := Aside0.mk (below_drew1 HB.out)
       clear HO_0; clear HK; clear HB
       have HO_0 := n0_
       have HK := n1_
       have HB := n2_
       clear n0_; clear n1_; clear n2_
       refine start_ (n := 17) (S := fun w' => True) (ds := []) #[false, false, false, false, false, false, false, false, false, false, false, false, false, false, false, false, false] (by kernel_rfl) rfl rfl trivial (fun hHeld => ?_); refine with_tabW slices_insertionSortCmpFunc_Job__job_Due_1.tab4 slices_insertionSortCmpFunc_Job__job_Due_1.bits4 (fun HT_ HW_ => ?_)
       generalize wr.drew = w25 at HO_0 HK HB hHeld ⊢
       refine plan_ [(0, 18), (1, 19), (2, 20), (3, 21)] ?_
       iterate 4 (refine planP_ (v := ?_) (a' := ?_) rfl rfl (any_of HT_.out (by kernel_rfl)) (fun _ _ _ h => h) (Or.inl ⟨by rfl, ?_⟩) ?_ ?_; rotate_left; (intro w'; go_simp; with_reducible rfl); rotate_left; (simp only [Act.put, List.setIfInBounds_toArray, List.set_cons_zero, List.set_cons_succ, i64_w, i32_w]; rfl))
       refine planEnd_ ?_
       refine plan_ [(4, 22), (5, 23), (6, 24), (7, 25), (8, 26), (9, 27), (10, 28), (11, 29), (12, 30), (13, 31), (14, 32), (15, 33)] ?_
       iterate 12 (refine planP_ (v := undef) (a' := ?_) rfl rfl (any_of HT_.out (by kernel_rfl)) (fun _ _ _ h => h) (Or.inr ⟨by rfl, rfl⟩) ?_ ?_; rotate_left; (simp only [Act.put, List.setIfInBounds_toArray, List.set_cons_zero, List.set_cons_succ, i64_w, i32_w]; rfl))
       refine planEnd_ ?_
       refine plan_ [(16, 34)] ?_
       refine planP_ (v := ?_) (a' := ?_) rfl rfl (any_of HT_.out (by kernel_rfl)) (fun _ _ _ h => h) (Or.inl ⟨by rfl, ?_⟩) ?_ ?_; rotate_left; (intro w'; go_simp; with_reducible rfl); rotate_left; (simp only [Act.put, List.setIfInBounds_toArray, List.set_cons_zero, List.set_cons_succ, i64_w, i32_w]; rfl)
       refine planEnd_ ?_
       refine done_ (done_of HT_.out (by kernel_rfl)) ?_
       try go_wp2
       go_roundg k2
       case measure => have := HK1.out; have := HK2.out; omega
       case rel => exact ⟨(x0_2), (wrap64 (x8_1 + 1)), ez, H', ⟨by have := HK1.out; have := HK2.out; omega⟩, ⟨mR HO_0.out⟩, ⟨mK HK.out⟩, ⟨mB HB.out⟩⟩
   ·rw [if_neg c5] at H
    have c5b0 : decide (x8_1 < a2) = false := decide_eq_false c5
    clear c5
    obtain rfl := Option.some.inj H
    go_wp2
    first | go_end0 | ((try simp only [Exit.inBlock, Exit.then]); refine bodyPost_ret (results_none rfl _ _ _) rfl ?_)
    exact ⟨by first | rfl | (simp [errW_none, errW_some] <;> rfl) | (simp [*, errW_none, errW_some] <;> rfl), mR HO_0.out, by repeat (first | (with_reducible first | exact HB.out | apply below_alloc | apply pw_below_drewN | apply below_drew1) | exact HB.out), by repeat (first | (with_reducible first | exact HK.out | apply Kept.alloc | apply Kept.drewN | apply Kept.drew) | exact HK.out)⟩

end Go.Proofs.Ytkhfgflcanmefaa.PAll
end
section
namespace Go.Proofs.Ytkhfgflcanmefaa.PAll
open Go.RowKit Go.Proofs.YtkhfgflcanmefaaW.PrintWords Go.Proofs.YtkhfgflcanmefaaW.PrintLast Go.Proofs.YtkhfgflcanmefaaW.PrintMore
attribute [local go_sem] max2_int min2_int max_two min_two max_three min_three max_four min_four   -- for this text's walks alone
set_option linter.unusedVariables false
set_option linter.unusedSimpArgs false

def slices_swapRangeCmpFunc_Job__job_Due_1.l0 : Nat → List (S32) → Int → Int → Int → Int → Option ((List (S32)))
 | 0, _, _, _, _, _ => none
 | k + 1, x0, x1, x2, x3, x10 => if x10 < x3 then (if 0 ≤ (wrap64 (x2 + x10)) then (if (wrap64 (x2 + x10)) < (x0.length : Int) then (if 0 ≤ (wrap64 (x1 + x10)) then (if (wrap64 (x1 + x10)) < (x0.length : Int) then (slices_swapRangeCmpFunc_Job__job_Due_1.l0 k ((x0.set ((wrap64 (x1 + x10)) : Int).toNat (⟨(rd_T32 x0 (wrap64 (x2 + x10))).f0, (rd_T32 x0 (wrap64 (x2 + x10))).f1, (rd_T32 x0 (wrap64 (x2 + x10))).f2, (rd_T32 x0 (wrap64 (x2 + x10))).f3, (rd_T32 x0 (wrap64 (x2 + x10))).f4, (rd_T32 x0 (wrap64 (x2 + x10))).f5, (rd_T32 x0 (wrap64 (x2 + x10))).f6, (rd_T32 x0 (wrap64 (x2 + x10))).f7, (rd_T32 x0 (wrap64 (x2 + x10))).f8, (rd_T32 x0 (wrap64 (x2 + x10))).f9, (rd_T32 x0 (wrap64 (x2 + x10))).f10, (rd_T32 x0 (wrap64 (x2 + x10))).f11⟩ : S32)).set ((wrap64 (x2 + x10)) : Int).toNat (⟨(rd_T32 x0 (wrap64 (x1 + x10))).f0, (rd_T32 x0 (wrap64 (x1 + x10))).f1, (rd_T32 x0 (wrap64 (x1 + x10))).f2, (rd_T32 x0 (wrap64 (x1 + x10))).f3, (rd_T32 x0 (wrap64 (x1 + x10))).f4, (rd_T32 x0 (wrap64 (x1 + x10))).f5, (rd_T32 x0 (wrap64 (x1 + x10))).f6, (rd_T32 x0 (wrap64 (x1 + x10))).f7, (rd_T32 x0 (wrap64 (x1 + x10))).f8, (rd_T32 x0 (wrap64 (x1 + x10))).f9, (rd_T32 x0 (wrap64 (x1 + x10))).f10, (rd_T32 x0 (wrap64 (x1 + x10))).f11⟩ : S32)) x1 x2 x3 (wrap64 (x10 + 1))) else (none)) else (none)) else (none)) else (none)) else (some x0)
def slices_swapRangeCmpFunc_Job__job_Due_1.f (k : Nat) (l0 : List (S32)) (a1 : Int) (a2 : Int) (a3 : Int)  : Option ((List (S32))) := slices_swapRangeCmpFunc_Job__job_Due_1.l0 k l0 a1 a2 a3 0
theorem slices_swapRangeCmpFunc_Job__job_Due_1.mono_l : ∀ k, (∀ y0 y1 y2 y3 y4, LeO (slices_swapRangeCmpFunc_Job__job_Due_1.l0 k y0 y1 y2 y3 y4) (slices_swapRangeCmpFunc_Job__job_Due_1.l0 (k + 1) y0 y1 y2 y3 y4))
 | 0 => fun _ _ _ _ _ r h => by simp [slices_swapRangeCmpFunc_Job__job_Due_1.l0] at h
 | k + 1 => by
  have ih0 := slices_swapRangeCmpFunc_Job__job_Due_1.mono_l k
  ·intro y0 y1 y2 y3 y4
   unfold slices_swapRangeCmpFunc_Job__job_Due_1.l0
   repeat' first
   | (with_reducible exact ih0 _ _ _ _ _)
   | (with_reducible exact LeO.refl _)
   | (with_reducible exact LeO.none _)
   | (with_reducible refine LeO.ite ?_ ?_)
   | (with_reducible refine LeO.bind ?_ (fun _ => ?_))
   | exact ih0 _ _ _ _ _
   | exact LeO.none _
   | refine LeO.ite ?_ ?_
   | refine LeO.bind ?_ (fun _ => ?_)
theorem slices_swapRangeCmpFunc_Job__job_Due_1.mono : ∀ a0 a1 a2 a3 k, LeO (slices_swapRangeCmpFunc_Job__job_Due_1.f k a0 a1 a2 a3) (slices_swapRangeCmpFunc_Job__job_Due_1.f (k + 1) a0 a1 a2 a3) := by
 intro a0 a1 a2 a3 k
 have ih0 := slices_swapRangeCmpFunc_Job__job_Due_1.mono_l k
 unfold slices_swapRangeCmpFunc_Job__job_Due_1.f
 repeat' first
   | (with_reducible exact ih0 _ _ _ _ _)
   | (with_reducible exact LeO.refl _)
   | (with_reducible exact LeO.none _)
   | (with_reducible refine LeO.ite ?_ ?_)
   | (with_reducible refine LeO.bind ?_ (fun _ => ?_))
   | exact ih0 _ _ _ _ _
   | exact LeO.none _
   | refine LeO.ite ?_ ?_
   | refine LeO.bind ?_ (fun _ => ?_)
def slices_swapRangeCmpFunc_Job__job_Due_1.T3 : Bool × List (List Nat × List Nat) := (true, [([], []), ([], []), ([], []), ([1, 2], [1, 2]), ([], []), ([], []), ([], []), ([5, 6], [5, 6]), ([], []), ([], []), ([], []), ([9, 10], [9, 10]), ([8, 11], [8, 11]), ([12], [12]), ([], []), ([], []), ([], []), ([15, 16], [15, 16]), ([14, 17], [14, 17]), ([18], [18]), ([0, 3, 0, 1, 2, 3, 8, 9, 10, 11, 12, 13, 19], [0, 3]), ([20, 13, 0, 1, 2, 3, 8, 9, 10, 11, 12, 13, 19], [13, 20]), ([4, 7, 0, 1, 2, 3, 4, 5, 6, 7, 8, 9, 10, 11, 12, 13, 14, 15, 16, 17, 18, 19, 20, 21], [4, 7]), ([22, 19, 21, 0, 1, 2, 3, 4, 5, 6, 7, 8, 9, 10, 11, 12, 13, 14, 15, 16, 17, 18, 19, 20, 21], [19, 22])])
def slices_swapRangeCmpFunc_Job__job_Due_1.B3 : List Nat := [0, 0, 0, 6, 0, 0, 0, 96, 0, 0, 0, 1536, 3840, 7936, 0, 0, 0, 98304, 245760, 507904, 1048335, 2096911, 4194303, 8388607]
theorem slices_swapRangeCmpFunc_Job__job_Due_1.tab3 : rtab .any (opsOf Try.f72 3) = slices_swapRangeCmpFunc_Job__job_Due_1.T3 := by kernel_rfl
theorem slices_swapRangeCmpFunc_Job__job_Due_1.bits3 : waitsOk slices_swapRangeCmpFunc_Job__job_Due_1.T3.2 slices_swapRangeCmpFunc_Job__job_Due_1.B3 = true := by kernel_rfl
set_option maxHeartbeats 8000000 in
set_option maxRecDepth 100000 in
theorem slices_swapRangeCmpFunc_Job__job_Due_1.calls (k : Nat) (P0_ : Nat → Prop) (u9000_ : Value) (l0 : List (S32)) (a1 : Int) (a2 : Int) (a3 : Int)  (r : List (S32)) (w0 w : World) (hB : Below w0.heap.size w0 w) (ho0 : Kd.R k32 32 w w0.heap.size P0_ u9000_ l0) (h : slices_swapRangeCmpFunc_Job__job_Due_1.f k l0 a1 a2 a3 = some r) :
  Calls Try.prog 72 #[u9000_, .int .i64 a1, .int .i64 a2, .int .i64 a3, .func (.func 47) #[] #[]] w fun e w' => e = .returned (.tuple #[]) ∧ Kd.R k32 32 w' w0.heap.size (fun k_ => (P0_ k_ ∨ w.heap.size ≤ k_)) u9000_ r ∧ Below w0.heap.size w0 w' ∧ Kept w w' (fun k_ => P0_ k_) := by
 have hu32 := Try.underlying32
 have HO0 := Aside0.mk (show Kd.R k32 32 w w0.heap.size (fun k_ => (P0_ k_ ∨ w.heap.size ≤ k_)) u9000_ l0 from Kd.R_mono ho0 (fun k_ hk => (.inl hk)))
 have HK := Aside0.mk (Kept.refl w (fun k_ => P0_ k_))
 have HW0 := Aside0.mk hB.size
 have HB := Aside0.mk hB
 clear hB
 have H : (slices_swapRangeCmpFunc_Job__job_Due_1.l0 k l0 a1 a2 a3 0) = some r := h
 clear h
 have H' := Aside0.mk H
 clear H
 go_enter Try.func72, Try.ntmps72
 go_wp2
 go_loopg [10] k (fun kq v10 w' => ∃ (x0_1 : List (S32)) (x10_1 : Int), v10 = .int .i64 x10_1 ∧ Aside0 (slices_swapRangeCmpFunc_Job__job_Due_1.l0 kq x0_1 a1 a2 a3 x10_1 = some r) ∧ Aside0 (kq ≤ k) ∧ Aside0 (Kd.R k32 32 w' w0.heap.size (fun k_ => (P0_ k_ ∨ w.heap.size ≤ k_)) u9000_ x0_1) ∧ Aside0 (Kept w w' (fun k_ => P0_ k_)) ∧ Aside0 (Below w0.heap.size w0 w'))
 case atStart => exact ⟨(l0), (0), ez, H', ⟨Nat.le_refl _⟩, ⟨mR HO0.out⟩, ⟨mK HK.out⟩, ⟨mB HB.out⟩⟩
 case round =>
  clear H'
  (try clear p2)
  obtain ⟨x0_1, x10_1, rfl, HA, HK1, HO_0, HK, HB⟩ := hrel
  cases gk with
  | zero => exact absurd HA.out (by simp [slices_swapRangeCmpFunc_Job__job_Due_1.l0])
  | succ k1 =>
   have H := HA.out
   clear HA
   simp only [slices_swapRangeCmpFunc_Job__job_Due_1.l0] at H
   by_cases c6 : x10_1 < a3
   ·rw [if_pos c6] at H
    have c6b0 : decide (x10_1 < a3) = true := decide_eq_true c6
    clear c6
    obtain ⟨ji7, hji7⟩ : ∃ j_ : Int, (wrap64 (a2 + x10_1)) = j_ := ⟨_, rfl⟩
    replace H : (if 0 ≤ (ji7) then (if (ji7) < (x0_1.length : Int) then (if 0 ≤ (wrap64 (a1 + x10_1)) then (if (wrap64 (a1 + x10_1)) < (x0_1.length : Int) then (slices_swapRangeCmpFunc_Job__job_Due_1.l0 k1 ((x0_1.set ((wrap64 (a1 + x10_1)) : Int).toNat (⟨(rd_T32 x0_1 (ji7)).f0, (rd_T32 x0_1 (ji7)).f1, (rd_T32 x0_1 (ji7)).f2, (rd_T32 x0_1 (ji7)).f3, (rd_T32 x0_1 (ji7)).f4, (rd_T32 x0_1 (ji7)).f5, (rd_T32 x0_1 (ji7)).f6, (rd_T32 x0_1 (ji7)).f7, (rd_T32 x0_1 (ji7)).f8, (rd_T32 x0_1 (ji7)).f9, (rd_T32 x0_1 (ji7)).f10, (rd_T32 x0_1 (ji7)).f11⟩ : S32)).set ((ji7) : Int).toNat (⟨(rd_T32 x0_1 (wrap64 (a1 + x10_1))).f0, (rd_T32 x0_1 (wrap64 (a1 + x10_1))).f1, (rd_T32 x0_1 (wrap64 (a1 + x10_1))).f2, (rd_T32 x0_1 (wrap64 (a1 + x10_1))).f3, (rd_T32 x0_1 (wrap64 (a1 + x10_1))).f4, (rd_T32 x0_1 (wrap64 (a1 + x10_1))).f5, (rd_T32 x0_1 (wrap64 (a1 + x10_1))).f6, (rd_T32 x0_1 (wrap64 (a1 + x10_1))).f7, (rd_T32 x0_1 (wrap64 (a1 + x10_1))).f8, (rd_T32 x0_1 (wrap64 (a1 + x10_1))).f9, (rd_T32 x0_1 (wrap64 (a1 + x10_1))).f10, (rd_T32 x0_1 (wrap64 (a1 + x10_1))).f11⟩ : S32)) a1 a2 a3 (wrap64 (x10_1 + 1))) else (none)) else (none)) else (none)) else (none)) = some r := by first | (rw [hji7] at H; exact H) | (simp only [hji7] at H ⊢; exact H)
    have hji7w : (IntKind.i64.wrap (a2 + x10_1)) = ji7 := (i64_w _).trans hji7
    by_cases c8 : 0 ≤ (ji7)
    ·rw [if_pos c8] at H
     have c8b0 : decide (0 ≤ (ji7)) = true := decide_eq_true c8
     clear c8
     by_cases c9 : (ji7) < (x0_1.length : Int)
     ·rw [if_pos c9] at H
      have c9b0 : decide ((ji7) < (x0_1.length : Int)) = true := decide_eq_true c9
      clear c9
      obtain ⟨ji10, hji10⟩ : ∃ j_ : Int, (wrap64 (a1 + x10_1)) = j_ := ⟨_, rfl⟩
      replace H : (if 0 ≤ (ji10) then (if (ji10) < (x0_1.length : Int) then (slices_swapRangeCmpFunc_Job__job_Due_1.l0 k1 ((x0_1.set ((ji10) : Int).toNat (⟨(rd_T32 x0_1 (ji7)).f0, (rd_T32 x0_1 (ji7)).f1, (rd_T32 x0_1 (ji7)).f2, (rd_T32 x0_1 (ji7)).f3, (rd_T32 x0_1 (ji7)).f4, (rd_T32 x0_1 (ji7)).f5, (rd_T32 x0_1 (ji7)).f6, (rd_T32 x0_1 (ji7)).f7, (rd_T32 x0_1 (ji7)).f8, (rd_T32 x0_1 (ji7)).f9, (rd_T32 x0_1 (ji7)).f10, (rd_T32 x0_1 (ji7)).f11⟩ : S32)).set ((ji7) : Int).toNat (⟨(rd_T32 x0_1 (ji10)).f0, (rd_T32 x0_1 (ji10)).f1, (rd_T32 x0_1 (ji10)).f2, (rd_T32 x0_1 (ji10)).f3, (rd_T32 x0_1 (ji10)).f4, (rd_T32 x0_1 (ji10)).f5, (rd_T32 x0_1 (ji10)).f6, (rd_T32 x0_1 (ji10)).f7, (rd_T32 x0_1 (ji10)).f8, (rd_T32 x0_1 (ji10)).f9, (rd_T32 x0_1 (ji10)).f10, (rd_T32 x0_1 (ji10)).f11⟩ : S32)) a1 a2 a3 (wrap64 (x10_1 + 1))) else (none)) else (none)) = some r := by first | (rw [hji10] at H; exact H) | (simp only [hji10] at H ⊢; exact H)
      have hji10w : (IntKind.i64.wrap (a1 + x10_1)) = ji10 := (i64_w _).trans hji10
      (try simp only [hji10] at hji7)
      (try simp only [hji10w] at hji7w)
      by_cases c11 : 0 ≤ (ji10)
      ·rw [if_pos c11] at H
       have c11b0 : decide (0 ≤ (ji10)) = true := decide_eq_true c11
       clear c11
       by_cases c12 : (ji10) < (x0_1.length : Int)
       ·rw [if_pos c12] at H
        have c12b0 : decide ((ji10) < (x0_1.length : Int)) = true := decide_eq_true c12
        clear c12
        obtain ⟨y276, hy276⟩ : ∃ y_ : List (S32), y_ = (x0_1.set ((ji10) : Int).toNat (⟨(rd_T32 x0_1 (ji7)).f0, (rd_T32 x0_1 (ji7)).f1, (rd_T32 x0_1 (ji7)).f2, (rd_T32 x0_1 (ji7)).f3, (rd_T32 x0_1 (ji7)).f4, (rd_T32 x0_1 (ji7)).f5, (rd_T32 x0_1 (ji7)).f6, (rd_T32 x0_1 (ji7)).f7, (rd_T32 x0_1 (ji7)).f8, (rd_T32 x0_1 (ji7)).f9, (rd_T32 x0_1 (ji7)).f10, (rd_T32 x0_1 (ji7)).f11⟩ : S32)) := ⟨_, rfl⟩
        replace H : (slices_swapRangeCmpFunc_Job__job_Due_1.l0 k1 (y276.set ((ji7) : Int).toNat (⟨(rd_T32 x0_1 (ji10)).f0, (rd_T32 x0_1 (ji10)).f1, (rd_T32 x0_1 (ji10)).f2, (rd_T32 x0_1 (ji10)).f3, (rd_T32 x0_1 (ji10)).f4, (rd_T32 x0_1 (ji10)).f5, (rd_T32 x0_1 (ji10)).f6, (rd_T32 x0_1 (ji10)).f7, (rd_T32 x0_1 (ji10)).f8, (rd_T32 x0_1 (ji10)).f9, (rd_T32 x0_1 (ji10)).f10, (rd_T32 x0_1 (ji10)).f11⟩ : S32)) a1 a2 a3 (wrap64 (x10_1 + 1))) = some r := mH hy276 H
        have Ny276 := Aside0.mk hy276
        clear hy276
        obtain ⟨y277, hy277⟩ : ∃ y_ : List (S32), y_ = (y276.set ((ji7) : Int).toNat (⟨(rd_T32 x0_1 (ji10)).f0, (rd_T32 x0_1 (ji10)).f1, (rd_T32 x0_1 (ji10)).f2, (rd_T32 x0_1 (ji10)).f3, (rd_T32 x0_1 (ji10)).f4, (rd_T32 x0_1 (ji10)).f5, (rd_T32 x0_1 (ji10)).f6, (rd_T32 x0_1 (ji10)).f7, (rd_T32 x0_1 (ji10)).f8, (rd_T32 x0_1 (ji10)).f9, (rd_T32 x0_1 (ji10)).f10, (rd_T32 x0_1 (ji10)).f11⟩ : S32)) := ⟨_, rfl⟩
        replace H : (slices_swapRangeCmpFunc_Job__job_Due_1.l0 k1 y277 a1 a2 a3 (wrap64 (x10_1 + 1))) = some r := mH hy277 H
        have Ny277 := Aside0.mk hy277
        clear hy277
        have H' := Aside0.mk H
        clear H
        try go_wp2
        have n0_ := Aside0.mk (Kd.R_drew HO_0.out)
        have n1_ := Aside0.mk (Kept.drew HK.out)
        have n2_ := Aside0.mk (below_drew1 HB.out)
        clear HO_0; clear HK; clear HB
        have HO_0 := n0_
        have HK := n1_
        have HB := n2_
        clear n0_; clear n1_; clear n2_
        obtain ⟨Ao16, co16, eo16⟩ := Kd.R_slice HO_0.out
        (first | subst eo16 | (injection eo16 with f1_ f2_ f3_; have f4_ := f1_.symm; have f5_ := f3_.symm; clear f1_ f2_ f3_; subst f4_; subst f5_))
        have p274 : 0 ≤ ((ji7) : Int) := oda
        have q274 : (ji7) < (x0_1.length : Int) := oda
        obtain ⟨ad274, e274, hx274_0, hx274_1, hx274_2, hx274_3, hx274_4, hx274_5, hx274_6, hx274_7, hx274_8, hx274_9, hx274_10, hx274_11⟩ := at_T32 (Kd.R_reads' HO_0.out).2.2 (ji7) p274 q274
        cases e274
        replace p274 := eq_true p274
        replace q274 := eq_true q274
        have p275 : 0 ≤ ((ji10) : Int) := oda
        have q275 : (ji10) < (x0_1.length : Int) := oda
        obtain ⟨ad275, e275, hx275_0, hx275_1, hx275_2, hx275_3, hx275_4, hx275_5, hx275_6, hx275_7, hx275_8, hx275_9, hx275_10, hx275_11⟩ := at_T32 (Kd.R_reads' HO_0.out).2.2 (ji10) p275 q275
        obtain rfl : ad274 = ad275 := (by injection e275)
        replace p275 := eq_true p275
        replace q275 := eq_true q275
        have p13 : 0 ≤ ((ji10) : Int) := oda
        have q13 : ((ji10) : Int) < ((x0_1.length : Int) : Int) := oda
        obtain ⟨go13, co13, eo13, gb13, gl13, cl13, HG13⟩ := Kd.R_form HO_0.out (by omega)
        (first | cases eo13 | (injection eo13 with ea_ en_ ec_; (first | subst ea_ | (injection ea_ with ea_; subst ea_)); subst ec_; clear en_))
        have GB13 := Aside0.mk gb13
        have GG13 := Aside0.mk HG13
        clear gb13; clear gl13; clear HG13
        have HMgo13 := Aside0.mk (show (P0_ go13 ∨ w.heap.size ≤ go13) from (HO_0.out.1 _ rfl))
        (first | simp only [add_plain] at hx274_0 | skip)
        (first | simp only [add_plain] at hx274_1 | skip)
        (first | simp only [add_plain] at hx274_2 | skip)
        (first | simp only [add_plain] at hx274_3 | skip)
        (first | simp only [add_plain] at hx274_4 | skip)
        (first | simp only [add_plain] at hx274_5 | skip)
        (first | simp only [add_plain] at hx274_6 | skip)
        (first | simp only [add_plain] at hx274_7 | skip)
        (first | simp only [add_plain] at hx274_8 | skip)
        (first | simp only [add_plain] at hx274_9 | skip)
        (first | simp only [add_plain] at hx274_10 | skip)
        (first | simp only [add_plain] at hx274_11 | skip)
        (first | simp only [add_plain] at hx275_0 | skip)
        (first | simp only [add_plain] at hx275_1 | skip)
        (first | simp only [add_plain] at hx275_2 | skip)
        (first | simp only [add_plain] at hx275_3 | skip)
        (first | simp only [add_plain] at hx275_4 | skip)
        (first | simp only [add_plain] at hx275_5 | skip)
        (first | simp only [add_plain] at hx275_6 | skip)
        (first | simp only [add_plain] at hx275_7 | skip)
        (first | simp only [add_plain] at hx275_8 | skip)
        (first | simp only [add_plain] at hx275_9 | skip)
        (first | simp only [add_plain] at hx275_10 | skip)
        (first | simp only [add_plain] at hx275_11 | skip)
        refine start_ (n := 24) (S := fun w' => c12 w' ⟨go13, (((ji7)).toNat * 12), none⟩ (rd_T32 x0_1 (ji7)) <| c12e w' ⟨go13, (((ji10)).toNat * 12), none⟩ (rd_T32 x0_1 (ji10))) (ds := [21, 23]) #[false, false, false, false, false, false, false, false, false, false, false, false, false, false, false, false, false, false, false, false, false, false, false, false] (by kernel_rfl) rfl rfl ⟨hx274_0, hx274_1, hx274_2, hx274_3, hx274_4, hx274_5, hx274_6, hx274_7, hx274_8, hx274_9, hx274_10, hx274_11, hx275_0, hx275_1, hx275_2, hx275_3, hx275_4, hx275_5, hx275_6, hx275_7, hx275_8, hx275_9, hx275_10, hx275_11⟩ (fun hHeld => ?_); refine with_tabW slices_swapRangeCmpFunc_Job__job_Due_1.tab3 slices_swapRangeCmpFunc_Job__job_Due_1.bits3 (fun HT_ HW_ => ?_)
        generalize wr.drew = w15 at HO_0 HK HB GG13 hx274_0 hx274_1 hx274_10 hx274_11 hx274_2 hx274_3 hx274_4 hx274_5 hx274_6 hx274_7 hx274_8 hx274_9 hx275_0 hx275_1 hx275_10 hx275_11 hx275_2 hx275_3 hx275_4 hx275_5 hx275_6 hx275_7 hx275_8 hx275_9 hHeld ⊢
        refine plan_ [(0, 16), (1, 17), (2, 18), (3, 19), (4, 20), (5, 21), (6, 22), (7, 23), (8, 24), (9, 25), (10, 26), (11, 27), (12, 28), (14, 30), (15, 31), (16, 32), (17, 33), (18, 34)] ?_
        iterate 18 (refine planP_ (v := ?_) (a' := ?_) rfl rfl (any_of HT_.out (by kernel_rfl)) (fun _ _ _ h => h) (Or.inl ⟨by rfl, ?_⟩) ?_ ?_; rotate_left; (intro w'; go_simp; with_reducible rfl); rotate_left; (simp only [Act.put, List.setIfInBounds_toArray, List.set_cons_zero, List.set_cons_succ, i64_w, i32_w]; rfl))
        refine planEnd_ ?_
        refine plan_ [(13, 29), (19, 35)] ?_
        iterate 2 (refine planT_ (v := ?_) (a' := ?_) rfl rfl (take_ofW HT_.out HW_.out (by kernel_rfl)) (fun _ _ _ h => h) (Or.inl ⟨by rfl, ?_⟩) hHeld ?_ ?_; rotate_left; (rintro w' ⟨s0, s1, s2, s3, s4, s5, s6, s7, s8, s9, s10, s11, s12, s13, s14, s15, s16, s17, s18, s19, s20, s21, s22, s23⟩; go_simp; with_reducible rfl); rotate_left; (simp only [Act.put, List.setIfInBounds_toArray, List.set_cons_zero, List.set_cons_succ, i64_w, i32_w]; rfl))
        refine planEnd_ ?_
        refine plan_ [(20, 36)] ?_
        refine planP_ (v := ?_) (a' := ?_) rfl rfl (any_of HT_.out (by kernel_rfl)) (fun _ _ _ h => h) (Or.inl ⟨by rfl, ?_⟩) ?_ ?_; rotate_left; (intro w'; go_simp; with_reducible rfl); rotate_left; (simp only [Act.put, List.setIfInBounds_toArray, List.set_cons_zero, List.set_cons_succ, i64_w, i32_w]; rfl)
        refine planEnd_ ?_
        refine last_ (i := 21) (N := none) #[true, true, true, true, true, true, true, true, true, true, true, true, true, true, true, true, true, true, true, true, true, true, false, false] rfl rfl (one_of HT_.out (by kernel_rfl)) (by decide) (fun K hK => ?_)
        refine storeW_ k32 (w0 := w0) (g := go13) (ji10) z32 (⟨(rd_T32 x0_1 (ji7)).f0, (rd_T32 x0_1 (ji7)).f1, (rd_T32 x0_1 (ji7)).f2, (rd_T32 x0_1 (ji7)).f3, (rd_T32 x0_1 (ji7)).f4, (rd_T32 x0_1 (ji7)).f5, (rd_T32 x0_1 (ji7)).f6, (rd_T32 x0_1 (ji7)).f7, (rd_T32 x0_1 (ji7)).f8, (rd_T32 x0_1 (ji7)).f9, (rd_T32 x0_1 (ji7)).f10, (rd_T32 x0_1 (ji7)).f11⟩ : S32) [.int .i64 ((rd_T32 x0_1 (ji7)).f0), .int .i64 ((rd_T32 x0_1 (ji7)).f1), .int .i64 ((rd_T32 x0_1 (ji7)).f2), .int .i64 ((rd_T32 x0_1 (ji7)).f3), .int .i64 ((rd_T32 x0_1 (ji7)).f4), .int .i64 ((rd_T32 x0_1 (ji7)).f5), .int .i64 ((rd_T32 x0_1 (ji7)).f6), .int .i64 ((rd_T32 x0_1 (ji7)).f7), .int .i64 ((rd_T32 x0_1 (ji7)).f8), .int .i64 ((rd_T32 x0_1 (ji7)).f9), .int .i64 ((rd_T32 x0_1 (ji7)).f10), .slice ((rd_T32 x0_1 (ji7)).f11).A ((rd_T32 x0_1 (ji7)).f11).n ((rd_T32 x0_1 (ji7)).f11).c] (by rfl) rfl rfl (by first | rfl | (go_simp; done) | (go_simp; rfl)) rfl (by first | rfl | (go_simp; done) | (go_simp; rfl)) rfl (by kernel_rfl) rfl one12 HO_0.out (of_eq_true p275) (of_eq_true q275) (k32_mkM _ _ _ (⟨(rd_T32 x0_1 (ji7)).f0, (rd_T32 x0_1 (ji7)).f1, (rd_T32 x0_1 (ji7)).f2, (rd_T32 x0_1 (ji7)).f3, (rd_T32 x0_1 (ji7)).f4, (rd_T32 x0_1 (ji7)).f5, (rd_T32 x0_1 (ji7)).f6, (rd_T32 x0_1 (ji7)).f7, (rd_T32 x0_1 (ji7)).f8, (rd_T32 x0_1 (ji7)).f9, (rd_T32 x0_1 (ji7)).f10, (rd_T32 x0_1 (ji7)).f11⟩ : S32)) (fun _ hk => hk) HB.out ?_
        intro wa hoa hba hga
        rw [← Ny276.out] at hoa
        have n0_ := Aside0.mk hoa
        have n1_ := Aside0.mk hba
        have n2_ := Aside0.mk (Kept.of_grown hga HK.out (fun k e_ => by injection e_ with e_; subst e_; exact HMgo13.out))
        clear HO_0; clear HB; clear HK; clear hoa; clear hba; clear hga
        have HO_0 := n0_
        have HB := n1_
        have HK := n2_
        clear n0_; clear n1_; clear n2_
        refine hK.out _ _ ?_
        clear hK; clear K
        refine plan_ [(22, 37)] ?_
        refine planP_ (v := ?_) (a' := ?_) rfl rfl (any_of HT_.out (by kernel_rfl)) (fun _ _ _ h => h) (Or.inl ⟨by rfl, ?_⟩) ?_ ?_; rotate_left; (intro w'; go_simp; with_reducible rfl); rotate_left; (simp only [Act.put, List.setIfInBounds_toArray, List.set_cons_zero, List.set_cons_succ, i64_w, i32_w]; rfl)
        refine planEnd_ ?_
        refine last_ (i := 23) (N := none) #[true, true, true, true, true, true, true, true, true, true, true, true, true, true, true, true, true, true, true, true, true, true, true, true] rfl rfl (one_of HT_.out (by kernel_rfl)) (by decide) (fun K hK => ?_)
        refine storeW_ k32 (w0 := w0) (g := go13) (ji7) z32 (⟨(rd_T32 x0_1 (ji10)).f0, (rd_T32 x0_1 (ji10)).f1, (rd_T32 x0_1 (ji10)).f2, (rd_T32 x0_1 (ji10)).f3, (rd_T32 x0_1 (ji10)).f4, (rd_T32 x0_1 (ji10)).f5, (rd_T32 x0_1 (ji10)).f6, (rd_T32 x0_1 (ji10)).f7, (rd_T32 x0_1 (ji10)).f8, (rd_T32 x0_1 (ji10)).f9, (rd_T32 x0_1 (ji10)).f10, (rd_T32 x0_1 (ji10)).f11⟩ : S32) [.int .i64 ((rd_T32 x0_1 (ji10)).f0), .int .i64 ((rd_T32 x0_1 (ji10)).f1), .int .i64 ((rd_T32 x0_1 (ji10)).f2), .int .i64 ((rd_T32 x0_1 (ji10)).f3), .int .i64 ((rd_T32 x0_1 (ji10)).f4), .int .i64 ((rd_T32 x0_1 (ji10)).f5), .int .i64 ((rd_T32 x0_1 (ji10)).f6), .int .i64 ((rd_T32 x0_1 (ji10)).f7), .int .i64 ((rd_T32 x0_1 (ji10)).f8), .int .i64 ((rd_T32 x0_1 (ji10)).f9), .int .i64 ((rd_T32 x0_1 (ji10)).f10), .slice ((rd_T32 x0_1 (ji10)).f11).A ((rd_T32 x0_1 (ji10)).f11).n ((rd_T32 x0_1 (ji10)).f11).c] (by rfl) rfl rfl (by first | rfl | (go_simp; done) | (go_simp; rfl)) rfl (by first | rfl | (go_simp; done) | (go_simp; rfl)) rfl (by kernel_rfl) rfl one12 HO_0.out (of_eq_true p274) (of_eq_true q274) (k32_mkM _ _ _ (⟨(rd_T32 x0_1 (ji10)).f0, (rd_T32 x0_1 (ji10)).f1, (rd_T32 x0_1 (ji10)).f2, (rd_T32 x0_1 (ji10)).f3, (rd_T32 x0_1 (ji10)).f4, (rd_T32 x0_1 (ji10)).f5, (rd_T32 x0_1 (ji10)).f6, (rd_T32 x0_1 (ji10)).f7, (rd_T32 x0_1 (ji10)).f8, (rd_T32 x0_1 (ji10)).f9, (rd_T32 x0_1 (ji10)).f10, (rd_T32 x0_1 (ji10)).f11⟩ : S32)) (fun _ hk => hk) HB.out ?_
        intro wb hob hbb hgb
        rw [← Ny277.out] at hob
        have n0_ := Aside0.mk hob
        have n1_ := Aside0.mk hbb
        have n2_ := Aside0.mk (Kept.of_grown hgb HK.out (fun k e_ => by injection e_ with e_; subst e_; exact HMgo13.out))
        clear HO_0; clear HB; clear HK; clear hob; clear hbb; clear hgb
        have HO_0 := n0_
        have HB := n1_
        have HK := n2_
        clear n0_; clear n1_; clear n2_
        refine hK.out _ _ ?_
        clear hK; clear K
        refine done_ (done_of HT_.out (by kernel_rfl)) ?_
        try go_wp2
        go_roundg k1
        case measure => have := HK1.out; omega
        case rel => exact ⟨(y277), (wrap64 (x10_1 + 1)), ez, H', ⟨by have := HK1.out; omega⟩, ⟨mR HO_0.out⟩, ⟨by repeat (first | (with_reducible first | exact HK.out | apply Kept.alloc | apply Kept.drewN | apply Kept.drew | refine Kept.setCell ?_ HMgo13.out _ | refine Kept.setCell ?_ HMgo13.out _ | refine Kept.setCell ?_ HMgo13.out _ | refine Kept.setCell ?_ HMgo13.out _ | refine Kept.setCell ?_ HMgo13.out _ | refine Kept.setCell ?_ HMgo13.out _ | refine Kept.setCell ?_ HMgo13.out _ | refine Kept.setCell ?_ HMgo13.out _ | refine Kept.setCell ?_ HMgo13.out _ | refine Kept.setCell ?_ HMgo13.out _ | refine Kept.setCell ?_ HMgo13.out _ | refine Kept.setCell ?_ HMgo13.out _ | refine Kept.setCell ?_ HMgo13.out _ | refine Kept.setCell ?_ HMgo13.out _ | refine Kept.setCell ?_ HMgo13.out _ | refine Kept.setCell ?_ HMgo13.out _ | refine Kept.setCell ?_ HMgo13.out _ | refine Kept.setCell ?_ HMgo13.out _ | refine Kept.setCell ?_ HMgo13.out _ | refine Kept.setCell ?_ HMgo13.out _ | refine Kept.setCell ?_ HMgo13.out _ | refine Kept.setCell ?_ HMgo13.out _ | refine Kept.setCell ?_ HMgo13.out _ | refine Kept.setCell ?_ HMgo13.out _) | exact HK.out)⟩, ⟨mBs HB.out⟩⟩
       ·rw [if_neg c12] at H
        exact absurd H (by simp)
      ·rw [if_neg c11] at H
       exact absurd H (by simp)
     ·rw [if_neg c9] at H
      exact absurd H (by simp)
    ·rw [if_neg c8] at H
     exact absurd H (by simp)
   ·rw [if_neg c6] at H
    have c6b0 : decide (x10_1 < a3) = false := decide_eq_false c6
    clear c6
    obtain rfl := Option.some.inj H
    go_wp2
    first | go_end0 | ((try simp only [Exit.inBlock, Exit.then]); refine bodyPost_ret (results_none rfl _ _ _) rfl ?_)
    exact ⟨by first | rfl | (simp [errW_none, errW_some] <;> rfl) | (simp [*, errW_none, errW_some] <;> rfl), mR HO_0.out, by repeat (first | (with_reducible first | exact HB.out | apply below_alloc | apply pw_below_drewN | apply below_drew1) | exact HB.out), by repeat (first | (with_reducible first | exact HK.out | apply Kept.alloc | apply Kept.drewN | apply Kept.drew) | exact HK.out)⟩

end Go.Proofs.Ytkhfgflcanmefaa.PAll
end
section
namespace Go.Proofs.Ytkhfgflcanmefaa.PAll
open Go.RowKit Go.Proofs.YtkhfgflcanmefaaW.PrintWords Go.Proofs.YtkhfgflcanmefaaW.PrintLast Go.Proofs.YtkhfgflcanmefaaW.PrintMore
attribute [local go_sem] max2_int min2_int max_two min_two max_three min_three max_four min_four   -- for this text's walks alone
set_option linter.unusedVariables false
set_option linter.unusedSimpArgs false

def slices_rotateCmpFunc_Job__job_Due_1.l0 : Nat → List (S32) → Int → Int → Int → Option ((List (S32)))
  | 0, _, _, _, _ => none
  | k + 1, x0, x2, x10, x11 => if x10 = x11 then ((slices_swapRangeCmpFunc_Job__job_Due_1.f k x0 (wrap64 (x2 - x10)) x2 x10).bind fun t278 => (some t278)) else (if x10 > x11 then ((slices_swapRangeCmpFunc_Job__job_Due_1.f k x0 (wrap64 (x2 - x10)) x2 x11).bind fun t279 => (slices_rotateCmpFunc_Job__job_Due_1.l0 k t279 x2 (wrap64 (x10 - x11)) x11)) else ((slices_swapRangeCmpFunc_Job__job_Due_1.f k x0 (wrap64 (x2 - x10)) (wrap64 ((wrap64 (x2 + x11)) - x10)) x10).bind fun t280 => (slices_rotateCmpFunc_Job__job_Due_1.l0 k t280 x2 x10 (wrap64 (x11 - x10)))))
def slices_rotateCmpFunc_Job__job_Due_1.f (k : Nat) (l0 : List (S32)) (a1 : Int) (a2 : Int) (a3 : Int)  : Option ((List (S32))) := slices_rotateCmpFunc_Job__job_Due_1.l0 k l0 a2 (wrap64 (a2 - a1)) (wrap64 (a3 - a2))
theorem slices_rotateCmpFunc_Job__job_Due_1.mono_l : ∀ k, (∀ y0 y1 y2 y3, LeO (slices_rotateCmpFunc_Job__job_Due_1.l0 k y0 y1 y2 y3) (slices_rotateCmpFunc_Job__job_Due_1.l0 (k + 1) y0 y1 y2 y3))
  | 0 => fun _ _ _ _ r h => by simp [slices_rotateCmpFunc_Job__job_Due_1.l0] at h
  | k + 1 => by
    have ih0 := slices_rotateCmpFunc_Job__job_Due_1.mono_l k
    · intro y0 y1 y2 y3
      unfold slices_rotateCmpFunc_Job__job_Due_1.l0
      repeat' first
      | (with_reducible exact ih0 _ _ _ _)
      | (with_reducible exact slices_swapRangeCmpFunc_Job__job_Due_1.mono _ _ _ _ _)
      | (with_reducible exact LeO.refl _)
      | (with_reducible exact LeO.none _)
      | (with_reducible refine LeO.ite ?_ ?_)
      | (with_reducible refine LeO.bind ?_ (fun _ => ?_))
      | exact ih0 _ _ _ _
      | exact slices_swapRangeCmpFunc_Job__job_Due_1.mono _ _ _ _ _
      | exact LeO.none _
      | refine LeO.ite ?_ ?_
      | refine LeO.bind ?_ (fun _ => ?_)
theorem slices_rotateCmpFunc_Job__job_Due_1.mono : ∀ a0 a1 a2 a3 k, LeO (slices_rotateCmpFunc_Job__job_Due_1.f k a0 a1 a2 a3) (slices_rotateCmpFunc_Job__job_Due_1.f (k + 1) a0 a1 a2 a3) := by
  intro a0 a1 a2 a3 k
  have ih0 := slices_rotateCmpFunc_Job__job_Due_1.mono_l k
  unfold slices_rotateCmpFunc_Job__job_Due_1.f
  repeat' first
      | (with_reducible exact ih0 _ _ _ _)
      | (with_reducible exact slices_swapRangeCmpFunc_Job__job_Due_1.mono _ _ _ _ _)
      | (with_reducible exact LeO.refl _)
      | (with_reducible exact LeO.none _)
      | (with_reducible refine LeO.ite ?_ ?_)
      | (with_reducible refine LeO.bind ?_ (fun _ => ?_))
      | exact ih0 _ _ _ _
      | exact slices_swapRangeCmpFunc_Job__job_Due_1.mono _ _ _ _ _
      | exact LeO.none _
      | refine LeO.ite ?_ ?_
      | refine LeO.bind ?_ (fun _ => ?_)
set_option maxHeartbeats 8000000 in
set_option maxRecDepth 100000 in
theorem slices_rotateCmpFunc_Job__job_Due_1.calls (k : Nat) (P0_ : Nat → Prop) (u9000_ : Value) (l0 : List (S32)) (a1 : Int) (a2 : Int) (a3 : Int)  (r : List (S32)) (w0 w : World) (hB : Below w0.heap.size w0 w) (ho0 : Kd.R k32 32 w w0.heap.size P0_ u9000_ l0) (h : slices_rotateCmpFunc_Job__job_Due_1.f k l0 a1 a2 a3 = some r) :
    Calls Try.prog 70 #[u9000_, .int .i64 a1, .int .i64 a2, .int .i64 a3, .func (.func 47) #[] #[]] w fun e w' => e = .returned (.tuple #[]) ∧ Kd.R k32 32 w' w0.heap.size (fun k_ => (P0_ k_ ∨ w.heap.size ≤ k_)) u9000_ r ∧ Below w0.heap.size w0 w' ∧ Kept w w' (fun k_ => P0_ k_) := by
  have HO0 := Aside0.mk (show Kd.R k32 32 w w0.heap.size (fun k_ => (P0_ k_ ∨ w.heap.size ≤ k_)) u9000_ l0 from Kd.R_mono ho0 (fun k_ hk => (.inl hk)))
  have HK := Aside0.mk (Kept.refl w (fun k_ => P0_ k_))
  have HW0 := Aside0.mk hB.size
  have HB := Aside0.mk hB
  clear hB
  have H : (slices_rotateCmpFunc_Job__job_Due_1.l0 k l0 a2 (wrap64 (a2 - a1)) (wrap64 (a3 - a2))) = some r := h
  clear h
  have H' := Aside0.mk H
  clear H
  go_enter Try.func70, Try.ntmps70
  go_wp2
  go_loopg [10, 11] k (fun kq v10 v11 w' => ∃ (x0_1 : List (S32)) (x10_1 : Int) (x11_1 : Int), v10 = .int .i64 x10_1 ∧ v11 = .int .i64 x11_1 ∧ Aside0 (slices_rotateCmpFunc_Job__job_Due_1.l0 kq x0_1 a2 x10_1 x11_1 = some r) ∧ Aside0 (kq ≤ k) ∧ Aside0 (Kd.R k32 32 w' w0.heap.size (fun k_ => (P0_ k_ ∨ w.heap.size ≤ k_)) u9000_ x0_1) ∧ Aside0 (Kept w w' (fun k_ => P0_ k_)) ∧ Aside0 (Below w0.heap.size w0 w'))
  case atStart => exact ⟨(l0), (wrap64 (a2 - a1)), (wrap64 (a3 - a2)), (by first | rfl | (simp; done) | (simp [*]; done)), (by first | rfl | (simp; done) | (simp [*]; done)), H', ⟨Nat.le_refl _⟩, ⟨by (with_reducible repeat (first | apply Kd.R_alloc | apply Kd.R_drewN | apply Kd.R_drew)); exact HO0.out⟩, ⟨by repeat (first | (with_reducible first | exact HK.out | apply Kept.alloc | apply Kept.drewN | apply Kept.drew) | exact HK.out)⟩, ⟨by repeat (first | (with_reducible first | exact HB.out | apply below_alloc | apply pw_below_drewN | apply below_drew1) | exact HB.out)⟩⟩
  case round =>
    clear H'
    try clear p2
    obtain ⟨x0_1, x10_1, x11_1, rfl, rfl, HA, HK1, HO_0, HK, HB⟩ := hrel
    cases gk with
    | zero => exact absurd HA.out (by simp [slices_rotateCmpFunc_Job__job_Due_1.l0])
    | succ k1 =>
      have H := HA.out
      clear HA
      simp only [slices_rotateCmpFunc_Job__job_Due_1.l0] at H
      by_cases c6 : x10_1 = x11_1
      · rw [if_pos c6] at H
        have c6b0 : (x10_1 == x11_1) = true := beq_iff_eq.mpr c6
        have c6b1 : (x10_1 != x11_1) = false := bne_eq_false_iff_eq.mpr c6
        clear c6
        replace H := Option.bind_eq_some_iff.mp H
        obtain ⟨t278, A70, H⟩ := H
        replace H : (some t278) = some r := H
        have A7 := Aside0.mk A70
        clear A70
        obtain rfl := Option.some.inj H
        obtain ⟨Ao8, co8, eo8⟩ := Kd.R_slice HO_0.out
        subst eo8
        go_wp2_with (first | ((with_reducible refine gate_callee (f := 72) rfl ?_); refine goesL_ (some 57) rfl rfl Try.func72 (by kernel_rfl) rfl #[.slice Ao8 x0_1.length co8, .int .i64 (wrap64 (a2 - x10_1)), .int .i64 a2, .int .i64 x10_1, .func (.func 47) #[] #[]] rfl (by (try simp only [List.map_toArray, List.map_cons, List.map_nil]); first | done | rfl | (simp only [List.length_drop, List.length_take]; rfl)) ?_; (with_reducible refine (slices_swapRangeCmpFunc_Job__job_Due_1.calls k1 (fun k_ => some k_ = (.slice Ao8 x0_1.length co8 : Value).ownBlock) (.slice Ao8 x0_1.length co8) x0_1 (wrap64 (a2 - x10_1)) a2 x10_1  t278 w0 _ ?side1 ?side2 A7.out).mono ?_); (case side1 => repeat (first | (with_reducible first | exact HB.out | apply below_alloc | apply pw_below_drewN | apply below_drew1) | exact HB.out)); (case side2 => exact Kd.R_tight rfl HO_0.out); rintro e w9 ⟨rfl, hy0, hb, hkp⟩; refine ⟨_, rfl, ?_⟩; have n0_ := Aside0.mk (Kd.R_reok rfl hy0 (fun k_ e_ => HO_0.out.1 k_ e_)); have n1_ := Aside0.mk (Kept.then_ (S := (fun k_ => P0_ k_)) (by repeat (first | (with_reducible first | exact HK.out | apply Kept.alloc | apply Kept.drewN | apply Kept.drew) | exact HK.out)) hkp (fun k_ hs_ => (fun e_ => (HO_0.out.1 k_ e_.symm)) hs_)); have n2_ := Aside0.mk (hb); clear HO_0; clear HK; clear HB; have HO_0 := n0_; have HK := n1_; have HB := n2_; clear n0_ n1_ n2_; (try clear hb); (try clear hkp); (try clear hy0)))
        first | go_end0 | ((try simp only [Exit.inBlock, Exit.then]); refine bodyPost_ret (results_none rfl _ _ _) rfl ?_)
        exact ⟨by first | rfl | (simp [errW_none, errW_some] <;> rfl) | (simp [*, errW_none, errW_some] <;> rfl), by (with_reducible repeat (first | apply Kd.R_alloc | apply Kd.R_drewN | apply Kd.R_drew)); exact HO_0.out, by repeat (first | (with_reducible first | exact HB.out | apply below_alloc | apply pw_below_drewN | apply below_drew1) | exact HB.out), by repeat (first | (with_reducible first | exact HK.out | apply Kept.alloc | apply Kept.drewN | apply Kept.drew) | exact HK.out)⟩
      · rw [if_neg c6] at H
        have c6b0 : (x10_1 == x11_1) = false := beq_eq_false_iff_ne.mpr c6
        have c6b1 : (x10_1 != x11_1) = true := bne_iff_ne.mpr c6
        by_cases c10 : x10_1 > x11_1
        · rw [if_pos c10] at H
          have c10b0 : decide (x11_1 < x10_1) = true := decide_eq_true c10
          clear c10
          replace H := Option.bind_eq_some_iff.mp H
          obtain ⟨t279, A110, H⟩ := H
          replace H : (slices_rotateCmpFunc_Job__job_Due_1.l0 k1 t279 a2 (wrap64 (x10_1 - x11_1)) x11_1) = some r := H
          have A11 := Aside0.mk A110
          clear A110
          have H' := Aside0.mk H
          clear H
          obtain ⟨Ao12, co12, eo12⟩ := Kd.R_slice HO_0.out
          subst eo12
          go_wp2_with (first | ((with_reducible refine gate_callee (f := 72) rfl ?_); refine goesL_ (some 31) rfl rfl Try.func72 (by kernel_rfl) rfl #[.slice Ao12 x0_1.length co12, .int .i64 (wrap64 (a2 - x10_1)), .int .i64 a2, .int .i64 x11_1, .func (.func 47) #[] #[]] rfl (by (try simp only [List.map_toArray, List.map_cons, List.map_nil]); first | done | rfl | (simp only [List.length_drop, List.length_take]; rfl)) ?_; (with_reducible refine (slices_swapRangeCmpFunc_Job__job_Due_1.calls k1 (fun k_ => some k_ = (.slice Ao12 x0_1.length co12 : Value).ownBlock) (.slice Ao12 x0_1.length co12) x0_1 (wrap64 (a2 - x10_1)) a2 x11_1  t279 w0 _ ?side1 ?side2 A11.out).mono ?_); (case side1 => repeat (first | (with_reducible first | exact HB.out | apply below_alloc | apply pw_below_drewN | apply below_drew1) | exact HB.out)); (case side2 => exact Kd.R_tight rfl HO_0.out); rintro e w13 ⟨rfl, hy0, hb, hkp⟩; refine ⟨_, rfl, ?_⟩; have n0_ := Aside0.mk (Kd.R_reok rfl hy0 (fun k_ e_ => HO_0.out.1 k_ e_)); have n1_ := Aside0.mk (Kept.then_ (S := (fun k_ => P0_ k_)) (by repeat (first | (with_reducible first | exact HK.out | apply Kept.alloc | apply Kept.drewN | apply Kept.drew) | exact HK.out)) hkp (fun k_ hs_ => (fun e_ => (HO_0.out.1 k_ e_.symm)) hs_)); have n2_ := Aside0.mk (hb); clear HO_0; clear HK; clear HB; have HO_0 := n0_; have HK := n1_; have HB := n2_; clear n0_ n1_ n2_; (try clear hb); (try clear hkp); (try clear hy0)))
          go_roundg k1
          case measure => have := HK1.out; omega
          case rel => exact ⟨(t279), (wrap64 (x10_1 - x11_1)), (x11_1), (by first | rfl | (simp; done) | (simp [*]; done)), (by first | rfl | (simp; done) | (simp [*]; done)), H', ⟨by have := HK1.out; omega⟩, ⟨by (with_reducible repeat (first | apply Kd.R_alloc | apply Kd.R_drewN | apply Kd.R_drew)); exact HO_0.out⟩, ⟨by repeat (first | (with_reducible first | exact HK.out | apply Kept.alloc | apply Kept.drewN | apply Kept.drew) | exact HK.out)⟩, ⟨by repeat (first | (with_reducible first | exact HB.out | apply below_alloc | apply pw_below_drewN | apply below_drew1) | exact HB.out)⟩⟩
        · rw [if_neg c10] at H
          have c10b0 : decide (x11_1 < x10_1) = false := decide_eq_false c10
          clear c10
          replace H := Option.bind_eq_some_iff.mp H
          obtain ⟨t280, A140, H⟩ := H
          replace H : (slices_rotateCmpFunc_Job__job_Due_1.l0 k1 t280 a2 x10_1 (wrap64 (x11_1 - x10_1))) = some r := H
          have A14 := Aside0.mk A140
          clear A140
          have H' := Aside0.mk H
          clear H
          obtain ⟨Ao15, co15, eo15⟩ := Kd.R_slice HO_0.out
          subst eo15
          go_wp2_with (first | ((with_reducible refine gate_callee (f := 72) rfl ?_); refine goesL_ (some 46) rfl rfl Try.func72 (by kernel_rfl) rfl #[.slice Ao15 x0_1.length co15, .int .i64 (wrap64 (a2 - x10_1)), .int .i64 (wrap64 ((wrap64 (a2 + x11_1)) - x10_1)), .int .i64 x10_1, .func (.func 47) #[] #[]] rfl (by (try simp only [List.map_toArray, List.map_cons, List.map_nil]); first | done | rfl | (simp only [List.length_drop, List.length_take]; rfl)) ?_; (with_reducible refine (slices_swapRangeCmpFunc_Job__job_Due_1.calls k1 (fun k_ => some k_ = (.slice Ao15 x0_1.length co15 : Value).ownBlock) (.slice Ao15 x0_1.length co15) x0_1 (wrap64 (a2 - x10_1)) (wrap64 ((wrap64 (a2 + x11_1)) - x10_1)) x10_1  t280 w0 _ ?side1 ?side2 A14.out).mono ?_); (case side1 => repeat (first | (with_reducible first | exact HB.out | apply below_alloc | apply pw_below_drewN | apply below_drew1) | exact HB.out)); (case side2 => exact Kd.R_tight rfl HO_0.out); rintro e w16 ⟨rfl, hy0, hb, hkp⟩; refine ⟨_, rfl, ?_⟩; have n0_ := Aside0.mk (Kd.R_reok rfl hy0 (fun k_ e_ => HO_0.out.1 k_ e_)); have n1_ := Aside0.mk (Kept.then_ (S := (fun k_ => P0_ k_)) (by repeat (first | (with_reducible first | exact HK.out | apply Kept.alloc | apply Kept.drewN | apply Kept.drew) | exact HK.out)) hkp (fun k_ hs_ => (fun e_ => (HO_0.out.1 k_ e_.symm)) hs_)); have n2_ := Aside0.mk (hb); clear HO_0; clear HK; clear HB; have HO_0 := n0_; have HK := n1_; have HB := n2_; clear n0_ n1_ n2_; (try clear hb); (try clear hkp); (try clear hy0)))
          go_roundg k1
          case measure => have := HK1.out; omega
          case rel => exact ⟨(t280), (x10_1), (wrap64 (x11_1 - x10_1)), (by first | rfl | (simp; done) | (simp [*]; done)), (by first | rfl | (simp; done) | (simp [*]; done)), H', ⟨by have := HK1.out; omega⟩, ⟨by (with_reducible repeat (first | apply Kd.R_alloc | apply Kd.R_drewN | apply Kd.R_drew)); exact HO_0.out⟩, ⟨by repeat (first | (with_reducible first | exact HK.out | apply Kept.alloc | apply Kept.drewN | apply Kept.drew) | exact HK.out)⟩, ⟨by repeat (first | (with_reducible first | exact HB.out | apply below_alloc | apply pw_below_drewN | apply below_drew1) | exact HB.out)⟩⟩

end Go.Proofs.Ytkhfgflcanmefaa.PAll
end
