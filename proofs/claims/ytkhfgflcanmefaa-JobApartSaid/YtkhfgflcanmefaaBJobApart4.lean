/- Words, plain functions and contracts of the functions that the law of this claim reaches; no conditions. -/
import Derived.Test.YtkhfgflcanmefaaBJobApart3
section
namespace Go.Proofs.Ytkhfgflcanmefaa.PAll
open Go.RowKit Go.Proofs.YtkhfgflcanmefaaW.PrintWords Go.Proofs.YtkhfgflcanmefaaW.PrintLast Go.Proofs.YtkhfgflcanmefaaW.PrintMore
attribute [local go_sem] max2_int min2_int max_two min_two max_three min_three max_four min_four   -- for this text's walks alone
set_option linter.unusedVariables false
set_option linter.unusedSimpArgs false

def slices_IndexFunc_Job__job_Find_1.l0 [CapI] : Nat → List (S32) → Int → Int → Option (Int)
  | 0, _, _, _ => none
  | k + 1, x0, x7, x8 => if x8 < x7 then (if 0 ≤ x8 then (if x8 < (x0.length : Int) then ((job_Find_1.f ((rd_T32 x0 x8).f0) ((rd_T32 x0 x8).f1) ((rd_T32 x0 x8).f2) ((rd_T32 x0 x8).f3) ((rd_T32 x0 x8).f4) ((rd_T32 x0 x8).f5) ((rd_T32 x0 x8).f6) ((rd_T32 x0 x8).f7) ((rd_T32 x0 x8).f8) ((rd_T32 x0 x8).f9) ((rd_T32 x0 x8).f10) ((rd_T32 x0 x8).f11)).bind fun t201 => (if t201 = true then (some x8) else (slices_IndexFunc_Job__job_Find_1.l0 k x0 x7 (wrap64 (x8 + 1))))) else (none)) else (none)) else (some (-1))
def slices_IndexFunc_Job__job_Find_1.f [CapI] (k : Nat) (l0 : List (S32))  : Option (Int) := slices_IndexFunc_Job__job_Find_1.l0 k l0 (l0.length : Int) 0
theorem slices_IndexFunc_Job__job_Find_1.mono_l [CapI] : ∀ k, (∀ y0 y1 y2, LeO (slices_IndexFunc_Job__job_Find_1.l0 k y0 y1 y2) (slices_IndexFunc_Job__job_Find_1.l0 (k + 1) y0 y1 y2))
  | 0 => fun _ _ _ r h => by simp [slices_IndexFunc_Job__job_Find_1.l0] at h
  | k + 1 => by
    have ih0 := slices_IndexFunc_Job__job_Find_1.mono_l k
    · intro y0 y1 y2
      unfold slices_IndexFunc_Job__job_Find_1.l0
      repeat' first
      | (with_reducible exact ih0 _ _ _)
      | (with_reducible exact LeO.refl _)
      | (with_reducible exact LeO.none _)
      | (with_reducible refine LeO.ite ?_ ?_)
      | (with_reducible refine LeO.bind ?_ (fun _ => ?_))
      | exact ih0 _ _ _
      | exact LeO.none _
      | refine LeO.ite ?_ ?_
      | refine LeO.bind ?_ (fun _ => ?_)
theorem slices_IndexFunc_Job__job_Find_1.mono [CapI] : ∀ a0 k, LeO (slices_IndexFunc_Job__job_Find_1.f k a0) (slices_IndexFunc_Job__job_Find_1.f (k + 1) a0) := by
  intro a0 k
  have ih0 := slices_IndexFunc_Job__job_Find_1.mono_l k
  unfold slices_IndexFunc_Job__job_Find_1.f
  repeat' first
      | (with_reducible exact ih0 _ _ _)
      | (with_reducible exact LeO.refl _)
      | (with_reducible exact LeO.none _)
      | (with_reducible refine LeO.ite ?_ ?_)
      | (with_reducible refine LeO.bind ?_ (fun _ => ?_))
      | exact ih0 _ _ _
      | exact LeO.none _
      | refine LeO.ite ?_ ?_
      | refine LeO.bind ?_ (fun _ => ?_)
set_option maxHeartbeats 8000000 in
set_option maxRecDepth 100000 in
theorem slices_IndexFunc_Job__job_Find_1.calls [CapI] (k : Nat) (A0 : Option Addr) (c0 : Nat) (l0 : List (S32))  (r : Int) {g_ : Nat} (w : World) (hcap : CapIAt g_ w) (hr0 : Kd.C k32 w A0 l0.length l0) (hc0 : l0.length ≤ c0) (h : slices_IndexFunc_Job__job_Find_1.f k l0 = some r) :
    Calls Try.prog 39 #[.slice A0 l0.length c0, .func (.func 40) #[] #[.pointer (some ⟨g_, 0, none⟩)]] w fun e w' => e = .returned (.int .i64 r) ∧ Below w.heap.size w w' := by
  have hu32 := Try.underlying32
  have HR0 := Aside0.mk hr0
  have HC0 := Aside0.mk hc0
  clear hr0 hc0
  have HB := Aside0.mk (Below.refl w.heap.size w)
  have H : (slices_IndexFunc_Job__job_Find_1.l0 k l0 (l0.length : Int) 0) = some r := h
  clear h
  have H' := Aside0.mk H
  clear H
  go_enter Try.func39, Try.ntmps39
  go_wp2
  go_loopg [8] k (fun kq v8 w' => ∃ (x8_1 : Int), v8 = .int .i64 x8_1 ∧ Aside0 (slices_IndexFunc_Job__job_Find_1.l0 kq l0 (l0.length : Int) x8_1 = some r) ∧ Aside0 (kq ≤ k) ∧ Aside0 (Below w.heap.size w w'))
  case atStart => exact ⟨(0), (by first | rfl | (simp; done) | (simp [*]; done)), H', ⟨Nat.le_refl _⟩, ⟨by repeat (first | (with_reducible first | exact HB.out | apply below_alloc | apply pw_below_drewN | apply below_drew1) | exact HB.out)⟩⟩
  case round =>
    clear H'
    try clear p2
    obtain ⟨x8_1, rfl, HA, HK1, HB⟩ := hrel
    cases gk with
    | zero => exact absurd HA.out (by simp [slices_IndexFunc_Job__job_Find_1.l0])
    | succ k1 =>
      have H := HA.out
      clear HA
      simp only [slices_IndexFunc_Job__job_Find_1.l0] at H
      by_cases c3 : x8_1 < (l0.length : Int)
      · rw [if_pos c3] at H
        have c3b0 : decide (x8_1 < (l0.length : Int)) = true := decide_eq_true c3
        clear c3
        by_cases c4 : 0 ≤ x8_1
        · rw [if_pos c4] at H
          have c4b0 : decide (0 ≤ x8_1) = true := decide_eq_true c4
          clear c4
          by_cases c5 : x8_1 < (l0.length : Int)
          · rw [if_pos c5] at H
            have c5b0 : decide (x8_1 < (l0.length : Int)) = true := decide_eq_true c5
            clear c5
            replace H := Option.bind_eq_some_iff.mp H
            obtain ⟨t201, A60, H⟩ := H
            replace H : (if t201 = true then (some x8_1) else (slices_IndexFunc_Job__job_Find_1.l0 k1 l0 (l0.length : Int) (wrap64 (x8_1 + 1)))) = some r := H
            have A6 := Aside0.mk A60
            clear A60
            by_cases c7 : t201 = true
            · subst c7
              have H1 : (some x8_1) = some r := by rw [if_pos rfl] at H; exact H
              clear H
              have H := H1
              clear H1
              obtain rfl := Option.some.inj H
              have p200 : 0 ≤ (x8_1 : Int) := of_decide_eq_true (by first | (with_reducible assumption) | assumption)
              have q200 : x8_1 < (l0.length : Int) := of_decide_eq_true (by first | (with_reducible assumption) | assumption)
              obtain ⟨ad200, e200, hx200_0, hx200_1, hx200_2, hx200_3, hx200_4, hx200_5, hx200_6, hx200_7, hx200_8, hx200_9, hx200_10, hx200_11⟩ := at_T32 HR0.out x8_1 p200 q200
              cases e200
              replace hx200_0 := (HB.out.cell (World.block_lt_of_cell? w _ hx200_0)).trans hx200_0
              replace hx200_1 := (HB.out.cell (World.block_lt_of_cell? w _ hx200_1)).trans hx200_1
              replace hx200_2 := (HB.out.cell (World.block_lt_of_cell? w _ hx200_2)).trans hx200_2
              replace hx200_3 := (HB.out.cell (World.block_lt_of_cell? w _ hx200_3)).trans hx200_3
              replace hx200_4 := (HB.out.cell (World.block_lt_of_cell? w _ hx200_4)).trans hx200_4
              replace hx200_5 := (HB.out.cell (World.block_lt_of_cell? w _ hx200_5)).trans hx200_5
              replace hx200_6 := (HB.out.cell (World.block_lt_of_cell? w _ hx200_6)).trans hx200_6
              replace hx200_7 := (HB.out.cell (World.block_lt_of_cell? w _ hx200_7)).trans hx200_7
              replace hx200_8 := (HB.out.cell (World.block_lt_of_cell? w _ hx200_8)).trans hx200_8
              replace hx200_9 := (HB.out.cell (World.block_lt_of_cell? w _ hx200_9)).trans hx200_9
              replace hx200_10 := (HB.out.cell (World.block_lt_of_cell? w _ hx200_10)).trans hx200_10
              replace hx200_11 := (HB.out.cell (World.block_lt_of_cell? w _ hx200_11)).trans hx200_11
              replace p200 := eq_true p200
              replace q200 := eq_true q200
              go_wp2_with (first | (go_at_call 40; (with_reducible refine (job_Find_1.calls ((rd_T32 l0 x8_1).f0) ((rd_T32 l0 x8_1).f1) ((rd_T32 l0 x8_1).f2) ((rd_T32 l0 x8_1).f3) ((rd_T32 l0 x8_1).f4) ((rd_T32 l0 x8_1).f5) ((rd_T32 l0 x8_1).f6) ((rd_T32 l0 x8_1).f7) ((rd_T32 l0 x8_1).f8) ((rd_T32 l0 x8_1).f9) ((rd_T32 l0 x8_1).f10) ((rd_T32 l0 x8_1).f11) true _ (CapIAt.of hcap (by repeat (first | (with_reducible first | exact HB.out | apply below_alloc | apply pw_below_drewN | apply below_drew1) | exact HB.out))) A6.out).mono ?_); rintro e w8 ⟨rfl, hb⟩; have n0_ := Aside0.mk (below_step (by repeat (first | (with_reducible first | exact HB.out | apply below_alloc | apply pw_below_drewN | apply below_drew1) | exact HB.out)) hb); clear HB; have HB := n0_; clear n0_; (try clear hb); (try clear hb2); (try clear hk); (try clear hi)))
              go_ret
              exact ⟨by first | rfl | (simp [errW_none, errW_some] <;> rfl) | (simp [*, errW_none, errW_some] <;> rfl), by repeat (first | (with_reducible first | exact HB.out | apply below_alloc | apply pw_below_drewN | apply below_drew1) | exact HB.out)⟩
            · replace c7 := Bool.eq_false_iff.mpr c7
              subst c7
              have H1 : (slices_IndexFunc_Job__job_Find_1.l0 k1 l0 (l0.length : Int) (wrap64 (x8_1 + 1))) = some r := by rw [if_neg (show ¬ (false = true) by decide)] at H; exact H
              clear H
              have H := H1
              clear H1
              have H' := Aside0.mk H
              clear H
              have p200 : 0 ≤ (x8_1 : Int) := of_decide_eq_true (by first | (with_reducible assumption) | assumption)
              have q200 : x8_1 < (l0.length : Int) := of_decide_eq_true (by first | (with_reducible assumption) | assumption)
              obtain ⟨ad200, e200, hx200_0, hx200_1, hx200_2, hx200_3, hx200_4, hx200_5, hx200_6, hx200_7, hx200_8, hx200_9, hx200_10, hx200_11⟩ := at_T32 HR0.out x8_1 p200 q200
              cases e200
              replace hx200_0 := (HB.out.cell (World.block_lt_of_cell? w _ hx200_0)).trans hx200_0
              replace hx200_1 := (HB.out.cell (World.block_lt_of_cell? w _ hx200_1)).trans hx200_1
              replace hx200_2 := (HB.out.cell (World.block_lt_of_cell? w _ hx200_2)).trans hx200_2
              replace hx200_3 := (HB.out.cell (World.block_lt_of_cell? w _ hx200_3)).trans hx200_3
              replace hx200_4 := (HB.out.cell (World.block_lt_of_cell? w _ hx200_4)).trans hx200_4
              replace hx200_5 := (HB.out.cell (World.block_lt_of_cell? w _ hx200_5)).trans hx200_5
              replace hx200_6 := (HB.out.cell (World.block_lt_of_cell? w _ hx200_6)).trans hx200_6
              replace hx200_7 := (HB.out.cell (World.block_lt_of_cell? w _ hx200_7)).trans hx200_7
              replace hx200_8 := (HB.out.cell (World.block_lt_of_cell? w _ hx200_8)).trans hx200_8
              replace hx200_9 := (HB.out.cell (World.block_lt_of_cell? w _ hx200_9)).trans hx200_9
              replace hx200_10 := (HB.out.cell (World.block_lt_of_cell? w _ hx200_10)).trans hx200_10
              replace hx200_11 := (HB.out.cell (World.block_lt_of_cell? w _ hx200_11)).trans hx200_11
              replace p200 := eq_true p200
              replace q200 := eq_true q200
              go_wp2_with (first | (go_at_call 40; (with_reducible refine (job_Find_1.calls ((rd_T32 l0 x8_1).f0) ((rd_T32 l0 x8_1).f1) ((rd_T32 l0 x8_1).f2) ((rd_T32 l0 x8_1).f3) ((rd_T32 l0 x8_1).f4) ((rd_T32 l0 x8_1).f5) ((rd_T32 l0 x8_1).f6) ((rd_T32 l0 x8_1).f7) ((rd_T32 l0 x8_1).f8) ((rd_T32 l0 x8_1).f9) ((rd_T32 l0 x8_1).f10) ((rd_T32 l0 x8_1).f11) false _ (CapIAt.of hcap (by repeat (first | (with_reducible first | exact HB.out | apply below_alloc | apply pw_below_drewN | apply below_drew1) | exact HB.out))) A6.out).mono ?_); rintro e w9 ⟨rfl, hb⟩; have n0_ := Aside0.mk (below_step (by repeat (first | (with_reducible first | exact HB.out | apply below_alloc | apply pw_below_drewN | apply below_drew1) | exact HB.out)) hb); clear HB; have HB := n0_; clear n0_; (try clear hb); (try clear hb2); (try clear hk); (try clear hi)))
              go_roundg k1
              case measure => have := HK1.out; omega
              case rel => exact ⟨(wrap64 (x8_1 + 1)), (by first | rfl | (simp; done) | (simp [*]; done)), H', ⟨by have := HK1.out; omega⟩, ⟨by repeat (first | (with_reducible first | exact HB.out | apply below_alloc | apply pw_below_drewN | apply below_drew1) | exact HB.out)⟩⟩
          · rw [if_neg c5] at H
            exact absurd H (by simp)
        · rw [if_neg c4] at H
          exact absurd H (by simp)
      · rw [if_neg c3] at H
        have c3b0 : decide (x8_1 < (l0.length : Int)) = false := decide_eq_false c3
        clear c3
        obtain rfl := Option.some.inj H
        go_wp2
        go_ret
        exact ⟨by first | rfl | (simp [errW_none, errW_some] <;> rfl) | (simp [*, errW_none, errW_some] <;> rfl), by repeat (first | (with_reducible first | exact HB.out | apply below_alloc | apply pw_below_drewN | apply below_drew1) | exact HB.out)⟩

end Go.Proofs.Ytkhfgflcanmefaa.PAll
end
section
namespace Go.Proofs.Ytkhfgflcanmefaa.PAll
open Go.RowKit Go.Proofs.YtkhfgflcanmefaaW.PrintWords Go.Proofs.YtkhfgflcanmefaaW.PrintLast Go.Proofs.YtkhfgflcanmefaaW.PrintMore
attribute [local go_sem] max2_int min2_int max_two min_two max_three min_three max_four min_four   -- for this text's walks alone
set_option linter.unusedVariables false
set_option linter.unusedSimpArgs false

def job_Find.f (k : Nat) (l0 : List (S32)) (a1 : Int) : Option (Int) := (@slices_IndexFunc_Job__job_Find_1.f ⟨a1⟩ k l0).bind fun t202 => (some t202)
theorem job_Find.mono : ∀ a0 a1 k, LeO (job_Find.f k a0 a1) (job_Find.f (k + 1) a0 a1) := by
  intro a0 a1 k
  unfold job_Find.f
  repeat' first
      | (with_reducible exact @slices_IndexFunc_Job__job_Find_1.mono ⟨a1⟩ _ _)
      | (with_reducible exact LeO.refl _)
      | (with_reducible exact LeO.none _)
      | (with_reducible refine LeO.ite ?_ ?_)
      | (with_reducible refine LeO.bind ?_ (fun _ => ?_))
      | exact @slices_IndexFunc_Job__job_Find_1.mono ⟨a1⟩ _ _
      | exact LeO.none _
      | refine LeO.ite ?_ ?_
      | refine LeO.bind ?_ (fun _ => ?_)
set_option maxHeartbeats 8000000 in
set_option maxRecDepth 100000 in
theorem job_Find.calls (k : Nat) (A0 : Option Addr) (c0 : Nat) (l0 : List (S32)) (a1 : Int) (r : Int) (w : World) (hr0 : Kd.C k32 w A0 l0.length l0) (hc0 : l0.length ≤ c0) (h : job_Find.f k l0 a1 = some r) :
    Calls Try.prog 17 #[.slice A0 l0.length c0, .int .i64 a1] w fun e w' => e = .returned (.int .i64 r) ∧ Below w.heap.size w w' := by
  have HR0 := Aside0.mk hr0
  have HC0 := Aside0.mk hc0
  clear hr0 hc0
  have HB := Aside0.mk (Below.refl w.heap.size w)
  have H : ((@slices_IndexFunc_Job__job_Find_1.f ⟨a1⟩ k l0).bind fun t202 => (some t202)) = some r := h
  clear h
  replace H := Option.bind_eq_some_iff.mp H
  obtain ⟨t202, A30, H⟩ := H
  replace H : (some t202) = some r := H
  have A3 := Aside0.mk A30
  clear A30
  obtain rfl := Option.some.inj H
  go_enter Try.func17, Try.ntmps17
  letI : CapI := ⟨a1⟩
  have HCAP : Aside0 (CapIAt w.heap.size (w.alloc (.cells #[.int .i64 a1] 3 (0, 0)))) := ⟨⟨(blk_cell (heap_alloc_new w _) 0).trans rfl⟩⟩
  go_wp2_with (first | ((with_reducible refine gate_callee (f := 39) rfl ?_); refine goesL_ (some 7) rfl rfl Try.func39 (by kernel_rfl) rfl #[.slice A0 l0.length c0, .func (.func 40) #[] #[.pointer (some ⟨w.heap.size, 0, none⟩)]] rfl (by (try simp only [List.map_toArray, List.map_cons, List.map_nil]); first | done | rfl | (simp only [List.length_drop, List.length_take]; rfl)) ?_; (with_reducible refine (slices_IndexFunc_Job__job_Find_1.calls k _ _ l0  t202 _ HCAP.out ?side1 ?side2 A3.out).mono ?_); (case side1 => repeat (first | exact HR0.out | (with_reducible refine Kd.C_alloc ?_ _) | (with_reducible refine Kd.C_drewN ?_ _) | (with_reducible refine Kd.C_drew ?_))); (case side2 => exact HC0.out); rintro e w4 ⟨rfl, hb⟩; refine ⟨_, rfl, ?_⟩; have n0_ := Aside0.mk (below_step (by repeat (first | (with_reducible first | exact HB.out | apply below_alloc | apply pw_below_drewN | apply below_drew1) | exact HB.out)) hb); clear HB; have HB := n0_; clear n0_; (try clear hb); (try clear hb2); (try clear hk); (try clear hi)))
  go_ret
  exact ⟨by first | rfl | (simp [errW_none, errW_some] <;> rfl) | (simp [*, errW_none, errW_some] <;> rfl), by repeat (first | (with_reducible first | exact HB.out | apply below_alloc | apply pw_below_drewN | apply below_drew1) | exact HB.out)⟩

end Go.Proofs.Ytkhfgflcanmefaa.PAll
end
section
namespace Go.Proofs.Ytkhfgflcanmefaa.PAll
open Go.RowKit Go.Proofs.YtkhfgflcanmefaaW.PrintWords Go.Proofs.YtkhfgflcanmefaaW.PrintLast Go.Proofs.YtkhfgflcanmefaaW.PrintMore
attribute [local go_sem] max2_int min2_int max_two min_two max_three min_three max_four min_four   -- for this text's walks alone
set_option linter.unusedVariables false
set_option linter.unusedSimpArgs false

theorem eqA59 (d : Nat) (w : World) (x0 y0 : Int) (x1 y1 : Int) :
    (Op.equalIn (d + 2) 59 (.agg #[.int .i64 x0, .int .i64 x1]) (.agg #[.int .i64 y0, .int .i64 y1])).run Try.prog w = .ok (x0 == y0 && (x1 == y1)) w := by
  refine eqA_of Try.underlying59 (by kernel_rfl) ?_
  refine eqf_cons (by rfl) (by go_simp; rfl) (by go_simp; rfl) (by go_simp) ?_
  exact eqf_last (by rfl) (by go_simp; rfl) (by go_simp; rfl) (by go_simp)
end Go.Proofs.Ytkhfgflcanmefaa.PAll
end
section
namespace Go.Proofs.Ytkhfgflcanmefaa.PAll
open Go.RowKit Go.Proofs.YtkhfgflcanmefaaW.PrintWords Go.Proofs.YtkhfgflcanmefaaW.PrintLast Go.Proofs.YtkhfgflcanmefaaW.PrintMore
attribute [local go_sem] max2_int min2_int max_two min_two max_three min_three max_four min_four   -- for this text's walks alone
set_option linter.unusedVariables false
set_option linter.unusedSimpArgs false

attribute [local go_sem high] eqA59
def prebendref19_SameBusy.l0 : Nat → List (S59) → List (S59) → Int → Option (Bool)
  | 0, _, _, _ => none
  | k + 1, x0, x1, x5 => if x5 < (x0.length : Int) then (if 0 ≤ x5 then (if x5 < (x1.length : Int) then (if (!(((rd_T59 x0 x5).f0) == ((rd_T59 x1 x5).f0)) || (!(((rd_T59 x0 x5).f1) == ((rd_T59 x1 x5).f1)))) = true then (some false) else (prebendref19_SameBusy.l0 k x0 x1 (wrap64 (x5 + 1)))) else (none)) else (none)) else (some true)
def prebendref19_SameBusy.f (k : Nat) (l0 : List (S59)) (l1 : List (S59)) : Option (Bool) := if (l0.length : Int) = (l1.length : Int) then (prebendref19_SameBusy.l0 k l0 l1 0) else (some false)
theorem prebendref19_SameBusy.mono_l : ∀ k, (∀ y0 y1 y2, LeO (prebendref19_SameBusy.l0 k y0 y1 y2) (prebendref19_SameBusy.l0 (k + 1) y0 y1 y2))
  | 0 => fun _ _ _ r h => by simp [prebendref19_SameBusy.l0] at h
  | k + 1 => by
    have ih0 := prebendref19_SameBusy.mono_l k
    · intro y0 y1 y2
      unfold prebendref19_SameBusy.l0
      repeat' first
      | (with_reducible exact ih0 _ _ _)
      | (with_reducible exact LeO.refl _)
      | (with_reducible exact LeO.none _)
      | (with_reducible refine LeO.ite ?_ ?_)
      | (with_reducible refine LeO.bind ?_ (fun _ => ?_))
      | exact ih0 _ _ _
      | exact LeO.none _
      | refine LeO.ite ?_ ?_
      | refine LeO.bind ?_ (fun _ => ?_)
theorem prebendref19_SameBusy.mono : ∀ a0 a1 k, LeO (prebendref19_SameBusy.f k a0 a1) (prebendref19_SameBusy.f (k + 1) a0 a1) := by
  intro a0 a1 k
  have ih0 := prebendref19_SameBusy.mono_l k
  unfold prebendref19_SameBusy.f
  repeat' first
      | (with_reducible exact ih0 _ _ _)
      | (with_reducible exact LeO.refl _)
      | (with_reducible exact LeO.none _)
      | (with_reducible refine LeO.ite ?_ ?_)
      | (with_reducible refine LeO.bind ?_ (fun _ => ?_))
      | exact ih0 _ _ _
      | exact LeO.none _
      | refine LeO.ite ?_ ?_
      | refine LeO.bind ?_ (fun _ => ?_)
set_option maxHeartbeats 8000000 in
set_option maxRecDepth 100000 in
theorem prebendref19_SameBusy.calls (k : Nat) (A0 : Option Addr) (c0 : Nat) (l0 : List (S59)) (A1 : Option Addr) (c1 : Nat) (l1 : List (S59)) (r : Bool) (w : World) (hr0 : Kd.C k59 w A0 l0.length l0) (hc0 : l0.length ≤ c0) (hr1 : Kd.C k59 w A1 l1.length l1) (hc1 : l1.length ≤ c1) (h : prebendref19_SameBusy.f k l0 l1 = some r) :
    Calls Try.prog 21 #[.slice A0 l0.length c0, .slice A1 l1.length c1] w fun e w' => e = .returned (.bool r) ∧ Drawn0 w w' := by
  have hu59 := Try.underlying59
  have HR0 := Aside0.mk hr0
  have HC0 := Aside0.mk hc0
  clear hr0 hc0
  have HR1 := Aside0.mk hr1
  have HC1 := Aside0.mk hc1
  clear hr1 hc1
  have H : (if (l0.length : Int) = (l1.length : Int) then (prebendref19_SameBusy.l0 k l0 l1 0) else (some false)) = some r := h
  clear h
  by_cases c3 : (l0.length : Int) = (l1.length : Int)
  · rw [if_pos c3] at H
    have c3b0 : ((l0.length : Int) == (l1.length : Int)) = true := beq_iff_eq.mpr c3
    have c3b1 : ((l0.length : Int) != (l1.length : Int)) = false := bne_eq_false_iff_eq.mpr c3
    have c3b2 : (l0.length == l1.length) = true := by first | simpa using c3 | (simp at c3 ⊢; omega)
    clear c3
    have H' := Aside0.mk H
    clear H
    go_enter Try.func21, Try.ntmps21
    go_wp2
    repeat (go_quiet (fail); try go_wp2)
    go_loopg [5] k (fun kq v5 w' => ∃ (x5_1 : Int), v5 = .int .i64 x5_1 ∧ Aside0 (prebendref19_SameBusy.l0 kq l0 l1 x5_1 = some r) ∧ Aside0 (kq ≤ k) ∧ Drawn0 w w')
    case atStart => exact ⟨(0), (by first | rfl | (simp; done) | (simp [*]; done)), H', ⟨Nat.le_refl _⟩, by repeat (first | exact Drawn0.refl _ | apply Drawn0.step)⟩
    case round =>
      clear H'
      try clear c1
      try clear c2
      try clear p2
      try clear c3
      try clear c3b0
      try clear c3b1
      try clear c3b2
      obtain ⟨x5_1, rfl, HA, HK1, ⟨m1, rfl⟩⟩ := hrel
      cases gk with
      | zero => exact absurd HA.out (by simp [prebendref19_SameBusy.l0])
      | succ k1 =>
        have H := HA.out
        clear HA
        simp only [prebendref19_SameBusy.l0] at H
        by_cases c4 : x5_1 < (l0.length : Int)
        · rw [if_pos c4] at H
          have c4b0 : decide (x5_1 < (l0.length : Int)) = true := decide_eq_true c4
          clear c4
          by_cases c5 : 0 ≤ x5_1
          · rw [if_pos c5] at H
            have c5b0 : decide (0 ≤ x5_1) = true := decide_eq_true c5
            clear c5
            by_cases c6 : x5_1 < (l1.length : Int)
            · rw [if_pos c6] at H
              have c6b0 : decide (x5_1 < (l1.length : Int)) = true := decide_eq_true c6
              clear c6
              by_cases c7 : (!(((rd_T59 l0 x5_1).f0) == ((rd_T59 l1 x5_1).f0)) || (!(((rd_T59 l0 x5_1).f1) == ((rd_T59 l1 x5_1).f1)))) = true
              · rw [if_pos c7] at H
                have c7b0 : (!(((rd_T59 l0 x5_1).f0) == ((rd_T59 l1 x5_1).f0)) || (!(((rd_T59 l0 x5_1).f1) == ((rd_T59 l1 x5_1).f1)))) = true := c7
                clear c7
                obtain rfl := Option.some.inj H
                have p235 : 0 ≤ (x5_1 : Int) := of_decide_eq_true (by first | (with_reducible assumption) | assumption)
                have q235 : x5_1 < (l0.length : Int) := of_decide_eq_true (by first | (with_reducible assumption) | assumption)
                obtain ⟨ad235, e235, hx235_0, hx235_1⟩ := at_T59 HR0.out x5_1 p235 q235
                cases e235
                replace p235 := eq_true p235
                replace q235 := eq_true q235
                have p236 : 0 ≤ (x5_1 : Int) := of_decide_eq_true (by first | (with_reducible assumption) | assumption)
                have q236 : x5_1 < (l1.length : Int) := of_decide_eq_true (by first | (with_reducible assumption) | assumption)
                obtain ⟨ad236, e236, hx236_0, hx236_1⟩ := at_T59 HR1.out x5_1 p236 q236
                cases e236
                replace p236 := eq_true p236
                replace q236 := eq_true q236
                go_wp2
                repeat (go_quiet (fail); try go_wp2)
                go_ret
                exact ⟨by first | rfl | (simp; done) | (simp [*]; done), by repeat (first | exact Drawn0.refl _ | apply Drawn0.step)⟩
              · rw [if_neg c7] at H
                have c7b0 : (!(((rd_T59 l0 x5_1).f0) == ((rd_T59 l1 x5_1).f0)) || (!(((rd_T59 l0 x5_1).f1) == ((rd_T59 l1 x5_1).f1)))) = false := by simpa using c7
                clear c7
                have H' := Aside0.mk H
                clear H
                have p235 : 0 ≤ (x5_1 : Int) := of_decide_eq_true (by first | (with_reducible assumption) | assumption)
                have q235 : x5_1 < (l0.length : Int) := of_decide_eq_true (by first | (with_reducible assumption) | assumption)
                obtain ⟨ad235, e235, hx235_0, hx235_1⟩ := at_T59 HR0.out x5_1 p235 q235
                cases e235
                replace p235 := eq_true p235
                replace q235 := eq_true q235
                have p236 : 0 ≤ (x5_1 : Int) := of_decide_eq_true (by first | (with_reducible assumption) | assumption)
                have q236 : x5_1 < (l1.length : Int) := of_decide_eq_true (by first | (with_reducible assumption) | assumption)
                obtain ⟨ad236, e236, hx236_0, hx236_1⟩ := at_T59 HR1.out x5_1 p236 q236
                cases e236
                replace p236 := eq_true p236
                replace q236 := eq_true q236
                go_wp2
                repeat (go_quiet (fail); try go_wp2)
                go_roundg k1
                case measure => have := HK1.out; omega
                case rel => exact ⟨(wrap64 (x5_1 + 1)), (by first | rfl | (simp; done) | (simp [*]; done)), H', ⟨by have := HK1.out; omega⟩, by repeat (first | exact Drawn0.refl _ | apply Drawn0.step)⟩
            · rw [if_neg c6] at H
              exact absurd H (by simp)
          · rw [if_neg c5] at H
            exact absurd H (by simp)
        · rw [if_neg c4] at H
          have c4b0 : decide (x5_1 < (l0.length : Int)) = false := decide_eq_false c4
          clear c4
          obtain rfl := Option.some.inj H
          go_wp2
          repeat (go_quiet (fail); try go_wp2)
          go_ret
          exact ⟨by first | rfl | (simp; done) | (simp [*]; done), by repeat (first | exact Drawn0.refl _ | apply Drawn0.step)⟩
  · rw [if_neg c3] at H
    have c3b0 : ((l0.length : Int) == (l1.length : Int)) = false := beq_eq_false_iff_ne.mpr c3
    have c3b1 : ((l0.length : Int) != (l1.length : Int)) = true := bne_iff_ne.mpr c3
    have c3b2 : (l0.length == l1.length) = false := by first | simpa using c3 | (simp at c3 ⊢; omega)
    obtain rfl := Option.some.inj H
    go_enter Try.func21, Try.ntmps21
    go_wp2
    repeat (go_quiet (fail); try go_wp2)
    go_ret
    exact ⟨by first | rfl | (simp; done) | (simp [*]; done), by repeat (first | exact Drawn0.refl _ | apply Drawn0.step)⟩

end Go.Proofs.Ytkhfgflcanmefaa.PAll
end
section
namespace Go.Proofs.Ytkhfgflcanmefaa.PAll
open Go.RowKit Go.Proofs.YtkhfgflcanmefaaW.PrintWords Go.Proofs.YtkhfgflcanmefaaW.PrintLast Go.Proofs.YtkhfgflcanmefaaW.PrintMore
attribute [local go_sem] max2_int min2_int max_two min_two max_three min_three max_four min_four   -- for this text's walks alone
set_option linter.unusedVariables false
set_option linter.unusedSimpArgs false

def slices_Clip_Busy.f (l0 : List (S59)) : Option (List (S59)) := some l0
theorem slices_Clip_Busy.cut (A : Option Addr) (n c : Nat) (hm : n ≤ c) : ∀ W : World, (Instr.slice 40 (.slice A n c) none (some (.int .i64 (n : Int))) (some (.int .i64 (n : Int)))).run Try.prog W = .ok (.slice A n n) W := by
  intro W
  obtain ⟨i0, hi, _, hsz, _⟩ := info_parts info59
  have ha : (A.map fun x => x.add 0) = A := by cases A <;> simp [Addr.add]
  have hn : (n : Int) ≤ (c : Int) := by omega
  simp [Instr.slice, run_underlying Try.underlying40, Instr.sliceBounds, run_sliceBound, sizeOf, typeInfo, hi, Result.andThen, ha, hn]
set_option maxHeartbeats 8000000 in
set_option maxRecDepth 100000 in
theorem slices_Clip_Busy.calls (P0_ : Nat → Prop) (A0 : Option Addr) (c0 : Nat) (l0 : List (S59)) (r : List (S59)) (w : World) (hs0 : Kd.V k59 59 w w.heap.size (fun k_ => P0_ k_) (.slice A0 l0.length c0) l0) (h : slices_Clip_Busy.f l0 = some r) :
    Calls Try.prog 42 #[.slice A0 l0.length c0] w fun e w' => ∃ v0_ : Value, e = .returned (v0_) ∧ Kd.V k59 59 w' w.heap.size (fun k_ => (P0_ k_ ∨ w.heap.size ≤ k_)) v0_ r ∧ Below w.heap.size w w' := by
  obtain rfl := Option.some.inj h
  have HO0 := Aside0.mk (show Kd.V k59 59 w w.heap.size (fun k_ => (P0_ k_ ∨ w.heap.size ≤ k_)) (.slice A0 l0.length l0.length) l0 from Kd.V_mk (Nat.le_refl _) (Kd.F_mono (Kd.V_F hs0) (fun k_ hk => .inl hk)))
  have hc := (Kd.V_reads' hs0).2.1
  have hcut := slices_Clip_Busy.cut A0 l0.length c0 hc
  clear hs0 hc
  go_enter Try.func42, Try.ntmps42
  go_wp2
  go_ret
  exact ⟨_, rfl, HO0.out, Below.refl _ _⟩
end Go.Proofs.Ytkhfgflcanmefaa.PAll
end
section
namespace Go.Proofs.Ytkhfgflcanmefaa.PAll
open Go.RowKit Go.Proofs.YtkhfgflcanmefaaW.PrintWords Go.Proofs.YtkhfgflcanmefaaW.PrintLast Go.Proofs.YtkhfgflcanmefaaW.PrintMore
attribute [local go_sem] max2_int min2_int max_two min_two max_three min_three max_four min_four   -- for this text's walks alone
set_option linter.unusedVariables false
set_option linter.unusedSimpArgs false

def job_Busy.l0 : Nat → List (S59) → List (S32) → Int → Int → Option ((List (S59)))
 | 0, _, _, _, _ => none
 | k + 1, x3, x7, x8, x9 => if x9 < x8 then (if 0 ≤ x9 then (if x9 < (x7.length : Int) then (if x3.length < 8796093022208 then (job_Busy.l0 k (x3 ++ [(⟨wrap64 (((rd_T32 x7 x9).f8) + ((rd_T32 x7 x9).f3)), (rd_T32 x7 x9).f2⟩ : S59)]) x7 x8 (wrap64 (x9 + 1))) else (none)) else (none)) else (none)) else ((slices_Clip_Busy.f x3).bind fun t245 => (some t245))
def job_Busy.f (k : Nat) (l0 : List (S32)) : Option ((List (S59))) := (job_running.f k l0).bind fun t237 => (job_Busy.l0 k ([] : List (S59)) t237 (t237.length : Int) 0)
theorem job_Busy.mono_l : ∀ k, (∀ y0 y1 y2 y3, LeO (job_Busy.l0 k y0 y1 y2 y3) (job_Busy.l0 (k + 1) y0 y1 y2 y3))
 | 0 => fun _ _ _ _ r h => by simp [job_Busy.l0] at h
 | k + 1 => by
  have ih0 := job_Busy.mono_l k
  ·intro y0 y1 y2 y3
   unfold job_Busy.l0
   repeat' first
   | (with_reducible exact ih0 _ _ _ _)
   | (with_reducible exact job_running.mono _ _)
   | (with_reducible exact LeO.refl _)
   | (with_reducible exact LeO.none _)
   | (with_reducible refine LeO.ite ?_ ?_)
   | (with_reducible refine LeO.bind ?_ (fun _ => ?_))
   | exact ih0 _ _ _ _
   | exact job_running.mono _ _
   | exact LeO.none _
   | refine LeO.ite ?_ ?_
   | refine LeO.bind ?_ (fun _ => ?_)
theorem job_Busy.mono : ∀ a0 k, LeO (job_Busy.f k a0) (job_Busy.f (k + 1) a0) := by
 intro a0 k
 have ih0 := job_Busy.mono_l k
 unfold job_Busy.f
 repeat' first
   | (with_reducible exact ih0 _ _ _ _)
   | (with_reducible exact job_running.mono _ _)
   | (with_reducible exact LeO.refl _)
   | (with_reducible exact LeO.none _)
   | (with_reducible refine LeO.ite ?_ ?_)
   | (with_reducible refine LeO.bind ?_ (fun _ => ?_))
   | exact ih0 _ _ _ _
   | exact job_running.mono _ _
   | exact LeO.none _
   | refine LeO.ite ?_ ?_
   | refine LeO.bind ?_ (fun _ => ?_)
set_option maxHeartbeats 8000000 in
set_option maxRecDepth 100000 in
theorem job_Busy.calls (k : Nat) (A0 : Option Addr) (c0 : Nat) (l0 : List (S32)) (r : List (S59)) (w : World) (hr0 : Kd.C k32 w A0 l0.length l0) (hc0 : l0.length ≤ c0) (h : job_Busy.f k l0 = some r) :
  Calls Try.prog 22 #[.slice A0 l0.length c0] w fun e w' => ∃ v0_ : Value, e = .returned (v0_) ∧ Kd.V k59 59 w' w.heap.size (fun k_ => (w.heap.size ≤ k_)) v0_ r ∧ Below w.heap.size w w' := by
 have hu32 := Try.underlying32
 have hu59 := Try.underlying59
 have HR0 := Aside0.mk hr0
 have HC0 := Aside0.mk hc0
 clear hr0; clear hc0
 have HB := Aside0.mk (Below.refl w.heap.size w)
 have H : ((job_running.f k l0).bind fun t237 => (job_Busy.l0 k ([] : List (S59)) t237 (t237.length : Int) 0)) = some r := h
 clear h
 replace H := Option.bind_eq_some_iff.mp H
 obtain ⟨t237, A20, H⟩ := H
 replace H : (job_Busy.l0 k ([] : List (S59)) t237 (t237.length : Int) 0) = some r := H
 have A2 := Aside0.mk A20
 clear A20
 have H' := Aside0.mk H
 clear H
 go_enter Try.func22, Try.ntmps22
 go_wp2_with (first | ((with_reducible refine gate_callee (f := 41) rfl ?_); refine goesL_ (some 7) rfl rfl Try.func41 (by kernel_rfl) rfl #[.slice A0 l0.length c0] rfl mt ?_; (with_reducible refine (job_running.calls k _ _ l0 t237 _ ?side1 ?side2 A2.out).mono ?_); (case side1 => exact mC HR0.out); (case side2 => exact HC0.out); rintro e w3 ⟨v238, rfl, ho0, hb⟩; refine ⟨_, rfl, ?_⟩; have n0_ := Aside0.mk (Kd.R_lower (Kd.R_newM (M := fun k_ => (w.heap.size ≤ k_)) ho0 (below_size (mB HB.out)) (fun k_ h_ => h_)) (below_size (mB HB.out))); have n1_ := Aside0.mk (below_step (mB HB.out) hb); clear HB; have HO239 := n0_; have HB := n1_; clear n0_ n1_; (try clear hb); (try clear hb2); (try clear hk); (try clear hi); (try clear ho0); obtain ⟨Ao4, co4, eo4⟩ := Kd.R_slice HO239.out; subst eo4))
 go_loopg [3, 9] k (fun kq v3 v9 w' => ∃ (x3_1 : List (S59)) (x9_1 : Int), v9 = .int .i64 x9_1 ∧ Aside0 (job_Busy.l0 kq x3_1 t237 (t237.length : Int) x9_1 = some r) ∧ Aside0 (kq ≤ k) ∧ Aside0 (Kd.R k59 59 w' w.heap.size (fun k_ => (w.heap.size ≤ k_)) v3 x3_1) ∧ Aside0 (Kd.R k32 32 w' w.heap.size (fun k_ => (w.heap.size ≤ k_)) (.slice Ao4 t237.length co4) t237) ∧ Aside0 (Below w.heap.size w w'))
 case atStart => exact ⟨(([] : List (S59))), (0), ez, H', ⟨Nat.le_refl _⟩, ⟨by first | exact Kd.R_nil _ _ _ _ _ | exact Kd.N_nil _ _ _ _ _ | exact Kd.V_nil _ _ _ _ _ | exact Kd.Q_nil _ _ _ _ _ | exact Kd.S_nil _ _ _ _ _⟩, ⟨by (with_reducible repeat (first | apply Kd.R_alloc | apply Kd.R_drewN | apply Kd.R_drew)); exact Kd.R_mono HO239.out (fun _ hk => hk.1)⟩, ⟨mB HB.out⟩⟩
 case round =>
  clear H'
  (try clear c2); (try clear p2); (try clear c4)
  obtain ⟨x3_1, x9_1, rfl, HA, HK1, HO_3, HO_7, HB⟩ := hrel
  cases gk with
  | zero => exact absurd HA.out (by simp [job_Busy.l0])
  | succ k1 =>
   have H := HA.out
   clear HA
   simp only [job_Busy.l0] at H
   by_cases c5 : x9_1 < (t237.length : Int)
   ·rw [if_pos c5] at H
    have c5b0 : decide (x9_1 < (t237.length : Int)) = true := decide_eq_true c5
    clear c5
    by_cases c6 : 0 ≤ x9_1
    ·rw [if_pos c6] at H
     have c6b0 : decide (0 ≤ x9_1) = true := decide_eq_true c6
     clear c6
     by_cases c7 : x9_1 < (t237.length : Int)
     ·rw [if_pos c7] at H
      have c7b0 : decide (x9_1 < (t237.length : Int)) = true := decide_eq_true c7
      clear c7
      by_cases c8 : x3_1.length < 8796093022208
      ·rw [if_pos c8] at H
       have LMc8 := Aside0.mk c8
       clear c8
       obtain ⟨y242, hy242⟩ : ∃ y_ : List (S59), y_ = (x3_1 ++ [(⟨wrap64 (((rd_T32 t237 x9_1).f8) + ((rd_T32 t237 x9_1).f3)), (rd_T32 t237 x9_1).f2⟩ : S59)]) := ⟨_, rfl⟩
       replace H : (job_Busy.l0 k1 y242 t237 (t237.length : Int) (wrap64 (x9_1 + 1))) = some r := mH hy242 H
       have Ny242 := Aside0.mk hy242
       clear hy242
       have H' := Aside0.mk H
       clear H
       have p240 : 0 ≤ (x9_1 : Int) := oda
       have q240 : x9_1 < (t237.length : Int) := oda
       obtain ⟨ad240, e240, hx240_0, hx240_1, hx240_2, hx240_3, hx240_4, hx240_5, hx240_6, hx240_7, hx240_8, hx240_9, hx240_10, hx240_11⟩ := at_T32 (Kd.R_reads' HO_7.out).2.2 x9_1 p240 q240
       cases e240
       replace p240 := eq_true p240
       replace q240 := eq_true q240
       go_wp2_with (first | ((with_reducible refine gate_dst (N := 5) rfl ?_); refine box_event ?hg (N := 5) ?hd (cs := #[.int .i64 0, .int .i64 0, .int .i64 0, .int .i64 0, .int .i64 0, .int .i64 0, .int .i64 0, .int .i64 0, .int .i64 0, .int .i64 0, .int .i64 0, .slice none 0 0]) (t := 32) ?hr ?_; (case hd => rfl); (case hg => rfl); (case hr => first | (go_simp; done) | (go_simp; rfl)); intro gb241 hg w9 hbox hb; have n0_ := Aside0.mk (Kd.R_below (mR HO_3.out) hb); have n1_ := Aside0.mk (Kd.R_below (Kd.R_elderB (mR HO_7.out) gb241 (Nat.le_of_eq hg.symm)) hb); have n2_ := Aside0.mk (below_step (mB HB.out) hb); have n3_ := Aside0.mk (hbox); have n4_ := Aside0.mk ((by rw [hg]; exact (below_size (mB HB.out)) : w.heap.size ≤ gb241)); have n5_ := Aside0.mk ((by rw [hg]; exact (below_size (mB HB.out)) : w.heap.size ≤ gb241)); clear HO_3; clear HO_7; clear HB; have HO_3 := n0_; have HO_7 := n1_; have HB := n2_; have BK241 := n3_; have GW241 := n4_; have GE241 := n5_; clear n0_ n1_ n2_ n3_ n4_ n5_; clear hb hbox hg; have hcz10_0 : w9.cell? ⟨gb241, 0, none⟩ = some (.int .i64 0) := (blk_cell BK241.out 0).trans rfl; have hcz10_1 : w9.cell? ⟨gb241, 1, none⟩ = some (.int .i64 0) := (blk_cell BK241.out 1).trans rfl; have hcz10_2 : w9.cell? ⟨gb241, 2, none⟩ = some (.int .i64 0) := (blk_cell BK241.out 2).trans rfl; have hcz10_3 : w9.cell? ⟨gb241, 3, none⟩ = some (.int .i64 0) := (blk_cell BK241.out 3).trans rfl; have hcz10_4 : w9.cell? ⟨gb241, 4, none⟩ = some (.int .i64 0) := (blk_cell BK241.out 4).trans rfl; have hcz10_5 : w9.cell? ⟨gb241, 5, none⟩ = some (.int .i64 0) := (blk_cell BK241.out 5).trans rfl; have hcz10_6 : w9.cell? ⟨gb241, 6, none⟩ = some (.int .i64 0) := (blk_cell BK241.out 6).trans rfl; have hcz10_7 : w9.cell? ⟨gb241, 7, none⟩ = some (.int .i64 0) := (blk_cell BK241.out 7).trans rfl; have hcz10_8 : w9.cell? ⟨gb241, 8, none⟩ = some (.int .i64 0) := (blk_cell BK241.out 8).trans rfl; have hcz10_9 : w9.cell? ⟨gb241, 9, none⟩ = some (.int .i64 0) := (blk_cell BK241.out 9).trans rfl; have hcz10_10 : w9.cell? ⟨gb241, 10, none⟩ = some (.int .i64 0) := (blk_cell BK241.out 10).trans rfl; have hcz10_11 : w9.cell? ⟨gb241, 11, none⟩ = some (.slice none 0 0) := (blk_cell BK241.out 11).trans rfl; have hfz10_0 := blk_frozen BK241.out 0; have hfz10_1 := blk_frozen BK241.out 1; have hfz10_2 := blk_frozen BK241.out 2; have hfz10_3 := blk_frozen BK241.out 3; have hfz10_4 := blk_frozen BK241.out 4; have hfz10_5 := blk_frozen BK241.out 5; have hfz10_6 := blk_frozen BK241.out 6; have hfz10_7 := blk_frozen BK241.out 7; have hfz10_8 := blk_frozen BK241.out 8; have hfz10_9 := blk_frozen BK241.out 9; have hfz10_10 := blk_frozen BK241.out 10; have hfz10_11 := blk_frozen BK241.out 11) | ((with_reducible refine gate_builtin (b := .append) (xs := #[.tmp 13, .tmp 22]) rfl ?_); at_builtin; refine Kd.R_append k59 (w0 := w) w.heap.size rfl (.tmp 13) (.tmp 22) 40 59 (.agg #[(.int .i64 0), (.int .i64 0)]) 16 rfl Try.underlying40 info59 rfl (by decide) (by omega) u3 x3_1 (⟨wrap64 (((rd_T32 t237 x9_1).f8) + ((rd_T32 t237 x9_1).f3)), (rd_T32 t237 x9_1).f2⟩ : S59) [.int .i64 (wrap64 (((rd_T32 t237 x9_1).f8) + ((rd_T32 t237 x9_1).f3))), .int .i64 ((rd_T32 t237 x9_1).f2)] (fun k_ => (w.heap.size ≤ k_)) (fun _ => False) rfl (by first | (go_simp; done) | (go_simp; rfl)) ?aP (fun _ hk => hk.elim) ?aF ?aO ?aB ?aS ?aL ?_; (case aP => exact k59_mkM _ _ _ (⟨wrap64 (((rd_T32 t237 x9_1).f8) + ((rd_T32 t237 x9_1).f3)), (rd_T32 t237 x9_1).f2⟩ : S59)); (case aB => exact (mBs HB.out)); (case aF => exact (fun k_ hk => (Nat.le_trans (below_size (mBs HB.out)) hk))); (case aO => exact (by (with_reducible repeat (first | apply Kd.R_alloc | apply Kd.R_drewN | apply Kd.R_drew)); exact Kd.R_mono (Kd.R_fa gb241 11 (Kd.R_fa gb241 10 (Kd.R_fa gb241 9 (Kd.R_fa gb241 8 (Kd.R_fa gb241 7 (Kd.R_fa gb241 6 (Kd.R_fa gb241 5 (Kd.R_fa gb241 4 (Kd.R_fa gb241 3 (Kd.R_fa gb241 2 (Kd.R_fa gb241 1 (Kd.R_fa gb241 0 (Kd.R_types HO_3.out BK241.out (by decide)) (.int .i64 ((rd_T32 t237 x9_1).f0))) (.int .i64 ((rd_T32 t237 x9_1).f1))) (.int .i64 ((rd_T32 t237 x9_1).f2))) (.int .i64 ((rd_T32 t237 x9_1).f3))) (.int .i64 ((rd_T32 t237 x9_1).f4))) (.int .i64 ((rd_T32 t237 x9_1).f5))) (.int .i64 ((rd_T32 t237 x9_1).f6))) (.int .i64 ((rd_T32 t237 x9_1).f7))) (.int .i64 ((rd_T32 t237 x9_1).f8))) (.int .i64 ((rd_T32 t237 x9_1).f9))) (.int .i64 ((rd_T32 t237 x9_1).f10))) (.slice ((rd_T32 t237 x9_1).f11).A ((rd_T32 t237 x9_1).f11).n ((rd_T32 t237 x9_1).f11).c)) (fun _ hk => hk.1))); (case aS => exact (below_size (mBs HB.out))); (case aL => have := LMc8.out; omega); intro v243 w11 ho hb hg hat; rw [← Ny242.out] at ho; have n0_ := Aside0.mk (Kd.R_over' (by (with_reducible repeat (first | apply Kd.R_alloc | apply Kd.R_drewN | apply Kd.R_drew)); exact (Kd.R_mono (Kd.R_fa gb241 11 (Kd.R_fa gb241 10 (Kd.R_fa gb241 9 (Kd.R_fa gb241 8 (Kd.R_fa gb241 7 (Kd.R_fa gb241 6 (Kd.R_fa gb241 5 (Kd.R_fa gb241 4 (Kd.R_fa gb241 3 (Kd.R_fa gb241 2 (Kd.R_fa gb241 1 (Kd.R_fa gb241 0 (Kd.R_mono HO_7.out (fun k_ hk => (⟨hk, hk.2⟩ : _ ∧ k_ ≠ gb241))) (.int .i64 ((rd_T32 t237 x9_1).f0))) (.int .i64 ((rd_T32 t237 x9_1).f1))) (.int .i64 ((rd_T32 t237 x9_1).f2))) (.int .i64 ((rd_T32 t237 x9_1).f3))) (.int .i64 ((rd_T32 t237 x9_1).f4))) (.int .i64 ((rd_T32 t237 x9_1).f5))) (.int .i64 ((rd_T32 t237 x9_1).f6))) (.int .i64 ((rd_T32 t237 x9_1).f7))) (.int .i64 ((rd_T32 t237 x9_1).f8))) (.int .i64 ((rd_T32 t237 x9_1).f9))) (.int .i64 ((rd_T32 t237 x9_1).f10))) (.slice ((rd_T32 t237 x9_1).f11).A ((rd_T32 t237 x9_1).f11).n ((rd_T32 t237 x9_1).f11).c)) (fun _ h_ => h_.1))) (Kd.R_typed (by (with_reducible repeat (first | apply Kd.R_alloc | apply Kd.R_drewN | apply Kd.R_drew)); exact (Kd.R_mono (Kd.R_fa gb241 11 (Kd.R_fa gb241 10 (Kd.R_fa gb241 9 (Kd.R_fa gb241 8 (Kd.R_fa gb241 7 (Kd.R_fa gb241 6 (Kd.R_fa gb241 5 (Kd.R_fa gb241 4 (Kd.R_fa gb241 3 (Kd.R_fa gb241 2 (Kd.R_fa gb241 1 (Kd.R_fa gb241 0 (Kd.R_types HO_3.out BK241.out (by decide)) (.int .i64 ((rd_T32 t237 x9_1).f0))) (.int .i64 ((rd_T32 t237 x9_1).f1))) (.int .i64 ((rd_T32 t237 x9_1).f2))) (.int .i64 ((rd_T32 t237 x9_1).f3))) (.int .i64 ((rd_T32 t237 x9_1).f4))) (.int .i64 ((rd_T32 t237 x9_1).f5))) (.int .i64 ((rd_T32 t237 x9_1).f6))) (.int .i64 ((rd_T32 t237 x9_1).f7))) (.int .i64 ((rd_T32 t237 x9_1).f8))) (.int .i64 ((rd_T32 t237 x9_1).f9))) (.int .i64 ((rd_T32 t237 x9_1).f10))) (.slice ((rd_T32 t237 x9_1).f11).A ((rd_T32 t237 x9_1).f11).n ((rd_T32 t237 x9_1).f11).c)) (fun _ h_ => h_.1)))) (by decide) hg); have n1_ := Aside0.mk (blk_grown (g := gb241) (o := .cells (cJ (rd_T32 t237 x9_1)) 32 (0, 0)) (by (with_reducible repeat first | apply blk_drewN | apply blk_drew | apply blk_alloc); refine blk_put (cs := #[.int .i64 ((rd_T32 t237 x9_1).f0), .int .i64 ((rd_T32 t237 x9_1).f1), .int .i64 ((rd_T32 t237 x9_1).f2), .int .i64 ((rd_T32 t237 x9_1).f3), .int .i64 ((rd_T32 t237 x9_1).f4), .int .i64 ((rd_T32 t237 x9_1).f5), .int .i64 ((rd_T32 t237 x9_1).f6), .int .i64 ((rd_T32 t237 x9_1).f7), .int .i64 ((rd_T32 t237 x9_1).f8), .int .i64 ((rd_T32 t237 x9_1).f9), .int .i64 ((rd_T32 t237 x9_1).f10), .slice none 0 0]) ?_ 11 _ rfl; (with_reducible repeat first | apply blk_drewN | apply blk_drew | apply blk_alloc); refine blk_put (cs := #[.int .i64 ((rd_T32 t237 x9_1).f0), .int .i64 ((rd_T32 t237 x9_1).f1), .int .i64 ((rd_T32 t237 x9_1).f2), .int .i64 ((rd_T32 t237 x9_1).f3), .int .i64 ((rd_T32 t237 x9_1).f4), .int .i64 ((rd_T32 t237 x9_1).f5), .int .i64 ((rd_T32 t237 x9_1).f6), .int .i64 ((rd_T32 t237 x9_1).f7), .int .i64 ((rd_T32 t237 x9_1).f8), .int .i64 ((rd_T32 t237 x9_1).f9), .int .i64 0, .slice none 0 0]) ?_ 10 _ rfl; (with_reducible repeat first | apply blk_drewN | apply blk_drew | apply blk_alloc); refine blk_put (cs := #[.int .i64 ((rd_T32 t237 x9_1).f0), .int .i64 ((rd_T32 t237 x9_1).f1), .int .i64 ((rd_T32 t237 x9_1).f2), .int .i64 ((rd_T32 t237 x9_1).f3), .int .i64 ((rd_T32 t237 x9_1).f4), .int .i64 ((rd_T32 t237 x9_1).f5), .int .i64 ((rd_T32 t237 x9_1).f6), .int .i64 ((rd_T32 t237 x9_1).f7), .int .i64 ((rd_T32 t237 x9_1).f8), .int .i64 0, .int .i64 0, .slice none 0 0]) ?_ 9 _ rfl; (with_reducible repeat first | apply blk_drewN | apply blk_drew | apply blk_alloc); refine blk_put (cs := #[.int .i64 ((rd_T32 t237 x9_1).f0), .int .i64 ((rd_T32 t237 x9_1).f1), .int .i64 ((rd_T32 t237 x9_1).f2), .int .i64 ((rd_T32 t237 x9_1).f3), .int .i64 ((rd_T32 t237 x9_1).f4), .int .i64 ((rd_T32 t237 x9_1).f5), .int .i64 ((rd_T32 t237 x9_1).f6), .int .i64 ((rd_T32 t237 x9_1).f7), .int .i64 0, .int .i64 0, .int .i64 0, .slice none 0 0]) ?_ 8 _ rfl; (with_reducible repeat first | apply blk_drewN | apply blk_drew | apply blk_alloc); refine blk_put (cs := #[.int .i64 ((rd_T32 t237 x9_1).f0), .int .i64 ((rd_T32 t237 x9_1).f1), .int .i64 ((rd_T32 t237 x9_1).f2), .int .i64 ((rd_T32 t237 x9_1).f3), .int .i64 ((rd_T32 t237 x9_1).f4), .int .i64 ((rd_T32 t237 x9_1).f5), .int .i64 ((rd_T32 t237 x9_1).f6), .int .i64 0, .int .i64 0, .int .i64 0, .int .i64 0, .slice none 0 0]) ?_ 7 _ rfl; (with_reducible repeat first | apply blk_drewN | apply blk_drew | apply blk_alloc); refine blk_put (cs := #[.int .i64 ((rd_T32 t237 x9_1).f0), .int .i64 ((rd_T32 t237 x9_1).f1), .int .i64 ((rd_T32 t237 x9_1).f2), .int .i64 ((rd_T32 t237 x9_1).f3), .int .i64 ((rd_T32 t237 x9_1).f4), .int .i64 ((rd_T32 t237 x9_1).f5), .int .i64 0, .int .i64 0, .int .i64 0, .int .i64 0, .int .i64 0, .slice none 0 0]) ?_ 6 _ rfl; (with_reducible repeat first | apply blk_drewN | apply blk_drew | apply blk_alloc); refine blk_put (cs := #[.int .i64 ((rd_T32 t237 x9_1).f0), .int .i64 ((rd_T32 t237 x9_1).f1), .int .i64 ((rd_T32 t237 x9_1).f2), .int .i64 ((rd_T32 t237 x9_1).f3), .int .i64 ((rd_T32 t237 x9_1).f4), .int .i64 0, .int .i64 0, .int .i64 0, .int .i64 0, .int .i64 0, .int .i64 0, .slice none 0 0]) ?_ 5 _ rfl; (with_reducible repeat first | apply blk_drewN | apply blk_drew | apply blk_alloc); refine blk_put (cs := #[.int .i64 ((rd_T32 t237 x9_1).f0), .int .i64 ((rd_T32 t237 x9_1).f1), .int .i64 ((rd_T32 t237 x9_1).f2), .int .i64 ((rd_T32 t237 x9_1).f3), .int .i64 0, .int .i64 0, .int .i64 0, .int .i64 0, .int .i64 0, .int .i64 0, .int .i64 0, .slice none 0 0]) ?_ 4 _ rfl; (with_reducible repeat first | apply blk_drewN | apply blk_drew | apply blk_alloc); refine blk_put (cs := #[.int .i64 ((rd_T32 t237 x9_1).f0), .int .i64 ((rd_T32 t237 x9_1).f1), .int .i64 ((rd_T32 t237 x9_1).f2), .int .i64 0, .int .i64 0, .int .i64 0, .int .i64 0, .int .i64 0, .int .i64 0, .int .i64 0, .int .i64 0, .slice none 0 0]) ?_ 3 _ rfl; (with_reducible repeat first | apply blk_drewN | apply blk_drew | apply blk_alloc); refine blk_put (cs := #[.int .i64 ((rd_T32 t237 x9_1).f0), .int .i64 ((rd_T32 t237 x9_1).f1), .int .i64 0, .int .i64 0, .int .i64 0, .int .i64 0, .int .i64 0, .int .i64 0, .int .i64 0, .int .i64 0, .int .i64 0, .slice none 0 0]) ?_ 2 _ rfl; (with_reducible repeat first | apply blk_drewN | apply blk_drew | apply blk_alloc); refine blk_put (cs := #[.int .i64 ((rd_T32 t237 x9_1).f0), .int .i64 0, .int .i64 0, .int .i64 0, .int .i64 0, .int .i64 0, .int .i64 0, .int .i64 0, .int .i64 0, .int .i64 0, .int .i64 0, .slice none 0 0]) ?_ 1 _ rfl; (with_reducible repeat first | apply blk_drewN | apply blk_drew | apply blk_alloc); refine blk_put (cs := #[.int .i64 0, .int .i64 0, .int .i64 0, .int .i64 0, .int .i64 0, .int .i64 0, .int .i64 0, .int .i64 0, .int .i64 0, .int .i64 0, .int .i64 0, .slice none 0 0]) ?_ 0 _ rfl; (with_reducible repeat first | apply blk_drewN | apply blk_drew | apply blk_alloc); exact BK241.out) hg (Kd.R_ne HO_3.out BK241.out (by decide))); have n2_ := Aside0.mk (hb); have n3_ := Aside0.mk (ho); clear HO_7; clear BK241; clear HB; clear HO_3; have HO_7 := n0_; have BK241 := n1_; have HB := n2_; have HO244 := n3_; clear n0_ n1_ n2_ n3_; clear ho hb hg hat))
       go_roundg k1
       case measure => have := HK1.out; omega
       case rel => exact ⟨(y242), (wrap64 (x9_1 + 1)), ez, H', ⟨by have := HK1.out; omega⟩, ⟨mR HO244.out⟩, ⟨by (with_reducible repeat (first | apply Kd.R_alloc | apply Kd.R_drewN | apply Kd.R_drew)); exact Kd.R_mono HO_7.out (fun _ hk => hk.1)⟩, ⟨mBs HB.out⟩⟩
      ·rw [if_neg c8] at H
       exact absurd H (by simp)
     ·rw [if_neg c7] at H
      exact absurd H (by simp)
    ·rw [if_neg c6] at H
     exact absurd H (by simp)
   ·rw [if_neg c5] at H
    have c5b0 : decide (x9_1 < (t237.length : Int)) = false := decide_eq_false c5
    clear c5
    replace H := Option.bind_eq_some_iff.mp H
    obtain ⟨t245, A120, H⟩ := H
    replace H : (some t245) = some r := H
    have A12 := Aside0.mk A120
    clear A120
    obtain rfl := Option.some.inj H
    obtain ⟨Ao13, co13, eo13⟩ := Kd.R_slice HO_3.out
    subst eo13
    go_wp2_with (first | ((with_reducible refine gate_callee (f := 42) rfl ?_); refine goesL_ (some 26) rfl rfl Try.func42 (by kernel_rfl) rfl #[.slice Ao13 x3_1.length co13] rfl mt ?_; (with_reducible refine (slices_Clip_Busy.calls (fun k_ => some k_ = (.slice Ao13 x3_1.length co13 : Value).ownBlock) _ _ x3_1 t245 _ ?side1 A12.out).mono ?_); (case side1 => exact Kd.R_V (Kd.R_tight rfl (Kd.R_apart' (HO_3.out) (Kd.R_typed HO_7.out) (by decide)))); rintro e w14 ⟨v246, rfl, ho0, hb⟩; refine ⟨_, rfl, ?_⟩; have n0_ := Aside0.mk (Kd.R_below (mR HO_3.out) hb); have n1_ := Aside0.mk (Kd.R_below (mR HO_7.out) hb); have n2_ := Aside0.mk (Kd.V_lower (Kd.V_mono (ok' := fun k_ => (w.heap.size ≤ k_) ∧ some k_ ≠ (.slice Ao4 t237.length co4 : Value).ownBlock) ho0 (fun k_ hk_ => ⟨Or.elim hk_ (fun hs_ => ((Kd.R_apart' (HO_3.out) (Kd.R_typed HO_7.out) (by decide)).1 k_ hs_.symm).1) (fun hn_ => (Nat.le_trans (below_size (mB HB.out)) hn_)), Or.elim hk_ (fun hs_ => ((Kd.R_apart' (HO_3.out) (Kd.R_typed HO_7.out) (by decide)).1 k_ hs_.symm).2) (fun hn_ => (Kd.fresh' (Kd.R_lt (mR HO_7.out)) k_ hn_))⟩)) (below_size (mB HB.out))); have n3_ := Aside0.mk (below_step (mB HB.out) hb); clear HO_3; clear HO_7; clear HB; have HO_3 := n0_; have HO_7 := n1_; have HO247 := n2_; have HB := n3_; clear n0_ n1_ n2_ n3_; (try clear hb); (try clear hb2); (try clear hk); (try clear hi); (try clear ho0)))
    go_ret
    exact ⟨_, by first | rfl | (simp [errW_none, errW_some] <;> rfl) | (simp [*, errW_none, errW_some] <;> rfl), by (with_reducible repeat (first | apply Kd.V_alloc | apply Kd.V_drewN | apply Kd.V_drew)); exact Kd.V_mono HO247.out (fun _ hk => hk.1), by repeat (first | (with_reducible first | exact HB.out | apply below_alloc | apply pw_below_drewN | apply below_drew1) | exact HB.out)⟩

end Go.Proofs.Ytkhfgflcanmefaa.PAll
end
section
namespace Go.Proofs.Ytkhfgflcanmefaa.PAll
open Go.RowKit Go.Proofs.YtkhfgflcanmefaaW.PrintWords Go.Proofs.YtkhfgflcanmefaaW.PrintLast Go.Proofs.YtkhfgflcanmefaaW.PrintMore
attribute [local go_sem] max2_int min2_int max_two min_two max_three min_three max_four min_four   -- for this text's walks alone
set_option linter.unusedVariables false
set_option linter.unusedSimpArgs false

def prebendlaw19_awake.f (k : Nat)  : Option (Bool) := (some (([(⟨4, 0, 0, 0, 0, 0, 0, 1, 0, 0, 0, SH.nil⟩ : S32), (⟨3, 0, 2, 10, 0, 0, 0, 3, 5, 9, 0, SH.nil⟩ : S32)] : List (S32)) : List (S32))).bind fun y321 => ((job_Good.f 3 0 2 10 0 0 0 3 5 9 0 SH.nil).bind fun t324 => (if t324 = true then ((job_Find.f k y321 3).bind fun t325 => (if t325 = 1 then ((job_Find.f k y321 5).bind fun t326 => (if t326 = (-1) then ((job_Mask.f k y321).bind fun t327 => (if t327 = 9 then ((job_Due.f k y321 15).bind fun t328 => ((prebendref01_Ints.f k t328 (([3] : List Int))).bind fun t334 => (if t334 = true then ((job_Due.f k y321 14).bind fun t335 => (if (t335.length : Int) = 0 then ((job_Boxes.f k y321).bind fun t338 => (if (t338.length : Int) = 2 then ((job_Busy.f k y321).bind fun t341 => ((prebendref19_SameBusy.f k t341 (([(⟨15, 2⟩ : S59)] : List (S59)))).bind fun t347 => (some t347))) else (some false))) else (some false))) else (some false)))) else (some false))) else (some false))) else (some false))) else (some false)))
theorem prebendlaw19_awake.mono : ∀ k, LeO (prebendlaw19_awake.f k ) (prebendlaw19_awake.f (k + 1) ) := by
 intro  k
 unfold prebendlaw19_awake.f
 repeat' first
   | (with_reducible exact job_Boxes.mono _ _)
   | (with_reducible exact job_Busy.mono _ _)
   | (with_reducible exact job_Due.mono _ _ _)
   | (with_reducible exact job_Find.mono _ _ _)
   | (with_reducible exact job_Mask.mono _ _)
   | (with_reducible exact prebendref01_Ints.mono _ _ _)
   | (with_reducible exact prebendref19_SameBusy.mono _ _ _)
   | (with_reducible exact LeO.refl _)
   | (with_reducible exact LeO.none _)
   | (with_reducible refine LeO.ite ?_ ?_)
   | (with_reducible refine LeO.bind ?_ (fun _ => ?_))
   | exact job_Boxes.mono _ _
   | exact job_Busy.mono _ _
   | exact job_Due.mono _ _ _
   | exact job_Find.mono _ _ _
   | exact job_Mask.mono _ _
   | exact prebendref01_Ints.mono _ _ _
   | exact prebendref19_SameBusy.mono _ _ _
   | exact LeO.none _
   | refine LeO.ite ?_ ?_
   | refine LeO.bind ?_ (fun _ => ?_)
set_option maxHeartbeats 8000000 in
set_option maxRecDepth 100000 in
theorem prebendlaw19_awake.calls (k : Nat)  (w : World) (h : prebendlaw19_awake.f k  = some true) :
  Calls Try.prog 16 #[] w fun e w' => e = .returned (.bool true) ∧ Below w.heap.size w w' := by
 have hu32 := Try.underlying32
 have hu59 := Try.underlying59
 have HB := Aside0.mk (Below.refl w.heap.size w)
 have H : ((some (([(⟨4, 0, 0, 0, 0, 0, 0, 1, 0, 0, 0, SH.nil⟩ : S32), (⟨3, 0, 2, 10, 0, 0, 0, 3, 5, 9, 0, SH.nil⟩ : S32)] : List (S32)) : List (S32))).bind fun y321 => ((job_Good.f 3 0 2 10 0 0 0 3 5 9 0 SH.nil).bind fun t324 => (if t324 = true then ((job_Find.f k y321 3).bind fun t325 => (if t325 = 1 then ((job_Find.f k y321 5).bind fun t326 => (if t326 = (-1) then ((job_Mask.f k y321).bind fun t327 => (if t327 = 9 then ((job_Due.f k y321 15).bind fun t328 => ((prebendref01_Ints.f k t328 (([3] : List Int))).bind fun t334 => (if t334 = true then ((job_Due.f k y321 14).bind fun t335 => (if (t335.length : Int) = 0 then ((job_Boxes.f k y321).bind fun t338 => (if (t338.length : Int) = 2 then ((job_Busy.f k y321).bind fun t341 => ((prebendref19_SameBusy.f k t341 (([(⟨15, 2⟩ : S59)] : List (S59)))).bind fun t347 => (some t347))) else (some false))) else (some false))) else (some false)))) else (some false))) else (some false))) else (some false))) else (some false)))) = some true := h
 clear h
 obtain ⟨y321, hy321⟩ : ∃ y_ : List (S32), y_ = (([(⟨4, 0, 0, 0, 0, 0, 0, 1, 0, 0, 0, SH.nil⟩ : S32), (⟨3, 0, 2, 10, 0, 0, 0, 3, 5, 9, 0, SH.nil⟩ : S32)] : List (S32))) := ⟨_, rfl⟩
 replace H : ((job_Good.f 3 0 2 10 0 0 0 3 5 9 0 SH.nil).bind fun t324 => (if t324 = true then ((job_Find.f k y321 3).bind fun t325 => (if t325 = 1 then ((job_Find.f k y321 5).bind fun t326 => (if t326 = (-1) then ((job_Mask.f k y321).bind fun t327 => (if t327 = 9 then ((job_Due.f k y321 15).bind fun t328 => ((prebendref01_Ints.f k t328 (([3] : List Int))).bind fun t334 => (if t334 = true then ((job_Due.f k y321 14).bind fun t335 => (if (t335.length : Int) = 0 then ((job_Boxes.f k y321).bind fun t338 => (if (t338.length : Int) = 2 then ((job_Busy.f k y321).bind fun t341 => ((prebendref19_SameBusy.f k t341 (([(⟨15, 2⟩ : S59)] : List (S59)))).bind fun t347 => (some t347))) else (some false))) else (some false))) else (some false)))) else (some false))) else (some false))) else (some false))) else (some false))) = some true := mH hy321 H
 have Ny321 := Aside0.mk hy321
 clear hy321
 replace H := Option.bind_eq_some_iff.mp H
 obtain ⟨t324, A10, H⟩ := H
 replace H : (if t324 = true then ((job_Find.f k y321 3).bind fun t325 => (if t325 = 1 then ((job_Find.f k y321 5).bind fun t326 => (if t326 = (-1) then ((job_Mask.f k y321).bind fun t327 => (if t327 = 9 then ((job_Due.f k y321 15).bind fun t328 => ((prebendref01_Ints.f k t328 (([3] : List Int))).bind fun t334 => (if t334 = true then ((job_Due.f k y321 14).bind fun t335 => (if (t335.length : Int) = 0 then ((job_Boxes.f k y321).bind fun t338 => (if (t338.length : Int) = 2 then ((job_Busy.f k y321).bind fun t341 => ((prebendref19_SameBusy.f k t341 (([(⟨15, 2⟩ : S59)] : List (S59)))).bind fun t347 => (some t347))) else (some false))) else (some false))) else (some false)))) else (some false))) else (some false))) else (some false))) else (some false)) = some true := H
 have A1 := Aside0.mk A10
 clear A10
 by_cases c2 : t324 = true
 ·subst c2
  have H1 : ((job_Find.f k y321 3).bind fun t325 => (if t325 = 1 then ((job_Find.f k y321 5).bind fun t326 => (if t326 = (-1) then ((job_Mask.f k y321).bind fun t327 => (if t327 = 9 then ((job_Due.f k y321 15).bind fun t328 => ((prebendref01_Ints.f k t328 (([3] : List Int))).bind fun t334 => (if t334 = true then ((job_Due.f k y321 14).bind fun t335 => (if (t335.length : Int) = 0 then ((job_Boxes.f k y321).bind fun t338 => (if (t338.length : Int) = 2 then ((job_Busy.f k y321).bind fun t341 => ((prebendref19_SameBusy.f k t341 (([(⟨15, 2⟩ : S59)] : List (S59)))).bind fun t347 => (some t347))) else (some false))) else (some false))) else (some false)))) else (some false))) else (some false))) else (some false))) = some true := by rw [if_pos rfl] at H; exact H
  clear H
  have H := H1
  clear H1
  replace H := Option.bind_eq_some_iff.mp H
  obtain ⟨t325, A30, H⟩ := H
  replace H : (if t325 = 1 then ((job_Find.f k y321 5).bind fun t326 => (if t326 = (-1) then ((job_Mask.f k y321).bind fun t327 => (if t327 = 9 then ((job_Due.f k y321 15).bind fun t328 => ((prebendref01_Ints.f k t328 (([3] : List Int))).bind fun t334 => (if t334 = true then ((job_Due.f k y321 14).bind fun t335 => (if (t335.length : Int) = 0 then ((job_Boxes.f k y321).bind fun t338 => (if (t338.length : Int) = 2 then ((job_Busy.f k y321).bind fun t341 => ((prebendref19_SameBusy.f k t341 (([(⟨15, 2⟩ : S59)] : List (S59)))).bind fun t347 => (some t347))) else (some false))) else (some false))) else (some false)))) else (some false))) else (some false))) else (some false)) = some true := H
  have A3 := Aside0.mk A30
  clear A30
  by_cases c4 : t325 = 1
  ·rw [if_pos c4] at H
   have c4b0 : (t325 == 1) = true := beq_iff_eq.mpr c4
   have c4b1 : (t325 != 1) = false := bne_eq_false_iff_eq.mpr c4
   clear c4
   replace H := Option.bind_eq_some_iff.mp H
   obtain ⟨t326, A50, H⟩ := H
   replace H : (if t326 = (-1) then ((job_Mask.f k y321).bind fun t327 => (if t327 = 9 then ((job_Due.f k y321 15).bind fun t328 => ((prebendref01_Ints.f k t328 (([3] : List Int))).bind fun t334 => (if t334 = true then ((job_Due.f k y321 14).bind fun t335 => (if (t335.length : Int) = 0 then ((job_Boxes.f k y321).bind fun t338 => (if (t338.length : Int) = 2 then ((job_Busy.f k y321).bind fun t341 => ((prebendref19_SameBusy.f k t341 (([(⟨15, 2⟩ : S59)] : List (S59)))).bind fun t347 => (some t347))) else (some false))) else (some false))) else (some false)))) else (some false))) else (some false)) = some true := H
   have A5 := Aside0.mk A50
   clear A50
   by_cases c6 : t326 = (-1)
   ·rw [if_pos c6] at H
    have c6b0 : (t326 == (-1)) = true := beq_iff_eq.mpr c6
    have c6b1 : (t326 != (-1)) = false := bne_eq_false_iff_eq.mpr c6
    clear c6
    replace H := Option.bind_eq_some_iff.mp H
    obtain ⟨t327, A70, H⟩ := H
    replace H : (if t327 = 9 then ((job_Due.f k y321 15).bind fun t328 => ((prebendref01_Ints.f k t328 (([3] : List Int))).bind fun t334 => (if t334 = true then ((job_Due.f k y321 14).bind fun t335 => (if (t335.length : Int) = 0 then ((job_Boxes.f k y321).bind fun t338 => (if (t338.length : Int) = 2 then ((job_Busy.f k y321).bind fun t341 => ((prebendref19_SameBusy.f k t341 (([(⟨15, 2⟩ : S59)] : List (S59)))).bind fun t347 => (some t347))) else (some false))) else (some false))) else (some false)))) else (some false)) = some true := H
    have A7 := Aside0.mk A70
    clear A70
    by_cases c8 : t327 = 9
    ·rw [if_pos c8] at H
     have c8b0 : (t327 == 9) = true := beq_iff_eq.mpr c8
     have c8b1 : (t327 != 9) = false := bne_eq_false_iff_eq.mpr c8
     clear c8
     replace H := Option.bind_eq_some_iff.mp H
     obtain ⟨t328, A90, H⟩ := H
     replace H : ((prebendref01_Ints.f k t328 (([3] : List Int))).bind fun t334 => (if t334 = true then ((job_Due.f k y321 14).bind fun t335 => (if (t335.length : Int) = 0 then ((job_Boxes.f k y321).bind fun t338 => (if (t338.length : Int) = 2 then ((job_Busy.f k y321).bind fun t341 => ((prebendref19_SameBusy.f k t341 (([(⟨15, 2⟩ : S59)] : List (S59)))).bind fun t347 => (some t347))) else (some false))) else (some false))) else (some false))) = some true := H
     have A9 := Aside0.mk A90
     clear A90
     obtain ⟨y331, hy331⟩ : ∃ y_ : List Int, y_ = (([3] : List Int)) := ⟨_, rfl⟩
     replace H : ((prebendref01_Ints.f k t328 y331).bind fun t334 => (if t334 = true then ((job_Due.f k y321 14).bind fun t335 => (if (t335.length : Int) = 0 then ((job_Boxes.f k y321).bind fun t338 => (if (t338.length : Int) = 2 then ((job_Busy.f k y321).bind fun t341 => ((prebendref19_SameBusy.f k t341 (([(⟨15, 2⟩ : S59)] : List (S59)))).bind fun t347 => (some t347))) else (some false))) else (some false))) else (some false))) = some true := mH hy331 H
     have Ny331 := Aside0.mk hy331
     clear hy331
     replace H := Option.bind_eq_some_iff.mp H
     obtain ⟨t334, A100, H⟩ := H
     replace H : (if t334 = true then ((job_Due.f k y321 14).bind fun t335 => (if (t335.length : Int) = 0 then ((job_Boxes.f k y321).bind fun t338 => (if (t338.length : Int) = 2 then ((job_Busy.f k y321).bind fun t341 => ((prebendref19_SameBusy.f k t341 (([(⟨15, 2⟩ : S59)] : List (S59)))).bind fun t347 => (some t347))) else (some false))) else (some false))) else (some false)) = some true := H
     have A10 := Aside0.mk A100
     clear A100
     by_cases c11 : t334 = true
     ·subst c11
      have H1 : ((job_Due.f k y321 14).bind fun t335 => (if (t335.length : Int) = 0 then ((job_Boxes.f k y321).bind fun t338 => (if (t338.length : Int) = 2 then ((job_Busy.f k y321).bind fun t341 => ((prebendref19_SameBusy.f k t341 (([(⟨15, 2⟩ : S59)] : List (S59)))).bind fun t347 => (some t347))) else (some false))) else (some false))) = some true := by rw [if_pos rfl] at H; exact H
      clear H
      have H := H1
      clear H1
      replace H := Option.bind_eq_some_iff.mp H
      obtain ⟨t335, A120, H⟩ := H
      replace H : (if (t335.length : Int) = 0 then ((job_Boxes.f k y321).bind fun t338 => (if (t338.length : Int) = 2 then ((job_Busy.f k y321).bind fun t341 => ((prebendref19_SameBusy.f k t341 (([(⟨15, 2⟩ : S59)] : List (S59)))).bind fun t347 => (some t347))) else (some false))) else (some false)) = some true := H
      have A12 := Aside0.mk A120
      clear A120
      by_cases c13 : (t335.length : Int) = 0
      ·rw [if_pos c13] at H
       have c13b0 : ((t335.length : Int) == 0) = true := beq_iff_eq.mpr c13
       have c13b1 : ((t335.length : Int) != 0) = false := bne_eq_false_iff_eq.mpr c13
       clear c13
       replace H := Option.bind_eq_some_iff.mp H
       obtain ⟨t338, A140, H⟩ := H
       replace H : (if (t338.length : Int) = 2 then ((job_Busy.f k y321).bind fun t341 => ((prebendref19_SameBusy.f k t341 (([(⟨15, 2⟩ : S59)] : List (S59)))).bind fun t347 => (some t347))) else (some false)) = some true := H
       have A14 := Aside0.mk A140
       clear A140
       by_cases c15 : (t338.length : Int) = 2
       ·rw [if_pos c15] at H
        have c15b0 : ((t338.length : Int) == 2) = true := beq_iff_eq.mpr c15
        have c15b1 : ((t338.length : Int) != 2) = false := bne_eq_false_iff_eq.mpr c15
        clear c15
        replace H := Option.bind_eq_some_iff.mp H
        obtain ⟨t341, A160, H⟩ := H
        replace H : ((prebendref19_SameBusy.f k t341 (([(⟨15, 2⟩ : S59)] : List (S59)))).bind fun t347 => (some t347)) = some true := H
        have A16 := Aside0.mk A160
        clear A160
        obtain ⟨y344, hy344⟩ : ∃ y_ : List (S59), y_ = (([(⟨15, 2⟩ : S59)] : List (S59))) := ⟨_, rfl⟩
        replace H : ((prebendref19_SameBusy.f k t341 y344).bind fun t347 => (some t347)) = some true := mH hy344 H
        have Ny344 := Aside0.mk hy344
        clear hy344
        replace H := Option.bind_eq_some_iff.mp H
        obtain ⟨t347, A170, H⟩ := H
        replace H : (some t347) = some true := H
        have A17 := Aside0.mk A170
        clear A170
        obtain rfl := Option.some.inj H
        go_enter Try.func16, Try.ntmps16
        go_wp2_with (first | ((with_reducible refine gate_dst (N := 1) rfl ?_); (try (refine gate_guard (by rfl) ?_; dsimp only)); refine box_event ?hg (N := 1) ?hd (cs := #[.int .i64 0, .int .i64 0, .int .i64 0, .int .i64 0, .int .i64 0, .int .i64 0, .int .i64 0, .int .i64 0, .int .i64 0, .int .i64 0, .int .i64 0, .slice none 0 0]) (t := 32) ?hr ?_; (case hd => rfl); (case hg => rfl); (case hr => first | (go_simp; done) | (go_simp; rfl)); intro gb320 hg w18 hbox hb; have n0_ := Aside0.mk (below_step (mB HB.out) hb); have n1_ := Aside0.mk (hbox); have n2_ := Aside0.mk ((by rw [hg]; exact (below_size (mB HB.out)) : w.heap.size ≤ gb320)); have n3_ := Aside0.mk ((by rw [hg]; exact (below_size (mB HB.out)) : w.heap.size ≤ gb320)); clear HB; have HB := n0_; have BK320 := n1_; have GW320 := n2_; have GE320 := n3_; clear n0_ n1_ n2_ n3_; clear hb hbox hg; have hcz19_0 : w18.cell? ⟨gb320, 0, none⟩ = some (.int .i64 0) := (blk_cell BK320.out 0).trans rfl; have hcz19_1 : w18.cell? ⟨gb320, 1, none⟩ = some (.int .i64 0) := (blk_cell BK320.out 1).trans rfl; have hcz19_2 : w18.cell? ⟨gb320, 2, none⟩ = some (.int .i64 0) := (blk_cell BK320.out 2).trans rfl; have hcz19_3 : w18.cell? ⟨gb320, 3, none⟩ = some (.int .i64 0) := (blk_cell BK320.out 3).trans rfl; have hcz19_4 : w18.cell? ⟨gb320, 4, none⟩ = some (.int .i64 0) := (blk_cell BK320.out 4).trans rfl; have hcz19_5 : w18.cell? ⟨gb320, 5, none⟩ = some (.int .i64 0) := (blk_cell BK320.out 5).trans rfl; have hcz19_6 : w18.cell? ⟨gb320, 6, none⟩ = some (.int .i64 0) := (blk_cell BK320.out 6).trans rfl; have hcz19_7 : w18.cell? ⟨gb320, 7, none⟩ = some (.int .i64 0) := (blk_cell BK320.out 7).trans rfl; have hcz19_8 : w18.cell? ⟨gb320, 8, none⟩ = some (.int .i64 0) := (blk_cell BK320.out 8).trans rfl; have hcz19_9 : w18.cell? ⟨gb320, 9, none⟩ = some (.int .i64 0) := (blk_cell BK320.out 9).trans rfl; have hcz19_10 : w18.cell? ⟨gb320, 10, none⟩ = some (.int .i64 0) := (blk_cell BK320.out 10).trans rfl; have hcz19_11 : w18.cell? ⟨gb320, 11, none⟩ = some (.slice none 0 0) := (blk_cell BK320.out 11).trans rfl; have hfz19_0 := blk_frozen BK320.out 0; have hfz19_1 := blk_frozen BK320.out 1; have hfz19_2 := blk_frozen BK320.out 2; have hfz19_3 := blk_frozen BK320.out 3; have hfz19_4 := blk_frozen BK320.out 4; have hfz19_5 := blk_frozen BK320.out 5; have hfz19_6 := blk_frozen BK320.out 6; have hfz19_7 := blk_frozen BK320.out 7; have hfz19_8 := blk_frozen BK320.out 8; have hfz19_9 := blk_frozen BK320.out 9; have hfz19_10 := blk_frozen BK320.out 10; have hfz19_11 := blk_frozen BK320.out 11) | ((with_reducible refine gate_dst (N := 6) rfl ?_); (try (refine gate_guard (by rfl) ?_; dsimp only)); refine Kd.R_lit k32 _ 32 ?hg (N := 6) ?hd (xs := ([(⟨4, 0, 0, 0, 0, 0, 0, 1, 0, 0, 0, SH.nil⟩ : S32), (⟨3, 0, 2, 10, 0, 0, 0, 3, 5, 9, 0, SH.nil⟩ : S32)] : List (S32))) (inner := [.int .i64 4, .int .i64 0, .int .i64 0, .int .i64 0, .int .i64 0, .int .i64 0, .int .i64 0, .int .i64 1, .int .i64 0, .int .i64 0, .int .i64 0, .slice none 0 0, .int .i64 3, .int .i64 0, .int .i64 2, .int .i64 10, .int .i64 0, .int .i64 0, .int .i64 0, .int .i64 3, .int .i64 5, .int .i64 9, .int .i64 0, .slice none 0 0]) (ok := fun _ => True) (okp := fun _ => True) ?hr ?hp (fun _ hk => hk) trivial (Below.refl _ _) (Nat.le_refl _) (by simp) ?_; (case hd => rfl); (case hg => rfl); (case hr => first | (go_simp; done) | (go_simp; rfl)); (case hp => exact (Reps.front (show Kd.M k32 _ _ _ (⟨4, 0, 0, 0, 0, 0, 0, 1, 0, 0, 0, SH.nil⟩ : S32) [.int .i64 4, .int .i64 0, .int .i64 0, .int .i64 0, .int .i64 0, .int .i64 0, .int .i64 0, .int .i64 1, .int .i64 0, .int .i64 0, .int .i64 0, .slice none 0 0] from (k32_mkM _ _ _ (⟨4, 0, 0, 0, 0, 0, 0, 1, 0, 0, 0, SH.nil⟩ : S32) )) rfl (Reps.front (show Kd.M k32 _ _ _ (⟨3, 0, 2, 10, 0, 0, 0, 3, 5, 9, 0, SH.nil⟩ : S32) [.int .i64 3, .int .i64 0, .int .i64 2, .int .i64 10, .int .i64 0, .int .i64 0, .int .i64 0, .int .i64 3, .int .i64 5, .int .i64 9, .int .i64 0, .slice none 0 0] from (k32_mkM _ _ _ (⟨3, 0, 2, 10, 0, 0, 0, 3, 5, 9, 0, SH.nil⟩ : S32) )) rfl (Reps.none _ _) rfl) rfl)); intro v322 w20 ho21 hb hg_ hnew_; clear hg_ hnew_; (first | rw [← Ny321.out] at ho21 | (simp only [Int.reduceToNat] at ho21; rw [← Ny321.out] at ho21)); have n0_ := Aside0.mk (Kd.R_lower (Kd.R_newB ho21 (g := gb320) (o := .cells #[.int .i64 3, .int .i64 0, .int .i64 2, .int .i64 10, .int .i64 0, .int .i64 0, .int .i64 0, .int .i64 3, .int .i64 5, .int .i64 9, .int .i64 0, .slice none 0 0] 32 (0, 0)) (by (with_reducible repeat first | apply blk_drewN | apply blk_drew | apply blk_alloc); refine blk_put (cs := #[.int .i64 3, .int .i64 0, .int .i64 2, .int .i64 10, .int .i64 0, .int .i64 0, .int .i64 0, .int .i64 3, .int .i64 5, .int .i64 9, .int .i64 0, .slice none 0 0]) ?_ 11 _ rfl; (with_reducible repeat first | apply blk_drewN | apply blk_drew | apply blk_alloc); refine blk_put (cs := #[.int .i64 3, .int .i64 0, .int .i64 2, .int .i64 10, .int .i64 0, .int .i64 0, .int .i64 0, .int .i64 3, .int .i64 5, .int .i64 9, .int .i64 0, .slice none 0 0]) ?_ 10 _ rfl; (with_reducible repeat first | apply blk_drewN | apply blk_drew | apply blk_alloc); refine blk_put (cs := #[.int .i64 3, .int .i64 0, .int .i64 2, .int .i64 10, .int .i64 0, .int .i64 0, .int .i64 0, .int .i64 3, .int .i64 5, .int .i64 0, .int .i64 0, .slice none 0 0]) ?_ 9 _ rfl; (with_reducible repeat first | apply blk_drewN | apply blk_drew | apply blk_alloc); refine blk_put (cs := #[.int .i64 3, .int .i64 0, .int .i64 2, .int .i64 10, .int .i64 0, .int .i64 0, .int .i64 0, .int .i64 3, .int .i64 0, .int .i64 0, .int .i64 0, .slice none 0 0]) ?_ 8 _ rfl; (with_reducible repeat first | apply blk_drewN | apply blk_drew | apply blk_alloc); refine blk_put (cs := #[.int .i64 3, .int .i64 0, .int .i64 2, .int .i64 10, .int .i64 0, .int .i64 0, .int .i64 0, .int .i64 0, .int .i64 0, .int .i64 0, .int .i64 0, .slice none 0 0]) ?_ 7 _ rfl; (with_reducible repeat first | apply blk_drewN | apply blk_drew | apply blk_alloc); refine blk_put (cs := #[.int .i64 3, .int .i64 0, .int .i64 2, .int .i64 10, .int .i64 0, .int .i64 0, .int .i64 0, .int .i64 0, .int .i64 0, .int .i64 0, .int .i64 0, .slice none 0 0]) ?_ 6 _ rfl; (with_reducible repeat first | apply blk_drewN | apply blk_drew | apply blk_alloc); refine blk_put (cs := #[.int .i64 3, .int .i64 0, .int .i64 2, .int .i64 10, .int .i64 0, .int .i64 0, .int .i64 0, .int .i64 0, .int .i64 0, .int .i64 0, .int .i64 0, .slice none 0 0]) ?_ 5 _ rfl; (with_reducible repeat first | apply blk_drewN | apply blk_drew | apply blk_alloc); refine blk_put (cs := #[.int .i64 3, .int .i64 0, .int .i64 2, .int .i64 10, .int .i64 0, .int .i64 0, .int .i64 0, .int .i64 0, .int .i64 0, .int .i64 0, .int .i64 0, .slice none 0 0]) ?_ 4 _ rfl; (with_reducible repeat first | apply blk_drewN | apply blk_drew | apply blk_alloc); refine blk_put (cs := #[.int .i64 3, .int .i64 0, .int .i64 2, .int .i64 0, .int .i64 0, .int .i64 0, .int .i64 0, .int .i64 0, .int .i64 0, .int .i64 0, .int .i64 0, .slice none 0 0]) ?_ 3 _ rfl; (with_reducible repeat first | apply blk_drewN | apply blk_drew | apply blk_alloc); refine blk_put (cs := #[.int .i64 3, .int .i64 0, .int .i64 0, .int .i64 0, .int .i64 0, .int .i64 0, .int .i64 0, .int .i64 0, .int .i64 0, .int .i64 0, .int .i64 0, .slice none 0 0]) ?_ 2 _ rfl; (with_reducible repeat first | apply blk_drewN | apply blk_drew | apply blk_alloc); refine blk_put (cs := #[.int .i64 3, .int .i64 0, .int .i64 0, .int .i64 0, .int .i64 0, .int .i64 0, .int .i64 0, .int .i64 0, .int .i64 0, .int .i64 0, .int .i64 0, .slice none 0 0]) ?_ 1 _ rfl; (with_reducible repeat first | apply blk_drewN | apply blk_drew | apply blk_alloc); refine blk_put (cs := #[.int .i64 0, .int .i64 0, .int .i64 0, .int .i64 0, .int .i64 0, .int .i64 0, .int .i64 0, .int .i64 0, .int .i64 0, .int .i64 0, .int .i64 0, .slice none 0 0]) ?_ 0 _ rfl; (with_reducible repeat first | apply blk_drewN | apply blk_drew | apply blk_alloc); exact BK320.out)) (below_size (mBs HB.out))); have n1_ := Aside0.mk (blk_below (g := gb320) (o := .cells #[.int .i64 3, .int .i64 0, .int .i64 2, .int .i64 10, .int .i64 0, .int .i64 0, .int .i64 0, .int .i64 3, .int .i64 5, .int .i64 9, .int .i64 0, .slice none 0 0] 32 (0, 0)) (by (with_reducible repeat first | apply blk_drewN | apply blk_drew | apply blk_alloc); refine blk_put (cs := #[.int .i64 3, .int .i64 0, .int .i64 2, .int .i64 10, .int .i64 0, .int .i64 0, .int .i64 0, .int .i64 3, .int .i64 5, .int .i64 9, .int .i64 0, .slice none 0 0]) ?_ 11 _ rfl; (with_reducible repeat first | apply blk_drewN | apply blk_drew | apply blk_alloc); refine blk_put (cs := #[.int .i64 3, .int .i64 0, .int .i64 2, .int .i64 10, .int .i64 0, .int .i64 0, .int .i64 0, .int .i64 3, .int .i64 5, .int .i64 9, .int .i64 0, .slice none 0 0]) ?_ 10 _ rfl; (with_reducible repeat first | apply blk_drewN | apply blk_drew | apply blk_alloc); refine blk_put (cs := #[.int .i64 3, .int .i64 0, .int .i64 2, .int .i64 10, .int .i64 0, .int .i64 0, .int .i64 0, .int .i64 3, .int .i64 5, .int .i64 0, .int .i64 0, .slice none 0 0]) ?_ 9 _ rfl; (with_reducible repeat first | apply blk_drewN | apply blk_drew | apply blk_alloc); refine blk_put (cs := #[.int .i64 3, .int .i64 0, .int .i64 2, .int .i64 10, .int .i64 0, .int .i64 0, .int .i64 0, .int .i64 3, .int .i64 0, .int .i64 0, .int .i64 0, .slice none 0 0]) ?_ 8 _ rfl; (with_reducible repeat first | apply blk_drewN | apply blk_drew | apply blk_alloc); refine blk_put (cs := #[.int .i64 3, .int .i64 0, .int .i64 2, .int .i64 10, .int .i64 0, .int .i64 0, .int .i64 0, .int .i64 0, .int .i64 0, .int .i64 0, .int .i64 0, .slice none 0 0]) ?_ 7 _ rfl; (with_reducible repeat first | apply blk_drewN | apply blk_drew | apply blk_alloc); refine blk_put (cs := #[.int .i64 3, .int .i64 0, .int .i64 2, .int .i64 10, .int .i64 0, .int .i64 0, .int .i64 0, .int .i64 0, .int .i64 0, .int .i64 0, .int .i64 0, .slice none 0 0]) ?_ 6 _ rfl; (with_reducible repeat first | apply blk_drewN | apply blk_drew | apply blk_alloc); refine blk_put (cs := #[.int .i64 3, .int .i64 0, .int .i64 2, .int .i64 10, .int .i64 0, .int .i64 0, .int .i64 0, .int .i64 0, .int .i64 0, .int .i64 0, .int .i64 0, .slice none 0 0]) ?_ 5 _ rfl; (with_reducible repeat first | apply blk_drewN | apply blk_drew | apply blk_alloc); refine blk_put (cs := #[.int .i64 3, .int .i64 0, .int .i64 2, .int .i64 10, .int .i64 0, .int .i64 0, .int .i64 0, .int .i64 0, .int .i64 0, .int .i64 0, .int .i64 0, .slice none 0 0]) ?_ 4 _ rfl; (with_reducible repeat first | apply blk_drewN | apply blk_drew | apply blk_alloc); refine blk_put (cs := #[.int .i64 3, .int .i64 0, .int .i64 2, .int .i64 0, .int .i64 0, .int .i64 0, .int .i64 0, .int .i64 0, .int .i64 0, .int .i64 0, .int .i64 0, .slice none 0 0]) ?_ 3 _ rfl; (with_reducible repeat first | apply blk_drewN | apply blk_drew | apply blk_alloc); refine blk_put (cs := #[.int .i64 3, .int .i64 0, .int .i64 0, .int .i64 0, .int .i64 0, .int .i64 0, .int .i64 0, .int .i64 0, .int .i64 0, .int .i64 0, .int .i64 0, .slice none 0 0]) ?_ 2 _ rfl; (with_reducible repeat first | apply blk_drewN | apply blk_drew | apply blk_alloc); refine blk_put (cs := #[.int .i64 3, .int .i64 0, .int .i64 0, .int .i64 0, .int .i64 0, .int .i64 0, .int .i64 0, .int .i64 0, .int .i64 0, .int .i64 0, .int .i64 0, .slice none 0 0]) ?_ 1 _ rfl; (with_reducible repeat first | apply blk_drewN | apply blk_drew | apply blk_alloc); refine blk_put (cs := #[.int .i64 0, .int .i64 0, .int .i64 0, .int .i64 0, .int .i64 0, .int .i64 0, .int .i64 0, .int .i64 0, .int .i64 0, .int .i64 0, .int .i64 0, .slice none 0 0]) ?_ 0 _ rfl; (with_reducible repeat first | apply blk_drewN | apply blk_drew | apply blk_alloc); exact BK320.out) hb); have n2_ := Aside0.mk (below_step (mBs HB.out) hb); clear BK320; clear HB; have HO323 := n0_; have BK320 := n1_; have HB := n2_; clear n0_ n1_ n2_; clear hb ho21; have hcz22_0 : w20.cell? ⟨gb320, 0, none⟩ = some (.int .i64 3) := (blk_cell BK320.out 0).trans rfl; have hcz22_1 : w20.cell? ⟨gb320, 1, none⟩ = some (.int .i64 0) := (blk_cell BK320.out 1).trans rfl; have hcz22_2 : w20.cell? ⟨gb320, 2, none⟩ = some (.int .i64 2) := (blk_cell BK320.out 2).trans rfl; have hcz22_3 : w20.cell? ⟨gb320, 3, none⟩ = some (.int .i64 10) := (blk_cell BK320.out 3).trans rfl; have hcz22_4 : w20.cell? ⟨gb320, 4, none⟩ = some (.int .i64 0) := (blk_cell BK320.out 4).trans rfl; have hcz22_5 : w20.cell? ⟨gb320, 5, none⟩ = some (.int .i64 0) := (blk_cell BK320.out 5).trans rfl; have hcz22_6 : w20.cell? ⟨gb320, 6, none⟩ = some (.int .i64 0) := (blk_cell BK320.out 6).trans rfl; have hcz22_7 : w20.cell? ⟨gb320, 7, none⟩ = some (.int .i64 3) := (blk_cell BK320.out 7).trans rfl; have hcz22_8 : w20.cell? ⟨gb320, 8, none⟩ = some (.int .i64 5) := (blk_cell BK320.out 8).trans rfl; have hcz22_9 : w20.cell? ⟨gb320, 9, none⟩ = some (.int .i64 9) := (blk_cell BK320.out 9).trans rfl; have hcz22_10 : w20.cell? ⟨gb320, 10, none⟩ = some (.int .i64 0) := (blk_cell BK320.out 10).trans rfl; have hcz22_11 : w20.cell? ⟨gb320, 11, none⟩ = some (.slice none 0 0) := (blk_cell BK320.out 11).trans rfl; have hfz22_0 := blk_frozen BK320.out 0; have hfz22_1 := blk_frozen BK320.out 1; have hfz22_2 := blk_frozen BK320.out 2; have hfz22_3 := blk_frozen BK320.out 3; have hfz22_4 := blk_frozen BK320.out 4; have hfz22_5 := blk_frozen BK320.out 5; have hfz22_6 := blk_frozen BK320.out 6; have hfz22_7 := blk_frozen BK320.out 7; have hfz22_8 := blk_frozen BK320.out 8; have hfz22_9 := blk_frozen BK320.out 9; have hfz22_10 := blk_frozen BK320.out 10; have hfz22_11 := blk_frozen BK320.out 11) | ((with_reducible refine gate_callee (f := 29) rfl ?_); refine goesL_ (some 8) rfl rfl Try.func29 (by kernel_rfl) rfl #[.agg #[.int .i64 3, .int .i64 0, .int .i64 2, .int .i64 10, .int .i64 0, .int .i64 0, .int .i64 0, .int .i64 3, .int .i64 5, .int .i64 9, .int .i64 0, .slice none 0 0]] rfl mt ?_; (with_reducible refine (job_Good.calls_nil true _ A1.out).mono ?_); rintro e w23 ⟨rfl, hb⟩; refine ⟨_, rfl, ?_⟩; have n0_ := Aside0.mk (Kd.R_below (mR HO323.out) hb); have n1_ := Aside0.mk (blk_below (g := gb320) (o := .cells #[.int .i64 3, .int .i64 0, .int .i64 2, .int .i64 10, .int .i64 0, .int .i64 0, .int .i64 0, .int .i64 3, .int .i64 5, .int .i64 9, .int .i64 0, .slice none 0 0] 32 (0, 0)) (mBK BK320.out) hb); have n2_ := Aside0.mk (below_step (mBs HB.out) hb); clear HO323; clear BK320; clear HB; have HO323 := n0_; have BK320 := n1_; have HB := n2_; clear n0_ n1_ n2_; (try clear hb); (try clear hb2); (try clear hk); (try clear hi); obtain ⟨Ao24, co24, eo24⟩ := Kd.R_slice HO323.out; subst eo24) | (go_at_call 17; (with_reducible refine (job_Find.calls k _ _ y321 3 t325 _ ?side1 ?side2 A3.out).mono ?_); (case side1 => exact mC (Kd.R_reads' HO323.out).2.2); (case side2 => exact (Kd.R_reads' HO323.out).2.1); rintro e w25 ⟨rfl, hb⟩; have n0_ := Aside0.mk (Kd.R_below (mR HO323.out) hb); have n1_ := Aside0.mk (blk_below (g := gb320) (o := .cells #[.int .i64 3, .int .i64 0, .int .i64 2, .int .i64 10, .int .i64 0, .int .i64 0, .int .i64 0, .int .i64 3, .int .i64 5, .int .i64 9, .int .i64 0, .slice none 0 0] 32 (0, 0)) (mBK BK320.out) hb); have n2_ := Aside0.mk (below_step (mBs HB.out) hb); clear HO323; clear BK320; clear HB; have HO323 := n0_; have BK320 := n1_; have HB := n2_; clear n0_ n1_ n2_; (try clear hb); (try clear hb2); (try clear hk); (try clear hi)) | (go_at_call 17; (with_reducible refine (job_Find.calls k _ _ y321 5 t326 _ ?side1 ?side2 A5.out).mono ?_); (case side1 => exact mC (Kd.R_reads' HO323.out).2.2); (case side2 => exact (Kd.R_reads' HO323.out).2.1); rintro e w26 ⟨rfl, hb⟩; have n0_ := Aside0.mk (Kd.R_below (mR HO323.out) hb); have n1_ := Aside0.mk (blk_below (g := gb320) (o := .cells #[.int .i64 3, .int .i64 0, .int .i64 2, .int .i64 10, .int .i64 0, .int .i64 0, .int .i64 0, .int .i64 3, .int .i64 5, .int .i64 9, .int .i64 0, .slice none 0 0] 32 (0, 0)) (mBK BK320.out) hb); have n2_ := Aside0.mk (below_step (mBs HB.out) hb); clear HO323; clear BK320; clear HB; have HO323 := n0_; have BK320 := n1_; have HB := n2_; clear n0_ n1_ n2_; (try clear hb); (try clear hb2); (try clear hk); (try clear hi)) | (go_at_call 19; (with_reducible refine (job_Mask.calls k _ _ y321 t327 _ ?side1 ?side2 A7.out).mono ?_); (case side1 => exact mC (Kd.R_reads' HO323.out).2.2); (case side2 => exact (Kd.R_reads' HO323.out).2.1); rintro e w27 ⟨rfl, hb⟩; have n0_ := Aside0.mk (Kd.R_below (mR HO323.out) hb); have n1_ := Aside0.mk (blk_below (g := gb320) (o := .cells #[.int .i64 3, .int .i64 0, .int .i64 2, .int .i64 10, .int .i64 0, .int .i64 0, .int .i64 0, .int .i64 3, .int .i64 5, .int .i64 9, .int .i64 0, .slice none 0 0] 32 (0, 0)) (mBK BK320.out) hb); have n2_ := Aside0.mk (below_step (mBs HB.out) hb); clear HO323; clear BK320; clear HB; have HO323 := n0_; have BK320 := n1_; have HB := n2_; clear n0_ n1_ n2_; (try clear hb); (try clear hb2); (try clear hk); (try clear hi)) | (go_at_call 27; (with_reducible refine (job_Due.calls k _ _ y321 15 t328 _ ?side1 ?side2 A9.out).mono ?_); (case side1 => exact mC (Kd.R_reads' HO323.out).2.2); (case side2 => exact (Kd.R_reads' HO323.out).2.1); rintro e w28 ⟨v329, rfl, ho0, hb⟩; have n0_ := Aside0.mk (Kd.R_below (mR HO323.out) hb); have n1_ := Aside0.mk (Kd.V_lower (Kd.V_mono (ok' := fun k_ => some k_ ≠ (.slice Ao24 y321.length co24 : Value).ownBlock ∧ k_ ≠ gb320) ho0 (fun k_ hk_ => ⟨(Kd.fresh' (Kd.R_lt (mR HO323.out)) k_ hk_), (Kd.freshB (g := gb320) (o := .cells #[.int .i64 3, .int .i64 0, .int .i64 2, .int .i64 10, .int .i64 0, .int .i64 0, .int .i64 0, .int .i64 3, .int .i64 5, .int .i64 9, .int .i64 0, .slice none 0 0] 32 (0, 0)) (mBK BK320.out) k_ hk_)⟩)) (below_size (mBs HB.out))); have n2_ := Aside0.mk (blk_below (g := gb320) (o := .cells #[.int .i64 3, .int .i64 0, .int .i64 2, .int .i64 10, .int .i64 0, .int .i64 0, .int .i64 0, .int .i64 3, .int .i64 5, .int .i64 9, .int .i64 0, .slice none 0 0] 32 (0, 0)) (mBK BK320.out) hb); have n3_ := Aside0.mk (below_step (mBs HB.out) hb); clear HO323; clear BK320; clear HB; have HO323 := n0_; have HO330 := n1_; have BK320 := n2_; have HB := n3_; clear n0_ n1_ n2_ n3_; (try clear hb); (try clear hb2); (try clear hk); (try clear hi); (try clear ho0)) | ((with_reducible refine gate_dst (N := 27) rfl ?_); (try (refine gate_guard (by rfl) ?_; dsimp only)); refine Kd.R_lit (Kd.int .i64) _ 3 ?hg (N := 27) ?hd (xs := ([3] : List Int)) (inner := [.int .i64 3]) (ok := fun _ => True) (okp := fun _ => True) ?hr ?hp (fun _ hk => hk) trivial (Below.refl _ _) (Nat.le_refl _) (by simp) ?_; (case hd => rfl); (case hg => rfl); (case hr => first | (go_simp; done) | (go_simp; rfl)); (case hp => exact (Reps.one (show Kd.M (Kd.int .i64) _ _ _ 3 [.int .i64 3] from rfl) (Reps.none _ _))); intro v332 w29 ho30 hb hg_ hnew_; clear hg_ hnew_; (first | rw [← Ny331.out] at ho30 | (simp only [Int.reduceToNat] at ho30; rw [← Ny331.out] at ho30)); have n0_ := Aside0.mk (Kd.R_below (mR HO323.out) hb); have n1_ := Aside0.mk (Kd.V_elder' (mV HO330.out) (Kd.R_base ho30) hb); have n2_ := Aside0.mk (Kd.R_lower ho30 (below_size (mBs HB.out))); have n3_ := Aside0.mk (blk_below (g := gb320) (o := .cells #[.int .i64 3, .int .i64 0, .int .i64 2, .int .i64 10, .int .i64 0, .int .i64 0, .int .i64 0, .int .i64 3, .int .i64 5, .int .i64 9, .int .i64 0, .slice none 0 0] 32 (0, 0)) (mBK BK320.out) hb); have n4_ := Aside0.mk (below_step (mBs HB.out) hb); clear HO323; clear HO330; clear BK320; clear HB; have HO323 := n0_; have HO330 := n1_; have HO333 := n2_; have BK320 := n3_; have HB := n4_; clear n0_ n1_ n2_ n3_ n4_; clear hb ho30; obtain ⟨Ao31, co31, eo31⟩ := Kd.V_slice HO330.out; subst eo31; obtain ⟨Ao32, co32, eo32⟩ := Kd.R_slice HO333.out; subst eo32) | (go_at_call 13; (with_reducible refine (prebendref01_Ints.calls k _ _ t328 _ _ y331 true _ ?side1 ?side2 ?side3 ?side4 A10.out).mono ?_); (case side1 => exact mC (Kd.V_reads' HO330.out).2.2); (case side2 => exact (Kd.V_reads' HO330.out).2.1); (case side3 => exact mC (Kd.R_reads' HO333.out).2.2); (case side4 => exact (Kd.R_reads' HO333.out).2.1); rintro e w' ⟨rfl, ⟨nd, rfl⟩⟩) | (go_at_call 27; (with_reducible refine (job_Due.calls k _ _ y321 14 t335 _ ?side1 ?side2 A12.out).mono ?_); (case side1 => exact mC (Kd.R_reads' HO323.out).2.2); (case side2 => exact (Kd.R_reads' HO323.out).2.1); rintro e w33 ⟨v336, rfl, ho0, hb⟩; have n0_ := Aside0.mk (Kd.R_below (mR HO323.out) hb); have n1_ := Aside0.mk (Kd.V_below (mV HO330.out) hb); have n2_ := Aside0.mk (Kd.R_below (mR HO333.out) hb); have n3_ := Aside0.mk (Kd.V_lower (Kd.V_mono (ok' := fun k_ => some k_ ≠ (.slice Ao24 y321.length co24 : Value).ownBlock ∧ some k_ ≠ (.slice Ao32 y331.length co32 : Value).ownBlock ∧ k_ ≠ gb320) ho0 (fun k_ hk_ => ⟨(Kd.fresh' (Kd.R_lt (mR HO323.out)) k_ hk_), (Kd.fresh' (Kd.R_lt (mR HO333.out)) k_ hk_), (Kd.freshB (g := gb320) (o := .cells #[.int .i64 3, .int .i64 0, .int .i64 2, .int .i64 10, .int .i64 0, .int .i64 0, .int .i64 0, .int .i64 3, .int .i64 5, .int .i64 9, .int .i64 0, .slice none 0 0] 32 (0, 0)) (mBK BK320.out) k_ hk_)⟩)) (below_size (mBs HB.out))); have n4_ := Aside0.mk (blk_below (g := gb320) (o := .cells #[.int .i64 3, .int .i64 0, .int .i64 2, .int .i64 10, .int .i64 0, .int .i64 0, .int .i64 0, .int .i64 3, .int .i64 5, .int .i64 9, .int .i64 0, .slice none 0 0] 32 (0, 0)) (mBK BK320.out) hb); have n5_ := Aside0.mk (below_step (mBs HB.out) hb); clear HO323; clear HO330; clear HO333; clear BK320; clear HB; have HO323 := n0_; have HO330 := n1_; have HO333 := n2_; have HO337 := n3_; have BK320 := n4_; have HB := n5_; clear n0_ n1_ n2_ n3_ n4_ n5_; (try clear hb); (try clear hb2); (try clear hk); (try clear hi); (try clear ho0); obtain ⟨Ao34, co34, eo34⟩ := Kd.V_slice HO337.out; subst eo34) | (go_at_call 25; (with_reducible refine (job_Boxes.calls k _ _ y321 t338 _ ?side1 ?side2 A14.out).mono ?_); (case side1 => exact mC (Kd.R_reads' HO323.out).2.2); (case side2 => exact (Kd.R_reads' HO323.out).2.1); rintro e w35 ⟨v339, rfl, ho0, hb⟩; have n0_ := Aside0.mk (Kd.R_below (mR HO323.out) hb); have n1_ := Aside0.mk (Kd.V_below (mV HO330.out) hb); have n2_ := Aside0.mk (Kd.R_below (mR HO333.out) hb); have n3_ := Aside0.mk (Kd.V_below (mV HO337.out) hb); have n4_ := Aside0.mk (Kd.V_lower (Kd.V_mono (ok' := fun k_ => some k_ ≠ (.slice Ao24 y321.length co24 : Value).ownBlock ∧ some k_ ≠ (.slice Ao32 y331.length co32 : Value).ownBlock ∧ k_ ≠ gb320) ho0 (fun k_ hk_ => ⟨(Kd.fresh' (Kd.R_lt (mR HO323.out)) k_ hk_), (Kd.fresh' (Kd.R_lt (mR HO333.out)) k_ hk_), (Kd.freshB (g := gb320) (o := .cells #[.int .i64 3, .int .i64 0, .int .i64 2, .int .i64 10, .int .i64 0, .int .i64 0, .int .i64 0, .int .i64 3, .int .i64 5, .int .i64 9, .int .i64 0, .slice none 0 0] 32 (0, 0)) (mBK BK320.out) k_ hk_)⟩)) (below_size (mBs HB.out))); have n5_ := Aside0.mk (blk_below (g := gb320) (o := .cells #[.int .i64 3, .int .i64 0, .int .i64 2, .int .i64 10, .int .i64 0, .int .i64 0, .int .i64 0, .int .i64 3, .int .i64 5, .int .i64 9, .int .i64 0, .slice none 0 0] 32 (0, 0)) (mBK BK320.out) hb); have n6_ := Aside0.mk (below_step (mBs HB.out) hb); clear HO323; clear HO330; clear HO333; clear HO337; clear BK320; clear HB; have HO323 := n0_; have HO330 := n1_; have HO333 := n2_; have HO337 := n3_; have HO340 := n4_; have BK320 := n5_; have HB := n6_; clear n0_ n1_ n2_ n3_ n4_ n5_ n6_; (try clear hb); (try clear hb2); (try clear hk); (try clear hi); (try clear ho0); obtain ⟨Ao36, co36, eo36⟩ := Kd.V_slice HO340.out; subst eo36) | (go_at_call 22; (with_reducible refine (job_Busy.calls k _ _ y321 t341 _ ?side1 ?side2 A16.out).mono ?_); (case side1 => exact mC (Kd.R_reads' HO323.out).2.2); (case side2 => exact (Kd.R_reads' HO323.out).2.1); rintro e w37 ⟨v342, rfl, ho0, hb⟩; have n0_ := Aside0.mk (Kd.R_below (mR HO323.out) hb); have n1_ := Aside0.mk (Kd.V_below (mV HO330.out) hb); have n2_ := Aside0.mk (Kd.R_below (mR HO333.out) hb); have n3_ := Aside0.mk (Kd.V_below (mV HO337.out) hb); have n4_ := Aside0.mk (Kd.V_below (mV HO340.out) hb); have n5_ := Aside0.mk (Kd.V_lower (Kd.V_mono (ok' := fun k_ => some k_ ≠ (.slice Ao24 y321.length co24 : Value).ownBlock ∧ some k_ ≠ (.slice Ao32 y331.length co32 : Value).ownBlock ∧ k_ ≠ gb320) ho0 (fun k_ hk_ => ⟨(Kd.fresh' (Kd.R_lt (mR HO323.out)) k_ hk_), (Kd.fresh' (Kd.R_lt (mR HO333.out)) k_ hk_), (Kd.freshB (g := gb320) (o := .cells #[.int .i64 3, .int .i64 0, .int .i64 2, .int .i64 10, .int .i64 0, .int .i64 0, .int .i64 0, .int .i64 3, .int .i64 5, .int .i64 9, .int .i64 0, .slice none 0 0] 32 (0, 0)) (mBK BK320.out) k_ hk_)⟩)) (below_size (mBs HB.out))); have n6_ := Aside0.mk (blk_below (g := gb320) (o := .cells #[.int .i64 3, .int .i64 0, .int .i64 2, .int .i64 10, .int .i64 0, .int .i64 0, .int .i64 0, .int .i64 3, .int .i64 5, .int .i64 9, .int .i64 0, .slice none 0 0] 32 (0, 0)) (mBK BK320.out) hb); have n7_ := Aside0.mk (below_step (mBs HB.out) hb); clear HO323; clear HO330; clear HO333; clear HO337; clear HO340; clear BK320; clear HB; have HO323 := n0_; have HO330 := n1_; have HO333 := n2_; have HO337 := n3_; have HO340 := n4_; have HO343 := n5_; have BK320 := n6_; have HB := n7_; clear n0_ n1_ n2_ n3_ n4_ n5_ n6_ n7_; (try clear hb); (try clear hb2); (try clear hk); (try clear hi); (try clear ho0)) | ((with_reducible refine gate_dst (N := 46) rfl ?_); (try (refine gate_guard (by rfl) ?_; dsimp only)); refine Kd.R_lit k59 _ 59 ?hg (N := 46) ?hd (xs := ([(⟨15, 2⟩ : S59)] : List (S59))) (inner := [.int .i64 15, .int .i64 2]) (ok := fun _ => True) (okp := fun _ => True) ?hr ?hp (fun _ hk => hk) trivial (Below.refl _ _) (Nat.le_refl _) (by simp) ?_; (case hd => rfl); (case hg => rfl); (case hr => first | (go_simp; done) | (go_simp; rfl)); (case hp => exact (Reps.c2 (show Kd.M k59 _ _ _ (⟨15, 2⟩ : S59) [.int .i64 15, .int .i64 2] from (k59_mkM _ _ _ (⟨15, 2⟩ : S59) )) (Reps.none _ _))); intro v345 w38 ho39 hb hg_ hnew_; clear hg_ hnew_; (first | rw [← Ny344.out] at ho39 | (simp only [Int.reduceToNat] at ho39; rw [← Ny344.out] at ho39)); have n0_ := Aside0.mk (Kd.R_below (mR HO323.out) hb); have n1_ := Aside0.mk (Kd.V_elder' (mV HO330.out) (Kd.R_base ho39) hb); have n2_ := Aside0.mk (Kd.R_below (mR HO333.out) hb); have n3_ := Aside0.mk (Kd.V_elder' (mV HO337.out) (Kd.R_base ho39) hb); have n4_ := Aside0.mk (Kd.V_elder' (mV HO340.out) (Kd.R_base ho39) hb); have n5_ := Aside0.mk (Kd.V_elder' (mV HO343.out) (Kd.R_base ho39) hb); have n6_ := Aside0.mk (Kd.R_lower ho39 (below_size (mBs HB.out))); have n7_ := Aside0.mk (blk_below (g := gb320) (o := .cells #[.int .i64 3, .int .i64 0, .int .i64 2, .int .i64 10, .int .i64 0, .int .i64 0, .int .i64 0, .int .i64 3, .int .i64 5, .int .i64 9, .int .i64 0, .slice none 0 0] 32 (0, 0)) (mBK BK320.out) hb); have n8_ := Aside0.mk (below_step (mBs HB.out) hb); clear HO323; clear HO330; clear HO333; clear HO337; clear HO340; clear HO343; clear BK320; clear HB; have HO323 := n0_; have HO330 := n1_; have HO333 := n2_; have HO337 := n3_; have HO340 := n4_; have HO343 := n5_; have HO346 := n6_; have BK320 := n7_; have HB := n8_; clear n0_ n1_ n2_ n3_ n4_ n5_ n6_ n7_ n8_; clear hb ho39; obtain ⟨Ao40, co40, eo40⟩ := Kd.V_slice HO343.out; subst eo40; obtain ⟨Ao41, co41, eo41⟩ := Kd.R_slice HO346.out; subst eo41) | (go_at_call 21; (with_reducible refine (prebendref19_SameBusy.calls k _ _ t341 _ _ y344 true _ ?side1 ?side2 ?side3 ?side4 A17.out).mono ?_); (case side1 => exact mC (Kd.V_reads' HO343.out).2.2); (case side2 => exact (Kd.V_reads' HO343.out).2.1); (case side3 => exact mC (Kd.R_reads' HO346.out).2.2); (case side4 => exact (Kd.R_reads' HO346.out).2.1); rintro e w' ⟨rfl, ⟨nd, rfl⟩⟩))
        go_ret
        exact ⟨by first | rfl | (simp [errW_none, errW_some] <;> rfl) | (simp [*, errW_none, errW_some] <;> rfl), by repeat (first | (with_reducible first | exact HB.out | apply below_alloc | apply pw_below_drewN | apply below_drew1 | refine below_set ?_ GE320.out) | exact HB.out)⟩
       ·rw [if_neg c15] at H
        exact absurd (Option.some.inj H) (by decide)
      ·rw [if_neg c13] at H
       exact absurd (Option.some.inj H) (by decide)
     ·replace c11 := Bool.eq_false_iff.mpr c11
      subst c11
      have H1 : (some false) = some true := by rw [if_neg (show ¬ (false = true) by decide)] at H; exact H
      exact absurd (Option.some.inj H1) (by decide)
    ·rw [if_neg c8] at H
     exact absurd (Option.some.inj H) (by decide)
   ·rw [if_neg c6] at H
    exact absurd (Option.some.inj H) (by decide)
  ·rw [if_neg c4] at H
   exact absurd (Option.some.inj H) (by decide)
 ·replace c2 := Bool.eq_false_iff.mpr c2
  subst c2
  have H1 : (some false) = some true := by rw [if_neg (show ¬ (false = true) by decide)] at H; exact H
  exact absurd (Option.some.inj H1) (by decide)end Go.Proofs.Ytkhfgflcanmefaa.PAll
end
section
namespace Go.Proofs.Ytkhfgflcanmefaa.PAll
open Go.RowKit Go.Proofs.YtkhfgflcanmefaaW.PrintWords Go.Proofs.YtkhfgflcanmefaaW.PrintLast Go.Proofs.YtkhfgflcanmefaaW.PrintMore
attribute [local go_sem] max2_int min2_int max_two min_two max_three min_three max_four min_four   -- for this text's walks alone
set_option linter.unusedVariables false
set_option linter.unusedSimpArgs false

theorem plane_corner.calls (t n l m : Int) (w : World) :
    Calls Try.prog 62 #[.agg #[.int .i64 t, .int .i64 n, .int .i64 l, .int .i64 m]] w fun e w' => e = .returned (.complex .f64 (FloatKind.nearest .f64 t) (FloatKind.nearest .f64 n)) ∧ Below w.heap.size w w' := by
  go_enter Try.func62, Try.ntmps62
  go_wp2
  go_ret
  exact ⟨rfl, below_alloc (Below.refl _ _) _⟩
end Go.Proofs.Ytkhfgflcanmefaa.PAll
end
section
namespace Go.Proofs.Ytkhfgflcanmefaa.PAll
open Go.RowKit Go.Proofs.YtkhfgflcanmefaaW.PrintWords Go.Proofs.YtkhfgflcanmefaaW.PrintLast Go.Proofs.YtkhfgflcanmefaaW.PrintMore
attribute [local go_sem] max2_int min2_int max_two min_two max_three min_three max_four min_four   -- for this text's walks alone
set_option linter.unusedVariables false
set_option linter.unusedSimpArgs false

namespace Flt
open Ieee
theorem log2_eq {n k : Nat} (h0 : 2 ^ k ≤ n) (h1 : n < 2 ^ (k + 1)) : n.log2 = k := by
  have hn : n ≠ 0 := by have := Nat.two_pow_pos k; omega
  have a := (Nat.le_log2 hn).2 h0
  have b := (Nat.log2_lt hn).2 h1
  omega
theorem log2_shift (n k : Nat) (hn : n ≠ 0) : (n * 2 ^ k).log2 = n.log2 + k := by
  apply log2_eq
  · rw [Nat.pow_add]; exact Nat.mul_le_mul_right _ (Nat.log2_self_le hn)
  · have : n.log2 + k + 1 = (n.log2 + 1) + k := by omega
    rw [this, Nat.pow_add]; exact Nat.mul_lt_mul_of_pos_right Nat.lt_log2_self (Nat.two_pow_pos k)
def rung (N : Nat) : Nat := (N.log2 + 1022) * 4503599627370496 + N * 2 ^ (52 - N.log2)
theorem log2_le52 {N : Nat} (hN : N ≠ 0) (h : N < 9007199254740992) : N.log2 ≤ 52 := by
  have := (Nat.log2_lt (k := 53) hN).2 h; omega
theorem sig_bd {N : Nat} (hN : N ≠ 0) (h : N < 9007199254740992) : 4503599627370496 ≤ N * 2 ^ (52 - N.log2) ∧ N * 2 ^ (52 - N.log2) < 9007199254740992 := by
  have hl := log2_le52 hN h
  have e1 : (4503599627370496 : Nat) = 2 ^ N.log2 * 2 ^ (52 - N.log2) := by rw [← Nat.pow_add, show N.log2 + (52 - N.log2) = 52 by omega]
  have e2 : (9007199254740992 : Nat) = 2 ^ (N.log2 + 1) * 2 ^ (52 - N.log2) := by rw [← Nat.pow_add, show N.log2 + 1 + (52 - N.log2) = 53 by omega]
  rw [e2]
  constructor
  · rw [e1]; exact Nat.mul_le_mul_right _ (Nat.log2_self_le hN)
  · exact Nat.mul_lt_mul_of_pos_right Nat.lt_log2_self (Nat.two_pow_pos _)
theorem rung_arith (L B : Nat) (hl : L ≤ 52) (s1 : 4503599627370496 ≤ B) (s2 : B < 9007199254740992) :
    min (((L : Int) - 52 - -1074).toNat * 4503599627370496 + B) 9218868437227405312 = (L + 1022) * 4503599627370496 + B ∧ (L + 1022) * 4503599627370496 + B < 9223372036854775808 ∧
    ((L + 1022) * 4503599627370496 + B) / 4503599627370496 = L + 1023 ∧ ((L + 1022) * 4503599627370496 + B) % 4503599627370496 = B - 4503599627370496 ∧ ¬ (L + 1022) * 4503599627370496 + B < 4503599627370496 ∧ (L + 1022) * 4503599627370496 + B < 9218868437227405312 := by
  have e3 : ((L : Int) - 52 - -1074).toNat = L + 1022 := by omega
  rw [e3]
  refine ⟨?_, ?_, ?_, ?_, ?_, ?_⟩ <;> omega
theorem cut_exact (neg : Bool) (q d : Nat) (hq : q ≠ 0) : Toward.even.cut neg (q * 2 ^ d) d = q := by
  unfold Toward.cut
  have h1 : min d ((q * 2 ^ d).log2 + 2) = d := by rw [log2_shift q d hq]; omega
  have hp := Nat.two_pow_pos d
  simp only [h1, Nat.one_shiftLeft, Nat.mul_mod_left, Nat.mul_zero, Nat.mul_div_cancel q hp]
  have : (2 ^ d == 0) = false := by simp
  simp [this]
theorem nearest_exact (neg : Bool) (N k : Nat) (hN : N ≠ 0) (h : N < 9007199254740992) : double.nearest neg (N * 2 ^ k) (-(k : Int)) = double.word neg (rung N) := by
  have hl := log2_le52 hN h
  obtain ⟨s1, s2⟩ := sig_bd hN h
  unfold Format.nearest
  have hm : N * 2 ^ k ≠ 0 := Nat.mul_ne_zero hN (Nat.ne_of_gt (Nat.two_pow_pos k))
  have lp : double.leastPlace = -1074 := by decide +kernel
  have fb : double.fractionBits = 52 := rfl
  have bn : double.binade = 4503599627370496 := by decide +kernel
  have ir : double.infRung = 9218868437227405312 := by decide +kernel
  rw [if_neg hm]
  simp only [log2_shift N k hN, lp, fb, bn, ir]
  have hlast : max (-(k : Int) + ((N.log2 + k : Nat) : Int) - (52 : Nat)) (-1074) = (N.log2 : Int) - 52 := by omega
  rw [hlast]
  have hkept : Toward.even.cut neg ((N * 2 ^ k) <<< (-(k : Int) - ((N.log2 : Int) - 52)).toNat) ((N.log2 : Int) - 52 - -(k : Int)).toNat = N * 2 ^ (52 - N.log2) := by
    rcases Nat.le_total (52 - N.log2) k with hk | hk
    · obtain ⟨d, rfl⟩ : ∃ d, k = (52 - N.log2) + d := ⟨k - (52 - N.log2), by omega⟩
      have e1 : (-((52 - N.log2 + d : Nat) : Int) - ((N.log2 : Int) - 52)).toNat = 0 := by omega
      have e2 : ((N.log2 : Int) - 52 - -((52 - N.log2 + d : Nat) : Int)).toNat = d := by omega
      rw [e1, e2, Nat.shiftLeft_zero, Nat.pow_add, ← Nat.mul_assoc]
      exact cut_exact neg _ d (by omega)
    · have e1 : (-(k : Int) - ((N.log2 : Int) - 52)).toNat = 52 - N.log2 - k := by omega
      have e2 : ((N.log2 : Int) - 52 - -(k : Int)).toNat = 0 := by omega
      rw [e1, e2, Nat.shiftLeft_eq, Nat.mul_assoc, ← Nat.pow_add, show k + (52 - N.log2 - k) = 52 - N.log2 by omega]
      have := cut_exact neg (N * 2 ^ (52 - N.log2)) 0 (by omega)
      simpa using this
  rw [hkept]
  have key : min (((N.log2 : Int) - 52 - -1074).toNat * 4503599627370496 + N * 2 ^ (52 - N.log2)) 9218868437227405312 = rung N := (rung_arith _ _ hl s1 s2).1
  rw [key]
theorem rung_lt {N : Nat} (hN : N ≠ 0) (h : N < 9007199254740992) : rung N < 9223372036854775808 := by
  obtain ⟨s1, s2⟩ := sig_bd hN h
  exact (rung_arith _ _ (log2_le52 hN h) s1 s2).2.1
theorem read_word (neg : Bool) (r : Nat) (hr : r < 9223372036854775808) : (double.word neg r / double.signWeight % 2 == 1) = neg ∧ double.word neg r % double.signWeight = r := by
  have sw : double.signWeight = 9223372036854775808 := by decide +kernel
  unfold Format.word
  rw [sw]
  cases neg with
  | false =>
    have h1 : r / 9223372036854775808 = 0 := Nat.div_eq_of_lt hr
    have h2 : r % 9223372036854775808 = r := Nat.mod_eq_of_lt hr
    exact ⟨by rw [if_neg (by decide), h1]; rfl, by rw [if_neg (by decide), h2]⟩
  | true =>
    have h1 : (9223372036854775808 + r) / 9223372036854775808 = 1 := by omega
    have h2 : (9223372036854775808 + r) % 9223372036854775808 = r := by omega
    exact ⟨by rw [if_pos rfl, h1]; rfl, by rw [if_pos rfl, h2]⟩
theorem read_rung (neg : Bool) (N : Nat) (hN : N ≠ 0) (h : N < 9007199254740992) : double.read (double.word neg (rung N)) = .number neg (N * 2 ^ (52 - N.log2)) (-((52 - N.log2 : Nat) : Int)) := by
  have hl := log2_le52 hN h
  obtain ⟨s1, s2⟩ := sig_bd hN h
  obtain ⟨r1, r2⟩ := read_word neg _ (rung_lt hN h)
  unfold Format.read
  rw [r1, r2]
  have bn : double.binade = 4503599627370496 := by decide +kernel
  have ir : double.infRung = 9218868437227405312 := by decide +kernel
  have lp : double.leastPlace = -1074 := by decide +kernel
  obtain ⟨_, _, hdiv, hmod, h1, h2⟩ := rung_arith _ _ hl s1 s2
  have hdiv' : rung N / 4503599627370496 = N.log2 + 1023 := hdiv
  have hmod' : rung N % 4503599627370496 = N * 2 ^ (52 - N.log2) - 4503599627370496 := hmod
  simp only [bn, ir, lp, hdiv', hmod']
  have h1' : ¬ rung N < 4503599627370496 := h1
  have h2' : rung N < 9218868437227405312 := h2
  rw [if_neg h1', if_pos h2']
  have q1 : 4503599627370496 + (N * 2 ^ (52 - N.log2) - 4503599627370496) = N * 2 ^ (52 - N.log2) := Nat.add_sub_cancel' s1
  have q2 : (-1074 : Int) + ((N.log2 + 1023 - 1 : Nat) : Int) = -((52 - N.log2 : Nat) : Int) := by clear q1 hdiv hmod hdiv' hmod' h1 h2 s1 s2; omega
  rw [q1, q2]
theorem read_zero (neg : Bool) : double.read (double.word neg 0) = .number neg 0 (-1074) := by cases neg <;> decide +kernel
def Is (x : Nat) (n : Int) : Prop := n.natAbs < 9007199254740992 ∧ ∃ (s : Bool) (r k : Nat), x = double.word s r ∧ r < 9223372036854775808 ∧ double.read x = .number s (n.natAbs * 2 ^ k) (-(k : Int)) ∧ (n ≠ 0 → s = decide (n < 0))
theorem is_near (n : Int) (k : Nat) (neg : Bool) (h : n.natAbs < 9007199254740992) (hs : n ≠ 0 → neg = decide (n < 0)) : Is (double.nearest neg (n.natAbs * 2 ^ k) (-(k : Int))) n := by
  refine ⟨h, ?_⟩
  by_cases hn : n = 0
  · subst hn
    have : double.nearest neg ((0 : Int).natAbs * 2 ^ k) (-(k : Int)) = double.word neg 0 := by
      unfold Format.nearest; simp
    rw [this]
    refine ⟨neg, 0, 1074, rfl, by omega, ?_, fun h => absurd rfl h⟩
    rw [read_zero]
    have e : ∀ q : Nat, (0 : Int).natAbs * q = 0 := fun q => Nat.zero_mul q
    rw [e]; rfl
  · have hN : n.natAbs ≠ 0 := by omega
    rw [nearest_exact neg _ k hN h]
    exact ⟨neg, _, _, rfl, rung_lt hN h, read_rung neg _ hN h, hs⟩
theorem is_int (n : Int) (h : n.natAbs < 9007199254740992) : Is (Go.FloatKind.nearest .f64 n) n := by
  have := is_near n 0 (decide (n < 0)) h (fun _ => rfl)
  simpa [Go.FloatKind.nearest, Go.FloatKind.encode, Go.FloatKind.format, Format.write] using this
theorem signed_eq (n : Int) (s : Bool) (k u : Nat) (hs : n ≠ 0 → s = decide (n < 0)) : signed s (n.natAbs * 2 ^ k) u = n * 2 ^ (k + u) := by
  unfold signed
  rw [Nat.shiftLeft_eq, Nat.mul_assoc, ← Nat.pow_add]
  by_cases hn : n = 0
  · subst hn; cases s <;> simp
  · have := hs hn
    subst this
    by_cases h : n < 0
    · simp only [h, decide_true, if_true]
      have e : (n.natAbs : Int) = -n := by omega
      rw [Int.natCast_mul, e, Int.natCast_pow]; simp [Int.neg_mul]
    · simp only [h, decide_false, Bool.false_eq_true, if_false]
      have e : (n.natAbs : Int) = n := by omega
      rw [Int.natCast_mul, e, Int.natCast_pow]; simp
theorem pow_pos' (k : Nat) : (0 : Int) < 2 ^ k := by exact_mod_cast Nat.two_pow_pos k
theorem sum_num (a b : Int) (s t : Bool) (k j : Nat) (hs : a ≠ 0 → s = decide (a < 0)) (ht : b ≠ 0 → t = decide (b < 0)) (hab : (a + b).natAbs < 9007199254740992) :
    ∃ z, ((Datum.number s (a.natAbs * 2 ^ k) (-(k : Int))).sum (.number t (b.natAbs * 2 ^ j) (-(j : Int)))).map double.write = some z ∧ Is z (a + b) := by
  simp only [Datum.sum]
  have hb : min (-(k : Int)) (-(j : Int)) = -((max k j : Nat) : Int) := by omega
  rw [hb]
  have e1 : (-(k : Int) - -((max k j : Nat) : Int)).toNat = max k j - k := by omega
  have e2 : (-(j : Int) - -((max k j : Nat) : Int)).toNat = max k j - j := by omega
  rw [e1, e2, signed_eq a s k _ hs, signed_eq b t j _ ht, show k + (max k j - k) = max k j by omega, show j + (max k j - j) = max k j by omega, ← Int.add_mul]
  refine ⟨_, rfl, ?_⟩
  generalize max k j = m
  simp only [Format.write]
  have hp := pow_pos' m
  have hna : ((a + b) * 2 ^ m).natAbs = (a + b).natAbs * 2 ^ m := by rw [Int.natAbs_mul, Int.natAbs_pow]; rfl
  rw [hna]
  refine is_near (a + b) m _ hab (fun hne => ?_)
  have h0 : ¬ ((a + b) * 2 ^ m = 0) := by
    intro h; rcases Int.mul_eq_zero.1 h with h | h
    · exact hne h
    · omega
  rw [if_neg h0]
  apply decide_eq_decide.2
  constructor
  · intro h
    rcases Int.lt_or_le (a + b) 0 with h1 | h1
    · exact h1
    · have := Int.mul_nonneg h1 (Int.le_of_lt hp); omega
  · intro h; exact Int.mul_neg_of_neg_of_pos h hp
theorem is_sub {x y : Nat} {a b : Int} (hx : Is x a) (hy : Is y b) (h : (a - b).natAbs < 9007199254740992) : ∃ z, double.sub x y = some z ∧ Is z (a - b) := by
  obtain ⟨_, s, r, k, _, _, rx, hs⟩ := hx
  obtain ⟨_, t, q, j, _, _, ry, ht⟩ := hy
  unfold Format.sub
  rw [rx, ry]
  simp only [Datum.opposite]
  have := sum_num a (-b) s (!t) k j hs (fun hb => by rw [ht (by omega)]; by_cases h : b < 0 <;> simp [h] <;> omega) (by rw [← Int.sub_eq_add_neg]; exact h)
  rw [Int.natAbs_neg, ← Int.sub_eq_add_neg] at this
  exact this
theorem is_order {x y : Nat} {a b : Int} (hx : Is x a) (hy : Is y b) : double.order x y = some (compare a b) := by
  obtain ⟨_, s, r, k, _, _, rx, hs⟩ := hx
  obtain ⟨_, t, q, j, _, _, ry, ht⟩ := hy
  unfold Format.order
  rw [rx, ry]
  simp only [Datum.order]
  have hb : min (-(k : Int)) (-(j : Int)) = -((max k j : Nat) : Int) := by omega
  rw [hb]
  have e1 : (-(k : Int) - -((max k j : Nat) : Int)).toNat = max k j - k := by omega
  have e2 : (-(j : Int) - -((max k j : Nat) : Int)).toNat = max k j - j := by omega
  rw [e1, e2, signed_eq a s k _ hs, signed_eq b t j _ ht, show k + (max k j - k) = max k j by omega, show j + (max k j - j) = max k j by omega]
  generalize max k j = m
  have hp := pow_pos' m
  refine congrArg some ?_
  simp only [compare, compareOfLessAndEq]
  have hlt : a * 2 ^ m < b * 2 ^ m ↔ a < b := Int.mul_lt_mul_right hp
  have heq : a * 2 ^ m = b * 2 ^ m ↔ a = b := Int.mul_eq_mul_right_iff (by omega)
  simp only [hlt, heq]
theorem xor_top (r : Nat) (hr : r < 2 ^ 63) : r ^^^ 2 ^ 63 = 2 ^ 63 + r ∧ (2 ^ 63 + r) ^^^ 2 ^ 63 = r := by
  have h : r ^^^ 2 ^ 63 = 2 ^ 63 + r := by
    apply Nat.eq_of_testBit_eq
    intro i
    rw [Nat.testBit_xor, Nat.testBit_two_pow]
    by_cases hi : i = 63
    · subst hi
      rw [Nat.testBit_lt_two_pow hr, Nat.testBit_two_pow_add_eq, Nat.testBit_lt_two_pow hr]; simp
    · rw [show decide (63 = i) = false by simp; omega]
      rcases Nat.lt_or_ge i 63 with h | h
      · rw [Nat.testBit_two_pow_add_gt h]; simp
      · rw [Nat.testBit_lt_two_pow (Nat.lt_of_lt_of_le hr (Nat.pow_le_pow_right (by omega) h)), Nat.testBit_lt_two_pow]
        · simp
        · calc 2 ^ 63 + r < 2 ^ 64 := by omega
            _ ≤ 2 ^ i := Nat.pow_le_pow_right (by omega) (by omega)
  exact ⟨h, by rw [← h, Nat.xor_assoc, Nat.xor_self, Nat.xor_zero]⟩
theorem is_neg {x : Nat} {a : Int} (hx : Is x a) : Is (Go.Op.negFloat .f64 x) (-a) := by
  obtain ⟨h, s, r, k, hw, hr, rx, hs⟩ := hx
  obtain ⟨t1, t2⟩ := xor_top r hr
  have e : Go.Op.negFloat .f64 x = double.word (!s) r := by
    show x ^^^ 9223372036854775808 = _
    rw [hw]
    unfold Format.word
    have sw : double.signWeight = 9223372036854775808 := by decide +kernel
    cases s
    · simp only [Bool.false_eq_true, if_false, Bool.not_false, if_true, sw]; exact t1
    · simp only [if_true, Bool.not_true, Bool.false_eq_true, if_false, sw]; exact t2
  refine ⟨by rw [Int.natAbs_neg]; exact h, !s, r, k, e, hr, ?_, fun hn => ?_⟩
  · rw [e, Int.natAbs_neg]
    rw [hw] at rx
    unfold Format.read at rx ⊢
    obtain ⟨a1, a2⟩ := read_word s r hr
    obtain ⟨b1, b2⟩ := read_word (!s) r hr
    rw [a1, a2] at rx
    rw [b1, b2]
    dsimp only at rx ⊢
    by_cases hc : r < double.binade
    · rw [if_pos hc] at rx ⊢; injection rx with x1 x2 x3; rw [x2, x3]
    · rw [if_neg hc] at rx ⊢
      by_cases hd : r < double.infRung
      · rw [if_pos hd] at rx ⊢; injection rx with x1 x2 x3; rw [x2, x3]
      · rw [if_neg hd] at rx
        by_cases he : r = double.infRung
        · rw [if_pos he] at rx; cases rx
        · rw [if_neg he] at rx; cases rx
  · rw [hs (by omega)]
    by_cases h : a < 0 <;> simp [h] <;> omega
end Flt
theorem plane_size.calls (t n l m : Int) (w : World) :
    Calls Try.prog 64 #[.agg #[.int .i64 t, .int .i64 n, .int .i64 l, .int .i64 m]] w fun e w' => e = .returned (.complex .f64 (FloatKind.nearest .f64 l) (FloatKind.nearest .f64 m)) ∧ Below w.heap.size w w' := by
  go_enter Try.func64, Try.ntmps64
  go_wp2
  go_ret
  exact ⟨rfl, below_alloc (Below.refl _ _) _⟩
theorem run_csub (a b c d r i : Nat) (h1 : Ieee.double.sub a c = some r) (h2 : Ieee.double.sub b d = some i) : ∀ W : World, (binOp .sub 81 (.complex .f64 a b) (.complex .f64 c d)).run Try.prog W = .ok (.complex .f64 r i) W := fun W => by
  have g1 : FloatKind.f64.format.sub a c = some r := h1
  have g2 : FloatKind.f64.format.sub b d = some i := h2
  simp [binOp, Op.complexOp, Op.Complex.arith, Op.floatArith, g1, g2]
theorem run_neg (x : Nat) (W : World) : (Op.unary .neg (.float .f64 x)).run Try.prog W = .ok (.float .f64 (Op.negFloat .f64 x)) W := rfl
end Go.Proofs.Ytkhfgflcanmefaa.PAll
end
section
namespace Go.Proofs.Ytkhfgflcanmefaa.PAll
open Go.RowKit Go.Proofs.YtkhfgflcanmefaaW.PrintWords Go.Proofs.YtkhfgflcanmefaaW.PrintLast Go.Proofs.YtkhfgflcanmefaaW.PrintMore
attribute [local go_sem] max2_int min2_int max_two min_two max_three min_three max_four min_four   -- for this text's walks alone
set_option linter.unusedVariables false
set_option linter.unusedSimpArgs false

theorem short_calls (x y : Nat) (a b : Int) (w : World) (hx : Flt.Is x a) (hy : Flt.Is y b) :
    Calls Try.prog 63 #[.float .f64 x, .float .f64 y] w fun e w' => e = .returned (.bool (decide (a < b))) ∧ Drawn0 w w' := by
  have hlt : (FloatKind.f64.format.order x y == some Ordering.lt) = decide (a < b) := by
    show (Ieee.double.order x y == some Ordering.lt) = decide (a < b)
    rw [Flt.is_order hx hy]
    simp only [compare, compareOfLessAndEq]
    by_cases h : a < b
    · simp [h]
    · by_cases h2 : a = b <;> simp [h, h2]
  have HL := Aside0.mk hlt
  clear hlt hx hy
  go_enter Try.func63, Try.ntmps63
  go_wp2
  go_ret
  exact ⟨by rw [← HL.out]; rfl, by repeat (first | exact Drawn0.refl _ | apply Drawn0.step)⟩
theorem short_at (x y : Nat) (a b : Int) (p : Bool) (w : World) (hx : Flt.Is x a) (hy : Flt.Is y b) (hp : decide (a < b) = p) :
    Calls Try.prog 63 #[.float .f64 x, .float .f64 y] w fun e w' => e = .returned (.bool p) ∧ Below w.heap.size w w' := by
  subst hp
  refine (short_calls x y a b w hx hy).mono ?_
  rintro e w' ⟨rfl, h⟩
  exact ⟨rfl, h.below⟩
end Go.Proofs.Ytkhfgflcanmefaa.PAll
end
section
namespace Go.Proofs.Ytkhfgflcanmefaa.PAll
open Go.RowKit Go.Proofs.YtkhfgflcanmefaaW.PrintWords Go.Proofs.YtkhfgflcanmefaaW.PrintLast Go.Proofs.YtkhfgflcanmefaaW.PrintMore
attribute [local go_sem] max2_int min2_int max_two min_two max_three min_three max_four min_four   -- for this text's walks alone
set_option linter.unusedVariables false
set_option linter.unusedSimpArgs false

theorem plane_Meets.bds {t n l m : Int} (h : plane_Good.f t n l m = some true) : 0 ≤ t ∧ t ≤ 1099511627776 ∧ 1 ≤ l ∧ l ≤ 1048576 ∧ 0 ≤ n ∧ n ≤ 31 ∧ 1 ≤ m ∧ m ≤ 32 - n := by
  have hw : ∀ a b c : Int, plane_within.f a b c = some (decide (a ≥ b) && decide (a ≤ c)) := by
    intro a b c; unfold plane_within.f; by_cases h : a ≥ b <;> simp [h]
  unfold plane_Good.f at h
  simp only [hw, Option.bind_some] at h
  by_cases h1 : (decide (t ≥ 0) && decide (t ≤ 1099511627776)) = true
  · rw [if_pos h1] at h
    by_cases h2 : (decide (l ≥ 1) && decide (l ≤ 1048576)) = true
    · rw [if_pos h2] at h
      by_cases h3 : (decide (n ≥ 0) && decide (n ≤ 31)) = true
      · rw [if_pos h3] at h
        simp at h h1 h2 h3
        unfold wrap64 at h
        omega
      · rw [if_neg h3] at h; simp at h
    · rw [if_neg h2] at h; simp at h
  · rw [if_neg h1] at h; simp at h
theorem cells_of {w w1 : World} {cs : Array Value} {T : TypeId} (hb : Below (w.alloc (.cells cs T (0, 0))).heap.size (w.alloc (.cells cs T (0, 0))) w1) (j : Nat) {v : Value} (hj : cs[j]? = some v) : w1.cell? ⟨w.heap.size, j, none⟩ = some v :=
  (hb.cell (p := ⟨w.heap.size, j, none⟩) (by simp)).trans (by have e := heap_alloc_new w (.cells cs T (0, 0)); simp only [World.cell?, e]; simpa using hj)
def meetB (at_ an al am bt bn bl bm : Int) : Bool := decide (bt - at_ < al) && decide (-(bt - at_) < bl) && decide (bn - an < am) && decide (-(bn - an) < bm)
def plane_Meets.f (a0_0 : Int) (a0_1 : Int) (a0_2 : Int) (a0_3 : Int) (a1_0 : Int) (a1_1 : Int) (a1_2 : Int) (a1_3 : Int) : Option Bool := (plane_Good.f a0_0 a0_1 a0_2 a0_3).bind fun g => if g = true then ((plane_Good.f a1_0 a1_1 a1_2 a1_3).bind fun g2 => if g2 = true then some (meetB a0_0 a0_1 a0_2 a0_3 a1_0 a1_1 a1_2 a1_3) else some false) else some false
def boxOf (a b c d : Int) : Obj := .cells #[.int .i64 a, .int .i64 b, .int .i64 c, .int .i64 d] 63 (0, 0)
set_option maxRecDepth 100000 in
theorem meets_no (a0_0 a0_1 a0_2 a0_3 a1_0 a1_1 a1_2 a1_3 : Int) (w : World) (h : plane_Good.f a0_0 a0_1 a0_2 a0_3 = some false) :
    Calls Try.prog 52 #[.agg #[.int .i64 a0_0, .int .i64 a0_1, .int .i64 a0_2, .int .i64 a0_3], .agg #[.int .i64 a1_0, .int .i64 a1_1, .int .i64 a1_2, .int .i64 a1_3]] w fun e w' => e = .returned (.bool false) ∧ Below w.heap.size w w' := by
  have HG := Aside0.mk h
  clear h
  go_enter Try.func52, Try.ntmps52
  go_wp2_with (go_at_call 51; refine (plane_Good.calls a0_0 a0_1 a0_2 a0_3 false _ HG.out).mono ?_; rintro e w1 ⟨rfl, hb⟩)
  go_ret
  exact ⟨rfl, (below_alloc (below_alloc (Below.refl _ _) _) _).trans (hb.mono (by simp; omega))⟩

theorem cells_a {w w1 : World} {cs ds : Array Value} {T S : TypeId} (hb : Below ((w.alloc (.cells cs T (0, 0))).alloc (.cells ds S (0, 0))).heap.size ((w.alloc (.cells cs T (0, 0))).alloc (.cells ds S (0, 0))) w1) (j : Nat) {v : Value} (hj : cs[j]? = some v) : w1.cell? ⟨w.heap.size, j, none⟩ = some v := by
  refine (hb.cell (p := ⟨w.heap.size, j, none⟩) (by simp; omega)).trans ?_
  have e := heap_alloc_new w (.cells cs T (0, 0))
  have e2 : ((w.alloc (.cells cs T (0, 0))).alloc (.cells ds S (0, 0))).heap[w.heap.size]? = (w.alloc (.cells cs T (0, 0))).heap[w.heap.size]? := heap_alloc_old _ _ (by simp)
  simp only [World.cell?, e2, e]
  simpa using hj
theorem cells_b {w w1 : World} {cs ds : Array Value} {T S : TypeId} (hb : Below ((w.alloc (.cells cs T (0, 0))).alloc (.cells ds S (0, 0))).heap.size ((w.alloc (.cells cs T (0, 0))).alloc (.cells ds S (0, 0))) w1) (j : Nat) {v : Value} (hj : ds[j]? = some v) : w1.cell? ⟨w.heap.size + 1, j, none⟩ = some v := by
  have := cells_of hb j hj
  simpa using this
theorem cells_ab {w w1 : World} {a b c d x y z t : Int} (hb : Below ((w.alloc (.cells #[.int .i64 a, .int .i64 b, .int .i64 c, .int .i64 d] 63 (0, 0))).alloc (.cells #[.int .i64 x, .int .i64 y, .int .i64 z, .int .i64 t] 63 (0, 0))).heap.size ((w.alloc (.cells #[.int .i64 a, .int .i64 b, .int .i64 c, .int .i64 d] 63 (0, 0))).alloc (.cells #[.int .i64 x, .int .i64 y, .int .i64 z, .int .i64 t] 63 (0, 0))) w1) :
    (w1.cell? ⟨w.heap.size, 0, none⟩ = some (.int .i64 a) ∧ w1.cell? ⟨w.heap.size, 1, none⟩ = some (.int .i64 b) ∧ w1.cell? ⟨w.heap.size, 2, none⟩ = some (.int .i64 c) ∧ w1.cell? ⟨w.heap.size, 3, none⟩ = some (.int .i64 d)) ∧
    (w1.cell? ⟨w.heap.size + 1, 0, none⟩ = some (.int .i64 x) ∧ w1.cell? ⟨w.heap.size + 1, 1, none⟩ = some (.int .i64 y) ∧ w1.cell? ⟨w.heap.size + 1, 2, none⟩ = some (.int .i64 z) ∧ w1.cell? ⟨w.heap.size + 1, 3, none⟩ = some (.int .i64 t)) :=
  ⟨⟨cells_a hb 0 rfl, cells_a hb 1 rfl, cells_a hb 2 rfl, cells_a hb 3 rfl⟩, cells_b hb 0 rfl, cells_b hb 1 rfl, cells_b hb 2 rfl, cells_b hb 3 rfl⟩
set_option maxRecDepth 100000 in
theorem meets_no2 (a0_0 a0_1 a0_2 a0_3 a1_0 a1_1 a1_2 a1_3 : Int) (w : World) (h : plane_Good.f a0_0 a0_1 a0_2 a0_3 = some true) (h2 : plane_Good.f a1_0 a1_1 a1_2 a1_3 = some false) :
    Calls Try.prog 52 #[.agg #[.int .i64 a0_0, .int .i64 a0_1, .int .i64 a0_2, .int .i64 a0_3], .agg #[.int .i64 a1_0, .int .i64 a1_1, .int .i64 a1_2, .int .i64 a1_3]] w fun e w' => e = .returned (.bool false) ∧ Below w.heap.size w w' := by
  have HG := Aside0.mk h
  have HG2 := Aside0.mk h2
  clear h h2
  go_enter Try.func52, Try.ntmps52
  go_wp2_with (first | (go_at_call 51; with_reducible refine (plane_Good.calls a0_0 a0_1 a0_2 a0_3 true _ HG.out).mono ?_; rintro e w1 ⟨rfl, hb⟩; obtain ⟨⟨c0, c1, c2, c3⟩, d0, d1, d2, d3⟩ := cells_ab hb) | (go_at_call 51; with_reducible refine (plane_Good.calls a1_0 a1_1 a1_2 a1_3 false _ HG2.out).mono ?_; rintro e w2 ⟨rfl, hb2⟩))
  go_ret
  exact ⟨rfl, ((below_alloc (below_alloc (Below.refl _ _) _) _).trans (hb.mono (by simp; omega))).trans (hb2.mono (by have := hb.size; simp at this; omega))⟩
structure Two (w : World) (a b c d x y z t : Int) (W : World) : Prop where
  c0 : W.cell? ⟨w.heap.size, 0, none⟩ = some (.int .i64 a)
  c1 : W.cell? ⟨w.heap.size, 1, none⟩ = some (.int .i64 b)
  c2 : W.cell? ⟨w.heap.size, 2, none⟩ = some (.int .i64 c)
  c3 : W.cell? ⟨w.heap.size, 3, none⟩ = some (.int .i64 d)
  d0 : W.cell? ⟨w.heap.size + 1, 0, none⟩ = some (.int .i64 x)
  d1 : W.cell? ⟨w.heap.size + 1, 1, none⟩ = some (.int .i64 y)
  d2 : W.cell? ⟨w.heap.size + 1, 2, none⟩ = some (.int .i64 z)
  d3 : W.cell? ⟨w.heap.size + 1, 3, none⟩ = some (.int .i64 t)
  size : w.heap.size + 2 ≤ W.heap.size
  below : Below w.heap.size w W
theorem Two.go {w : World} {a b c d x y z t : Int} {W W' : World} (T : Two w a b c d x y z t W) (h : Below W.heap.size W W') : Two w a b c d x y z t W' := by
  have hs := T.size
  exact ⟨(h.cell (by show w.heap.size < _; omega)).trans T.c0, (h.cell (by show w.heap.size < _; omega)).trans T.c1, (h.cell (by show w.heap.size < _; omega)).trans T.c2, (h.cell (by show w.heap.size < _; omega)).trans T.c3, (h.cell (by show w.heap.size + 1 < _; omega)).trans T.d0, (h.cell (by show w.heap.size + 1 < _; omega)).trans T.d1, (h.cell (by show w.heap.size + 1 < _; omega)).trans T.d2, (h.cell (by show w.heap.size + 1 < _; omega)).trans T.d3, Nat.le_trans hs h.size, T.below.trans (h.mono (by omega))⟩
theorem Two.drew {w : World} {a b c d x y z t : Int} {W : World} (T : Two w a b c d x y z t W) : Two w a b c d x y z t W.drew := T.go (Below.refl _ _).drew
theorem Two.mk1 {w w1 : World} {a b c d x y z t : Int} (hb : Below ((w.alloc (.cells #[.int .i64 a, .int .i64 b, .int .i64 c, .int .i64 d] 63 (0, 0))).alloc (.cells #[.int .i64 x, .int .i64 y, .int .i64 z, .int .i64 t] 63 (0, 0))).heap.size ((w.alloc (.cells #[.int .i64 a, .int .i64 b, .int .i64 c, .int .i64 d] 63 (0, 0))).alloc (.cells #[.int .i64 x, .int .i64 y, .int .i64 z, .int .i64 t] 63 (0, 0))) w1) : Two w a b c d x y z t w1 := by
  obtain ⟨⟨c0, c1, c2, c3⟩, d0, d1, d2, d3⟩ := cells_ab hb
  exact ⟨c0, c1, c2, c3, d0, d1, d2, d3, by have := hb.size; simp at this; omega, (below_alloc (below_alloc (Below.refl _ _) _) _).trans (hb.mono (by simp; omega))⟩
set_option maxHeartbeats 4000000 in
set_option maxRecDepth 100000 in
theorem meets_yes (a0_0 a0_1 a0_2 a0_3 a1_0 a1_1 a1_2 a1_3 : Int) (w : World) (h : plane_Good.f a0_0 a0_1 a0_2 a0_3 = some true) (h2 : plane_Good.f a1_0 a1_1 a1_2 a1_3 = some true) :
    Calls Try.prog 52 #[.agg #[.int .i64 a0_0, .int .i64 a0_1, .int .i64 a0_2, .int .i64 a0_3], .agg #[.int .i64 a1_0, .int .i64 a1_1, .int .i64 a1_2, .int .i64 a1_3]] w fun e w' => e = .returned (.bool (meetB a0_0 a0_1 a0_2 a0_3 a1_0 a1_1 a1_2 a1_3)) ∧ Below w.heap.size w w' := by
  have HG := Aside0.mk h
  have HG2 := Aside0.mk h2
  obtain ⟨u1, u2, u3, u4, u5, u6, u7, u8⟩ := plane_Meets.bds h
  obtain ⟨v1, v2, v3, v4, v5, v6, v7, v8⟩ := plane_Meets.bds h2
  obtain ⟨fr, hr, ir⟩ := Flt.is_sub (Flt.is_int a1_0 (by omega)) (Flt.is_int a0_0 (by omega)) (by omega)
  obtain ⟨fi, hi, ii⟩ := Flt.is_sub (Flt.is_int a1_1 (by omega)) (Flt.is_int a0_1 (by omega)) (by omega)
  have RS := run_csub _ _ _ _ fr fi hr hi
  have l1 := Aside0.mk (Flt.is_int a0_2 (by omega))
  have l2 := Aside0.mk (Flt.is_int a1_2 (by omega))
  have l3 := Aside0.mk (Flt.is_int a0_3 (by omega))
  have l4 := Aside0.mk (Flt.is_int a1_3 (by omega))
  have n1 := Aside0.mk (Flt.is_neg ir)
  have n2 := Aside0.mk (Flt.is_neg ii)
  have IR := Aside0.mk ir
  have II := Aside0.mk ii
  unfold meetB
  obtain ⟨p1, q1⟩ : ∃ p, decide (a1_0 - a0_0 < a0_2) = p := ⟨_, rfl⟩
  obtain ⟨p2, q2⟩ : ∃ p, decide (-(a1_0 - a0_0) < a1_2) = p := ⟨_, rfl⟩
  obtain ⟨p3, q3⟩ : ∃ p, decide (a1_1 - a0_1 < a0_3) = p := ⟨_, rfl⟩
  obtain ⟨p4, q4⟩ : ∃ p, decide (-(a1_1 - a0_1) < a1_3) = p := ⟨_, rfl⟩
  rw [q1, q2, q3, q4]
  have Q1 := Aside0.mk q1
  have Q2 := Aside0.mk q2
  have Q3 := Aside0.mk q3
  have Q4 := Aside0.mk q4
  clear h h2 u1 u2 u3 u4 u5 u6 u7 u8 v1 v2 v3 v4 v5 v6 v7 v8 ir ii hr hi q1 q2 q3 q4
  go_enter Try.func52, Try.ntmps52
  go_wp2_with (first | (go_at_call 51; with_reducible refine (plane_Good.calls a0_0 a0_1 a0_2 a0_3 true _ HG.out).mono ?_; rintro e w1 ⟨rfl, hb⟩; have T := Two.mk1 hb; clear hb; obtain ⟨c0, c1, c2, c3, d0, d1, d2, d3, sz, be⟩ := id T; replace be := Aside0.mk be) | (go_at_call 51; with_reducible refine (plane_Good.calls a1_0 a1_1 a1_2 a1_3 true _ HG2.out).mono ?_; rintro e w2 ⟨rfl, hb⟩; replace T := T.go hb; clear hb c0 c1 c2 c3 d0 d1 d2 d3 sz be))
  go_cut [5] (fun v5 wc => v5 = .complex .f64 fr fi ∧ Two w a0_0 a0_1 a0_2 a0_3 a1_0 a1_1 a1_2 a1_3 wc)
  case first =>
    obtain ⟨c0, c1, c2, c3, d0, d1, d2, d3, sz, be⟩ := id T
    replace be := Aside0.mk be
    go_region_with (first | (go_at_call 62; with_reducible refine (plane_corner.calls a0_0 a0_1 a0_2 a0_3 _).mono ?_; rintro e w3 ⟨rfl, hb⟩; replace T := Two.go (by first | exact T | exact T.drew) hb; clear c0 c1 c2 c3 d0 d1 d2 d3 sz be hb; obtain ⟨c0, c1, c2, c3, d0, d1, d2, d3, sz, be⟩ := id T; replace be := Aside0.mk be) | (go_at_call 62; with_reducible refine (plane_corner.calls a1_0 a1_1 a1_2 a1_3 _).mono ?_; rintro e w4 ⟨rfl, hb⟩; replace T := Two.go (by first | exact T | exact T.drew) hb; clear c0 c1 c2 c3 d0 d1 d2 d3 sz be hb; obtain ⟨c0, c1, c2, c3, d0, d1, d2, d3, sz, be⟩ := id T; replace be := Aside0.mk be))
    all_goals (go_wp2; go_meet; case rel => exact ⟨rfl, T⟩)
  case rest =>
    clear RS T
    obtain ⟨rfl, T⟩ := hcut
    obtain ⟨c0, c1, c2, c3, d0, d1, d2, d3, sz, be⟩ := id T
    replace be := Aside0.mk be
    cases p1 <;> cases p2 <;> cases p3 <;> cases p4 <;> (
      go_wp2_with (first
        | (rw [run_neg])
        | (go_at_call 64; with_reducible refine (plane_size.calls a0_0 a0_1 a0_2 a0_3 _).mono ?_; rintro e w3 ⟨rfl, hb⟩; replace T := Two.go T hb; clear c0 c1 c2 c3 d0 d1 d2 d3 sz be hb; obtain ⟨c0, c1, c2, c3, d0, d1, d2, d3, sz, be⟩ := id T; replace be := Aside0.mk be)
        | (go_at_call 64; with_reducible refine (plane_size.calls a1_0 a1_1 a1_2 a1_3 _).mono ?_; rintro e w4 ⟨rfl, hb⟩; replace T := Two.go T hb; clear c0 c1 c2 c3 d0 d1 d2 d3 sz be hb; obtain ⟨c0, c1, c2, c3, d0, d1, d2, d3, sz, be⟩ := id T; replace be := Aside0.mk be)
        | (go_at_call_of 63 (FloatKind.f64.nearest a0_2); with_reducible refine (short_at _ _ _ _ _ _ IR.out l1.out Q1.out).mono ?_; rintro e w4 ⟨rfl, hb⟩; replace T := Two.go T hb; clear c0 c1 c2 c3 d0 d1 d2 d3 sz be hb; obtain ⟨c0, c1, c2, c3, d0, d1, d2, d3, sz, be⟩ := id T; replace be := Aside0.mk be)
        | (go_at_call_of 63 (FloatKind.f64.nearest a1_2); with_reducible refine (short_at _ _ _ _ _ _ n1.out l2.out Q2.out).mono ?_; rintro e w4 ⟨rfl, hb⟩; replace T := Two.go T hb; clear c0 c1 c2 c3 d0 d1 d2 d3 sz be hb; obtain ⟨c0, c1, c2, c3, d0, d1, d2, d3, sz, be⟩ := id T; replace be := Aside0.mk be)
        | (go_at_call_of 63 (FloatKind.f64.nearest a0_3); with_reducible refine (short_at _ _ _ _ _ _ II.out l3.out Q3.out).mono ?_; rintro e w4 ⟨rfl, hb⟩; replace T := Two.go T hb; clear c0 c1 c2 c3 d0 d1 d2 d3 sz be hb; obtain ⟨c0, c1, c2, c3, d0, d1, d2, d3, sz, be⟩ := id T; replace be := Aside0.mk be)
        | (go_at_call_of 63 (FloatKind.f64.nearest a1_3); with_reducible refine (short_at _ _ _ _ _ _ n2.out l4.out Q4.out).mono ?_; rintro e w4 ⟨rfl, hb⟩; replace T := Two.go T hb; clear c0 c1 c2 c3 d0 d1 d2 d3 sz be hb; obtain ⟨c0, c1, c2, c3, d0, d1, d2, d3, sz, be⟩ := id T; replace be := Aside0.mk be))
      go_ret
      exact ⟨rfl, T.below⟩)
theorem plane_Meets.calls (a0_0 : Int) (a0_1 : Int) (a0_2 : Int) (a0_3 : Int) (a1_0 : Int) (a1_1 : Int) (a1_2 : Int) (a1_3 : Int) (r : Bool) (w : World) (h : plane_Meets.f a0_0 a0_1 a0_2 a0_3 a1_0 a1_1 a1_2 a1_3 = some r) :
    Calls Try.prog 52 #[.agg #[.int .i64 a0_0, .int .i64 a0_1, .int .i64 a0_2, .int .i64 a0_3], .agg #[.int .i64 a1_0, .int .i64 a1_1, .int .i64 a1_2, .int .i64 a1_3]] w fun e w' => e = .returned (.bool r) ∧ Below w.heap.size w w' := by
  obtain ⟨g, hg, h⟩ := Option.bind_eq_some_iff.1 h
  cases g with
  | false => obtain rfl : r = false := by simpa using h.symm
             exact meets_no a0_0 a0_1 a0_2 a0_3 a1_0 a1_1 a1_2 a1_3 w hg
  | true =>
    rw [if_pos rfl] at h
    obtain ⟨g2, hg2, h⟩ := Option.bind_eq_some_iff.1 h
    cases g2 with
    | false => obtain rfl : r = false := by simpa using h.symm
               exact meets_no2 a0_0 a0_1 a0_2 a0_3 a1_0 a1_1 a1_2 a1_3 w hg hg2
    | true => rw [if_pos rfl] at h
              obtain rfl := Option.some.inj h
              exact meets_yes a0_0 a0_1 a0_2 a0_3 a1_0 a1_1 a1_2 a1_3 w hg hg2
end Go.Proofs.Ytkhfgflcanmefaa.PAll
end
section
namespace Go.Proofs.Ytkhfgflcanmefaa.PAll
open Go.RowKit Go.Proofs.YtkhfgflcanmefaaW.PrintWords Go.Proofs.YtkhfgflcanmefaaW.PrintLast Go.Proofs.YtkhfgflcanmefaaW.PrintMore
attribute [local go_sem] max2_int min2_int max_two min_two max_three min_three max_four min_four   -- for this text's walks alone
set_option linter.unusedVariables false
set_option linter.unusedSimpArgs false

mutual
def plane_Apart.l0 : Nat → List (S63) → List (S63) → Int → Int → Option (Bool)
  | 0, _, _, _, _ => none
  | k + 1, x0, x7, x8, x9 => if x9 < x8 then (if 0 ≤ x9 then (if x9 < (x7.length : Int) then ((plane_Good.f ((rd_T63 x7 x9).f0) ((rd_T63 x7 x9).f1) ((rd_T63 x7 x9).f2) ((rd_T63 x7 x9).f3)).bind fun t525 => (if t525 = true then (if x9 ≤ (x0.length : Int) then ((some (x0.take (x9 : Int).toNat : List (S63))).bind fun y526 => (plane_Apart.l1 k x0 x7 x8 x9 y526 (y526.length : Int) 0 ((rd_T63 x7 x9).f0) ((rd_T63 x7 x9).f1) ((rd_T63 x7 x9).f2) ((rd_T63 x7 x9).f3))) else (none)) else (some false))) else (none)) else (none)) else (some true)
def plane_Apart.l1 : Nat → List (S63) → List (S63) → Int → Int → List (S63) → Int → Int → Int → Int → Int → Int → Option (Bool)
  | 0, _, _, _, _, _, _, _, _, _, _, _ => none
  | k + 1, x0, x7, x8, x9, x19, x20, x21, x525000, x525001, x525002, x525003 => if x21 < x20 then (if 0 ≤ x21 then (if x21 < (x19.length : Int) then ((plane_Meets.f x525000 x525001 x525002 x525003 ((rd_T63 x19 x21).f0) ((rd_T63 x19 x21).f1) ((rd_T63 x19 x21).f2) ((rd_T63 x19 x21).f3)).bind fun t532 => (if t532 = true then (some false) else (plane_Apart.l1 k x0 x7 x8 x9 x19 x20 (wrap64 (x21 + 1)) x525000 x525001 x525002 x525003))) else (none)) else (none)) else (plane_Apart.l0 k x0 x7 x8 (wrap64 (x9 + 1)))
end
def plane_Apart.f (k : Nat) (l0 : List (S63)) : Option (Bool) := plane_Apart.l0 k l0 l0 (l0.length : Int) 0
theorem plane_Apart.mono_l : ∀ k, (∀ y0 y1 y2 y3, LeO (plane_Apart.l0 k y0 y1 y2 y3) (plane_Apart.l0 (k + 1) y0 y1 y2 y3)) ∧ (∀ y0 y1 y2 y3 y4 y5 y6 y7 y8 y9 y10, LeO (plane_Apart.l1 k y0 y1 y2 y3 y4 y5 y6 y7 y8 y9 y10) (plane_Apart.l1 (k + 1) y0 y1 y2 y3 y4 y5 y6 y7 y8 y9 y10))
  | 0 => ⟨fun _ _ _ _ r h => by simp [plane_Apart.l0] at h, fun _ _ _ _ _ _ _ _ _ _ _ r h => by simp [plane_Apart.l1] at h⟩
  | k + 1 => by
    obtain ⟨ih0, ih1⟩ := plane_Apart.mono_l k
    refine ⟨?_, ?_⟩
    · intro y0 y1 y2 y3
      unfold plane_Apart.l0
      repeat' first
      | (with_reducible exact ih0 _ _ _ _)
      | (with_reducible exact ih1 _ _ _ _ _ _ _ _ _ _ _)
      | (with_reducible exact LeO.refl _)
      | (with_reducible exact LeO.none _)
      | (with_reducible refine LeO.ite ?_ ?_)
      | (with_reducible refine LeO.bind ?_ (fun _ => ?_))
      | exact ih0 _ _ _ _
      | exact ih1 _ _ _ _ _ _ _ _ _ _ _
      | exact LeO.none _
      | refine LeO.ite ?_ ?_
      | refine LeO.bind ?_ (fun _ => ?_)
    · intro y0 y1 y2 y3 y4 y5 y6 y7 y8 y9 y10
      unfold plane_Apart.l1
      repeat' first
      | (with_reducible exact ih0 _ _ _ _)
      | (with_reducible exact ih1 _ _ _ _ _ _ _ _ _ _ _)
      | (with_reducible exact LeO.refl _)
      | (with_reducible exact LeO.none _)
      | (with_reducible refine LeO.ite ?_ ?_)
      | (with_reducible refine LeO.bind ?_ (fun _ => ?_))
      | exact ih0 _ _ _ _
      | exact ih1 _ _ _ _ _ _ _ _ _ _ _
      | exact LeO.none _
      | refine LeO.ite ?_ ?_
      | refine LeO.bind ?_ (fun _ => ?_)
theorem plane_Apart.mono : ∀ a0 k, LeO (plane_Apart.f k a0) (plane_Apart.f (k + 1) a0) := by
  intro a0 k
  obtain ⟨ih0, ih1⟩ := plane_Apart.mono_l k
  unfold plane_Apart.f
  repeat' first
      | (with_reducible exact ih0 _ _ _ _)
      | (with_reducible exact ih1 _ _ _ _ _ _ _ _ _ _ _)
      | (with_reducible exact LeO.refl _)
      | (with_reducible exact LeO.none _)
      | (with_reducible refine LeO.ite ?_ ?_)
      | (with_reducible refine LeO.bind ?_ (fun _ => ?_))
      | exact ih0 _ _ _ _
      | exact ih1 _ _ _ _ _ _ _ _ _ _ _
      | exact LeO.none _
      | refine LeO.ite ?_ ?_
      | refine LeO.bind ?_ (fun _ => ?_)
set_option maxHeartbeats 8000000 in
set_option maxRecDepth 100000 in
theorem plane_Apart.calls (k : Nat) (A0 : Option Addr) (c0 : Nat) (l0 : List (S63)) (r : Bool) (w : World) (hr0 : Kd.C k63 w A0 l0.length l0) (hc0 : l0.length ≤ c0) (h : plane_Apart.f k l0 = some r) :
    Calls Try.prog 30 #[.slice A0 l0.length c0] w fun e w' => e = .returned (.bool r) ∧ Below w.heap.size w w' := by
  have hu63 := Try.underlying63
  have HR0 := Aside0.mk hr0
  have HC0 := Aside0.mk hc0
  clear hr0 hc0
  have HB := Aside0.mk (Below.refl w.heap.size w)
  have H : (plane_Apart.l0 k l0 l0 (l0.length : Int) 0) = some r := h
  clear h
  have H' := Aside0.mk H
  clear H
  go_enter Try.func30, Try.ntmps30
  go_wp2
  go_loopg [9] k (fun kq v9 w' => ∃ (x9_1 : Int), v9 = .int .i64 x9_1 ∧ Aside0 (plane_Apart.l0 kq l0 l0 (l0.length : Int) x9_1 = some r) ∧ Aside0 (kq ≤ k) ∧ Aside0 (Below w.heap.size w w'))
  case atStart => exact ⟨(0), (by first | rfl | (simp; done) | (simp [*]; done)), H', ⟨Nat.le_refl _⟩, ⟨by repeat (first | (with_reducible first | exact HB.out | apply below_alloc | apply pw_below_drewN | apply below_drew1) | exact HB.out)⟩⟩
  case round =>
    clear H'
    obtain ⟨x9_1, rfl, HA, HK1, HB⟩ := hrel
    cases gk with
    | zero => exact absurd HA.out (by simp [plane_Apart.l0])
    | succ k1 =>
      have H := HA.out
      clear HA
      simp only [plane_Apart.l0] at H
      by_cases c2 : x9_1 < (l0.length : Int)
      · rw [if_pos c2] at H
        have c2b0 : decide (x9_1 < (l0.length : Int)) = true := decide_eq_true c2
        clear c2
        by_cases c3 : 0 ≤ x9_1
        · rw [if_pos c3] at H
          have c3b0 : decide (0 ≤ x9_1) = true := decide_eq_true c3
          clear c3
          by_cases c4 : x9_1 < (l0.length : Int)
          · rw [if_pos c4] at H
            have c4b0 : decide (x9_1 < (l0.length : Int)) = true := decide_eq_true c4
            clear c4
            replace H := Option.bind_eq_some_iff.mp H
            obtain ⟨t525, A50, H⟩ := H
            replace H : (if t525 = true then (if x9_1 ≤ (l0.length : Int) then ((some (l0.take (x9_1 : Int).toNat : List (S63))).bind fun y526 => (plane_Apart.l1 k1 l0 l0 (l0.length : Int) x9_1 y526 (y526.length : Int) 0 ((rd_T63 l0 x9_1).f0) ((rd_T63 l0 x9_1).f1) ((rd_T63 l0 x9_1).f2) ((rd_T63 l0 x9_1).f3))) else (none)) else (some false)) = some r := H
            have A5 := Aside0.mk A50
            clear A50
            by_cases c6 : t525 = true
            · subst c6
              have H1 : (if x9_1 ≤ (l0.length : Int) then ((some (l0.take (x9_1 : Int).toNat : List (S63))).bind fun y526 => (plane_Apart.l1 k1 l0 l0 (l0.length : Int) x9_1 y526 (y526.length : Int) 0 ((rd_T63 l0 x9_1).f0) ((rd_T63 l0 x9_1).f1) ((rd_T63 l0 x9_1).f2) ((rd_T63 l0 x9_1).f3))) else (none)) = some r := by rw [if_pos rfl] at H; exact H
              clear H
              have H := H1
              clear H1
              have c7b0 := eq_true (of_decide_eq_true (by first | (with_reducible assumption) | assumption) : 0 ≤ x9_1)
              by_cases c8 : x9_1 ≤ (l0.length : Int)
              · rw [if_pos c8] at H
                have c8b0 := eq_true c8
                have c8b1 : decide (x9_1 ≤ (l0.length : Int)) = true := decide_eq_true c8
                clear c8
                obtain ⟨y526, hy526⟩ : ∃ y_ : List (S63), y_ = (l0.take (x9_1 : Int).toNat) := ⟨_, rfl⟩
                replace H : (plane_Apart.l1 k1 l0 l0 (l0.length : Int) x9_1 y526 (y526.length : Int) 0 ((rd_T63 l0 x9_1).f0) ((rd_T63 l0 x9_1).f1) ((rd_T63 l0 x9_1).f2) ((rd_T63 l0 x9_1).f3)) = some r := by first | (rw [hy526]; with_reducible exact H) | (have H2_ := (Option.bind_some _ _).symm.trans H; rw [hy526]; with_reducible exact H2_) | (have H2_ := (Option.bind_some _ _).symm.trans H; with_reducible exact H2_) | with_reducible exact H | (rw [hy526]; exact H) | exact H
                have Ny526 := Aside0.mk hy526
                clear hy526
                have H' := Aside0.mk H
                clear H
                have p523 : 0 ≤ (x9_1 : Int) := of_decide_eq_true (by first | (with_reducible assumption) | assumption)
                have q523 : x9_1 < (l0.length : Int) := of_decide_eq_true (by first | (with_reducible assumption) | assumption)
                obtain ⟨ad523, e523, hx523_0, hx523_1, hx523_2, hx523_3⟩ := at_T63 HR0.out x9_1 p523 q523
                cases e523
                replace hx523_0 := (HB.out.cell (World.block_lt_of_cell? w _ hx523_0)).trans hx523_0
                replace hx523_1 := (HB.out.cell (World.block_lt_of_cell? w _ hx523_1)).trans hx523_1
                replace hx523_2 := (HB.out.cell (World.block_lt_of_cell? w _ hx523_2)).trans hx523_2
                replace hx523_3 := (HB.out.cell (World.block_lt_of_cell? w _ hx523_3)).trans hx523_3
                replace p523 := eq_true p523
                replace q523 := eq_true q523
                go_wp2_with (first | ((with_reducible refine gate_dst (N := 4) rfl ?_); refine box_event ?hg (N := 4) ?hd (cs := #[.int .i64 0, .int .i64 0, .int .i64 0, .int .i64 0]) (t := 63) ?hr ?_; (case hd => rfl); (case hg => rfl); (case hr => first | (go_simp; done) | (go_simp; rfl)); intro gb524 hg w9 hbox hb; have n0_ := Aside0.mk (below_step (by repeat (first | (with_reducible first | exact HB.out | apply below_alloc | apply pw_below_drewN | apply below_drew1) | exact HB.out)) hb); have n1_ := Aside0.mk (hbox); have n2_ := Aside0.mk ((by rw [hg]; exact (below_size (by repeat (first | (with_reducible first | exact HB.out | apply below_alloc | apply pw_below_drewN | apply below_drew1) | exact HB.out))) : w.heap.size ≤ gb524)); have n3_ := Aside0.mk ((by rw [hg]; exact (below_size (by repeat (first | (with_reducible first | exact HB.out | apply below_alloc | apply pw_below_drewN | apply below_drew1) | exact HB.out))) : w.heap.size ≤ gb524)); clear HB; have HB := n0_; have BK524 := n1_; have GW524 := n2_; have GE524 := n3_; clear n0_ n1_ n2_ n3_; clear hb hbox hg; have hcz10_0 : w9.cell? ⟨gb524, 0, none⟩ = some (.int .i64 0) := (blk_cell BK524.out 0).trans rfl; have hcz10_1 : w9.cell? ⟨gb524, 1, none⟩ = some (.int .i64 0) := (blk_cell BK524.out 1).trans rfl; have hcz10_2 : w9.cell? ⟨gb524, 2, none⟩ = some (.int .i64 0) := (blk_cell BK524.out 2).trans rfl; have hcz10_3 : w9.cell? ⟨gb524, 3, none⟩ = some (.int .i64 0) := (blk_cell BK524.out 3).trans rfl; have hfz10_0 := blk_frozen BK524.out 0; have hfz10_1 := blk_frozen BK524.out 1; have hfz10_2 := blk_frozen BK524.out 2; have hfz10_3 := blk_frozen BK524.out 3) | ((with_reducible refine gate_callee (f := 51) rfl ?_); refine goesL_ (some 15) rfl rfl Try.func51 (by kernel_rfl) rfl #[.agg #[.int .i64 ((rd_T63 l0 x9_1).f0), .int .i64 ((rd_T63 l0 x9_1).f1), .int .i64 ((rd_T63 l0 x9_1).f2), .int .i64 ((rd_T63 l0 x9_1).f3)]] rfl (by (try simp only [List.map_toArray, List.map_cons, List.map_nil]); first | done | rfl | (simp only [List.length_drop, List.length_take]; rfl)) ?_; (with_reducible refine (plane_Good.calls ((rd_T63 l0 x9_1).f0) ((rd_T63 l0 x9_1).f1) ((rd_T63 l0 x9_1).f2) ((rd_T63 l0 x9_1).f3) true _ A5.out).mono ?_); rintro e w11 ⟨rfl, hb⟩; refine ⟨_, rfl, ?_⟩; have n0_ := Aside0.mk (blk_below (g := gb524) (o := .cells #[.int .i64 ((rd_T63 l0 x9_1).f0), .int .i64 ((rd_T63 l0 x9_1).f1), .int .i64 ((rd_T63 l0 x9_1).f2), .int .i64 ((rd_T63 l0 x9_1).f3)] 63 (0, 0)) (by (with_reducible repeat first | apply blk_drewN | apply blk_drew | apply blk_alloc); refine blk_put (cs := #[.int .i64 ((rd_T63 l0 x9_1).f0), .int .i64 ((rd_T63 l0 x9_1).f1), .int .i64 ((rd_T63 l0 x9_1).f2), .int .i64 0]) ?_ 3 _ rfl; (with_reducible repeat first | apply blk_drewN | apply blk_drew | apply blk_alloc); refine blk_put (cs := #[.int .i64 ((rd_T63 l0 x9_1).f0), .int .i64 ((rd_T63 l0 x9_1).f1), .int .i64 0, .int .i64 0]) ?_ 2 _ rfl; (with_reducible repeat first | apply blk_drewN | apply blk_drew | apply blk_alloc); refine blk_put (cs := #[.int .i64 ((rd_T63 l0 x9_1).f0), .int .i64 0, .int .i64 0, .int .i64 0]) ?_ 1 _ rfl; (with_reducible repeat first | apply blk_drewN | apply blk_drew | apply blk_alloc); refine blk_put (cs := #[.int .i64 0, .int .i64 0, .int .i64 0, .int .i64 0]) ?_ 0 _ rfl; (with_reducible repeat first | apply blk_drewN | apply blk_drew | apply blk_alloc); exact BK524.out) hb); have n1_ := Aside0.mk (below_step (by repeat (first | (with_reducible first | exact HB.out | apply below_alloc | apply pw_below_drewN | apply below_drew1 | refine below_set ?_ GE524.out) | exact HB.out)) hb); clear BK524; clear HB; have BK524 := n0_; have HB := n1_; clear n0_ n1_; (try clear hb); (try clear hb2); (try clear hk); (try clear hi); have q12 : (x9_1 : Int) ≤ ((l0.length : Int) : Int) := of_decide_eq_true (by first | (with_reducible assumption) | assumption); obtain ⟨i012, hi012, _, hsz12, _⟩ := info_parts info63; have hroom12 : l0.length ≤ c0 := HC0.out; have hC12 : Kd.C k63 _ (some ad523) l0.length l0 := HR0.out; have hcut12 := cut_to (P := Try.prog) 43 63 .i64 Try.underlying43 hi012 (some ad523) l0.length c0 x9_1 (of_decide_eq_true (by first | (with_reducible assumption) | assumption)) q12 hroom12; have hr12 := Kd.C_take (m := (x9_1 : Int).toNat) hC12 (by omega); have hy12 : y526.length = (x9_1 : Int).toNat := (by rw [Ny526.out, List.length_take]; omega); rw [← Ny526.out] at hr12; rw [← hy12] at hcut12; have HR529 := Aside0.mk hr12; have HC529 := Aside0.mk (show y526.length ≤ c0 from by omega); clear hr12 hC12 hroom12 hi012 hsz12; have KY12 := Aside0.mk hy12; clear hy12; replace q12 := eq_true q12))
                go_loopg [21] k1 (fun kq v21 w' => ∃ (x21_2 : Int), v21 = .int .i64 x21_2 ∧ Aside0 (plane_Apart.l1 kq l0 l0 (l0.length : Int) x9_1 y526 (y526.length : Int) x21_2 ((rd_T63 l0 x9_1).f0) ((rd_T63 l0 x9_1).f1) ((rd_T63 l0 x9_1).f2) ((rd_T63 l0 x9_1).f3) = some r) ∧ Aside0 (kq ≤ k1) ∧ Aside0 (w'.heap[gb524]? = some (.cells #[.int .i64 ((rd_T63 l0 x9_1).f0), .int .i64 ((rd_T63 l0 x9_1).f1), .int .i64 ((rd_T63 l0 x9_1).f2), .int .i64 ((rd_T63 l0 x9_1).f3)] 63 (0, 0))) ∧ Aside0 (Below w.heap.size w w'))
                case atStart => exact ⟨(0), (by first | rfl | (simp; done) | (simp [*]; done)), H', ⟨Nat.le_refl _⟩, ⟨by (with_reducible repeat first | apply blk_drewN | apply blk_drew | apply blk_alloc); exact BK524.out⟩, ⟨by repeat (first | (with_reducible first | exact HB.out | apply below_alloc | apply pw_below_drewN | apply below_drew1 | refine below_set ?_ GE524.out) | exact HB.out)⟩⟩
                case round =>
                  clear H'
                  try clear q1
                  try clear c2
                  try clear c2b0
                  try clear p2
                  try clear c3
                  try clear c3b0
                  try clear c4
                  try clear c4b0
                  try clear c5
                  try clear p5
                  try clear q5
                  try clear hx5
                  try clear c6
                  try clear c7
                  try clear c7b0
                  try clear c8
                  try clear c8b0
                  try clear c8b1
                  try clear q12
                  try clear hcz10_0
                  try clear hcz10_1
                  try clear hcz10_2
                  try clear hcz10_3
                  try clear hfz10_0
                  try clear hfz10_1
                  try clear hfz10_2
                  try clear hfz10_3
                  try clear hx523_0
                  try clear hx523_1
                  try clear hx523_2
                  try clear hx523_3
                  try clear p523
                  try clear q12
                  try clear q523
                  obtain ⟨x21_2, rfl, HA, HK2, BK524, HB⟩ := hrel
                  cases gk with
                  | zero => exact absurd HA.out (by simp [plane_Apart.l1])
                  | succ k2 =>
                    have H := HA.out
                    clear HA
                    simp only [plane_Apart.l1] at H
                    by_cases c13 : x21_2 < (y526.length : Int)
                    · rw [if_pos c13] at H
                      have c13b0 : decide (x21_2 < (y526.length : Int)) = true := decide_eq_true c13
                      clear c13
                      by_cases c14 : 0 ≤ x21_2
                      · rw [if_pos c14] at H
                        have c14b0 : decide (0 ≤ x21_2) = true := decide_eq_true c14
                        clear c14
                        by_cases c15 : x21_2 < (y526.length : Int)
                        · rw [if_pos c15] at H
                          have c15b0 : decide (x21_2 < (y526.length : Int)) = true := decide_eq_true c15
                          clear c15
                          replace H := Option.bind_eq_some_iff.mp H
                          obtain ⟨t532, A160, H⟩ := H
                          replace H : (if t532 = true then (some false) else (plane_Apart.l1 k2 l0 l0 (l0.length : Int) x9_1 y526 (y526.length : Int) (wrap64 (x21_2 + 1)) ((rd_T63 l0 x9_1).f0) ((rd_T63 l0 x9_1).f1) ((rd_T63 l0 x9_1).f2) ((rd_T63 l0 x9_1).f3))) = some r := H
                          have A16 := Aside0.mk A160
                          clear A160
                          by_cases c17 : t532 = true
                          · subst c17
                            have H1 : (some false) = some r := by rw [if_pos rfl] at H; exact H
                            clear H
                            have H := H1
                            clear H1
                            obtain rfl := Option.some.inj H
                            have p530 : 0 ≤ (x21_2 : Int) := of_decide_eq_true (by first | (with_reducible assumption) | assumption)
                            have q530 : x21_2 < (y526.length : Int) := of_decide_eq_true (by first | (with_reducible assumption) | assumption)
                            obtain ⟨ad530, e530, hx530_0, hx530_1, hx530_2, hx530_3⟩ := at_T63 HR529.out x21_2 p530 q530
                            obtain rfl : ad523 = ad530 := (by injection e530)
                            replace hx530_0 := (HB.out.cell (World.block_lt_of_cell? w _ hx530_0)).trans hx530_0
                            replace hx530_1 := (HB.out.cell (World.block_lt_of_cell? w _ hx530_1)).trans hx530_1
                            replace hx530_2 := (HB.out.cell (World.block_lt_of_cell? w _ hx530_2)).trans hx530_2
                            replace hx530_3 := (HB.out.cell (World.block_lt_of_cell? w _ hx530_3)).trans hx530_3
                            replace p530 := eq_true p530
                            replace q530 := eq_true q530
                            go_wp2_with (first | ((with_reducible refine gate_dst (N := 6) rfl ?_); refine box_event ?hg (N := 6) ?hd (cs := #[.int .i64 0, .int .i64 0, .int .i64 0, .int .i64 0]) (t := 63) ?hr ?_; (case hd => rfl); (case hg => rfl); (case hr => first | (go_simp; done) | (go_simp; rfl)); intro gb531 hg w18 hbox hb; have n0_ := Aside0.mk (blk_below (g := gb524) (o := .cells #[.int .i64 ((rd_T63 l0 x9_1).f0), .int .i64 ((rd_T63 l0 x9_1).f1), .int .i64 ((rd_T63 l0 x9_1).f2), .int .i64 ((rd_T63 l0 x9_1).f3)] 63 (0, 0)) (by (with_reducible repeat first | apply blk_drewN | apply blk_drew | apply blk_alloc); exact BK524.out) hb); have n1_ := Aside0.mk (below_step (by repeat (first | (with_reducible first | exact HB.out | apply below_alloc | apply pw_below_drewN | apply below_drew1 | refine below_set ?_ GE524.out) | exact HB.out)) hb); have n2_ := Aside0.mk (hbox); have n3_ := Aside0.mk ((by rw [hg]; exact (below_size (by repeat (first | (with_reducible first | exact HB.out | apply below_alloc | apply pw_below_drewN | apply below_drew1 | refine below_set ?_ GE524.out) | exact HB.out))) : w.heap.size ≤ gb531)); have n4_ := Aside0.mk ((by rw [hg]; exact (below_size (by repeat (first | (with_reducible first | exact HB.out | apply below_alloc | apply pw_below_drewN | apply below_drew1 | refine below_set ?_ GE524.out) | exact HB.out))) : w.heap.size ≤ gb531)); have n5_ := Aside0.mk ((by rw [hg]; exact Nat.ne_of_lt (blk_lt (g := gb524) (o := .cells #[.int .i64 ((rd_T63 l0 x9_1).f0), .int .i64 ((rd_T63 l0 x9_1).f1), .int .i64 ((rd_T63 l0 x9_1).f2), .int .i64 ((rd_T63 l0 x9_1).f3)] 63 (0, 0)) (by (with_reducible repeat first | apply blk_drewN | apply blk_drew | apply blk_alloc); exact BK524.out)) : gb524 ≠ gb531)); have n6_ := Aside0.mk ((by rw [hg]; exact Nat.ne_of_gt (blk_lt (g := gb524) (o := .cells #[.int .i64 ((rd_T63 l0 x9_1).f0), .int .i64 ((rd_T63 l0 x9_1).f1), .int .i64 ((rd_T63 l0 x9_1).f2), .int .i64 ((rd_T63 l0 x9_1).f3)] 63 (0, 0)) (by (with_reducible repeat first | apply blk_drewN | apply blk_drew | apply blk_alloc); exact BK524.out)) : gb531 ≠ gb524)); clear BK524; clear HB; have BK524 := n0_; have HB := n1_; have BK531 := n2_; have GW531 := n3_; have GE531 := n4_; have NB524_531 := n5_; have NB531_524 := n6_; clear n0_ n1_ n2_ n3_ n4_ n5_ n6_; clear hb hbox hg; have hnb19 := NB531_524.out; have hnc19 := NB524_531.out; have hcz20_0 : w18.cell? ⟨gb531, 0, none⟩ = some (.int .i64 0) := (blk_cell BK531.out 0).trans rfl; have hcz20_1 : w18.cell? ⟨gb531, 1, none⟩ = some (.int .i64 0) := (blk_cell BK531.out 1).trans rfl; have hcz20_2 : w18.cell? ⟨gb531, 2, none⟩ = some (.int .i64 0) := (blk_cell BK531.out 2).trans rfl; have hcz20_3 : w18.cell? ⟨gb531, 3, none⟩ = some (.int .i64 0) := (blk_cell BK531.out 3).trans rfl; have hfz20_0 := blk_frozen BK531.out 0; have hfz20_1 := blk_frozen BK531.out 1; have hfz20_2 := blk_frozen BK531.out 2; have hfz20_3 := blk_frozen BK531.out 3; have hcz21_0 : w18.cell? ⟨gb524, 0, none⟩ = some (.int .i64 ((rd_T63 l0 x9_1).f0)) := (blk_cell BK524.out 0).trans rfl; have hcz21_1 : w18.cell? ⟨gb524, 1, none⟩ = some (.int .i64 ((rd_T63 l0 x9_1).f1)) := (blk_cell BK524.out 1).trans rfl; have hcz21_2 : w18.cell? ⟨gb524, 2, none⟩ = some (.int .i64 ((rd_T63 l0 x9_1).f2)) := (blk_cell BK524.out 2).trans rfl; have hcz21_3 : w18.cell? ⟨gb524, 3, none⟩ = some (.int .i64 ((rd_T63 l0 x9_1).f3)) := (blk_cell BK524.out 3).trans rfl; have hfz21_0 := blk_frozen BK524.out 0; have hfz21_1 := blk_frozen BK524.out 1; have hfz21_2 := blk_frozen BK524.out 2; have hfz21_3 := blk_frozen BK524.out 3) | ((with_reducible refine gate_callee (f := 52) rfl ?_); refine goesL_ (some 27) rfl rfl Try.func52 (by kernel_rfl) rfl #[.agg #[.int .i64 ((rd_T63 l0 x9_1).f0), .int .i64 ((rd_T63 l0 x9_1).f1), .int .i64 ((rd_T63 l0 x9_1).f2), .int .i64 ((rd_T63 l0 x9_1).f3)], .agg #[.int .i64 ((rd_T63 y526 x21_2).f0), .int .i64 ((rd_T63 y526 x21_2).f1), .int .i64 ((rd_T63 y526 x21_2).f2), .int .i64 ((rd_T63 y526 x21_2).f3)]] rfl (by (try simp only [List.map_toArray, List.map_cons, List.map_nil]); first | done | rfl | (simp only [List.length_drop, List.length_take]; rfl)) ?_; (with_reducible refine (plane_Meets.calls ((rd_T63 l0 x9_1).f0) ((rd_T63 l0 x9_1).f1) ((rd_T63 l0 x9_1).f2) ((rd_T63 l0 x9_1).f3) ((rd_T63 y526 x21_2).f0) ((rd_T63 y526 x21_2).f1) ((rd_T63 y526 x21_2).f2) ((rd_T63 y526 x21_2).f3) true _ A16.out).mono ?_); rintro e w22 ⟨rfl, hb⟩; refine ⟨_, rfl, ?_⟩; have n0_ := Aside0.mk (blk_below (g := gb524) (o := .cells #[.int .i64 ((rd_T63 l0 x9_1).f0), .int .i64 ((rd_T63 l0 x9_1).f1), .int .i64 ((rd_T63 l0 x9_1).f2), .int .i64 ((rd_T63 l0 x9_1).f3)] 63 (0, 0)) (by (with_reducible repeat first | apply blk_drewN | apply blk_drew | apply blk_alloc); refine blk_far ?_ NB524_531.out _; (with_reducible repeat first | apply blk_drewN | apply blk_drew | apply blk_alloc); refine blk_far ?_ NB524_531.out _; (with_reducible repeat first | apply blk_drewN | apply blk_drew | apply blk_alloc); refine blk_far ?_ NB524_531.out _; (with_reducible repeat first | apply blk_drewN | apply blk_drew | apply blk_alloc); refine blk_far ?_ NB524_531.out _; (with_reducible repeat first | apply blk_drewN | apply blk_drew | apply blk_alloc); exact BK524.out) hb); have n1_ := Aside0.mk (blk_below (g := gb531) (o := .cells #[.int .i64 ((rd_T63 y526 x21_2).f0), .int .i64 ((rd_T63 y526 x21_2).f1), .int .i64 ((rd_T63 y526 x21_2).f2), .int .i64 ((rd_T63 y526 x21_2).f3)] 63 (0, 0)) (by (with_reducible repeat first | apply blk_drewN | apply blk_drew | apply blk_alloc); refine blk_put (cs := #[.int .i64 ((rd_T63 y526 x21_2).f0), .int .i64 ((rd_T63 y526 x21_2).f1), .int .i64 ((rd_T63 y526 x21_2).f2), .int .i64 0]) ?_ 3 _ rfl; (with_reducible repeat first | apply blk_drewN | apply blk_drew | apply blk_alloc); refine blk_put (cs := #[.int .i64 ((rd_T63 y526 x21_2).f0), .int .i64 ((rd_T63 y526 x21_2).f1), .int .i64 0, .int .i64 0]) ?_ 2 _ rfl; (with_reducible repeat first | apply blk_drewN | apply blk_drew | apply blk_alloc); refine blk_put (cs := #[.int .i64 ((rd_T63 y526 x21_2).f0), .int .i64 0, .int .i64 0, .int .i64 0]) ?_ 1 _ rfl; (with_reducible repeat first | apply blk_drewN | apply blk_drew | apply blk_alloc); refine blk_put (cs := #[.int .i64 0, .int .i64 0, .int .i64 0, .int .i64 0]) ?_ 0 _ rfl; (with_reducible repeat first | apply blk_drewN | apply blk_drew | apply blk_alloc); exact BK531.out) hb); have n2_ := Aside0.mk (below_step (by repeat (first | (with_reducible first | exact HB.out | apply below_alloc | apply pw_below_drewN | apply below_drew1 | refine below_set ?_ GE524.out | refine below_set ?_ GE531.out) | exact HB.out)) hb); clear BK524; clear BK531; clear HB; have BK524 := n0_; have BK531 := n1_; have HB := n2_; clear n0_ n1_ n2_; (try clear hb); (try clear hb2); (try clear hk); (try clear hi)))
                            go_ret
                            exact ⟨by first | rfl | (simp [errW_none, errW_some] <;> rfl) | (simp [*, errW_none, errW_some] <;> rfl), by repeat (first | (with_reducible first | exact HB.out | apply below_alloc | apply pw_below_drewN | apply below_drew1 | refine below_set ?_ GE524.out | refine below_set ?_ GE531.out) | exact HB.out)⟩
                          · replace c17 := Bool.eq_false_iff.mpr c17
                            subst c17
                            have H1 : (plane_Apart.l1 k2 l0 l0 (l0.length : Int) x9_1 y526 (y526.length : Int) (wrap64 (x21_2 + 1)) ((rd_T63 l0 x9_1).f0) ((rd_T63 l0 x9_1).f1) ((rd_T63 l0 x9_1).f2) ((rd_T63 l0 x9_1).f3)) = some r := by rw [if_neg (show ¬ (false = true) by decide)] at H; exact H
                            clear H
                            have H := H1
                            clear H1
                            have H' := Aside0.mk H
                            clear H
                            have p530 : 0 ≤ (x21_2 : Int) := of_decide_eq_true (by first | (with_reducible assumption) | assumption)
                            have q530 : x21_2 < (y526.length : Int) := of_decide_eq_true (by first | (with_reducible assumption) | assumption)
                            obtain ⟨ad530, e530, hx530_0, hx530_1, hx530_2, hx530_3⟩ := at_T63 HR529.out x21_2 p530 q530
                            obtain rfl : ad523 = ad530 := (by injection e530)
                            replace hx530_0 := (HB.out.cell (World.block_lt_of_cell? w _ hx530_0)).trans hx530_0
                            replace hx530_1 := (HB.out.cell (World.block_lt_of_cell? w _ hx530_1)).trans hx530_1
                            replace hx530_2 := (HB.out.cell (World.block_lt_of_cell? w _ hx530_2)).trans hx530_2
                            replace hx530_3 := (HB.out.cell (World.block_lt_of_cell? w _ hx530_3)).trans hx530_3
                            replace p530 := eq_true p530
                            replace q530 := eq_true q530
                            go_wp2_with (first | ((with_reducible refine gate_dst (N := 6) rfl ?_); refine box_event ?hg (N := 6) ?hd (cs := #[.int .i64 0, .int .i64 0, .int .i64 0, .int .i64 0]) (t := 63) ?hr ?_; (case hd => rfl); (case hg => rfl); (case hr => first | (go_simp; done) | (go_simp; rfl)); intro gb531 hg w23 hbox hb; have n0_ := Aside0.mk (blk_below (g := gb524) (o := .cells #[.int .i64 ((rd_T63 l0 x9_1).f0), .int .i64 ((rd_T63 l0 x9_1).f1), .int .i64 ((rd_T63 l0 x9_1).f2), .int .i64 ((rd_T63 l0 x9_1).f3)] 63 (0, 0)) (by (with_reducible repeat first | apply blk_drewN | apply blk_drew | apply blk_alloc); exact BK524.out) hb); have n1_ := Aside0.mk (below_step (by repeat (first | (with_reducible first | exact HB.out | apply below_alloc | apply pw_below_drewN | apply below_drew1 | refine below_set ?_ GE524.out) | exact HB.out)) hb); have n2_ := Aside0.mk (hbox); have n3_ := Aside0.mk ((by rw [hg]; exact (below_size (by repeat (first | (with_reducible first | exact HB.out | apply below_alloc | apply pw_below_drewN | apply below_drew1 | refine below_set ?_ GE524.out) | exact HB.out))) : w.heap.size ≤ gb531)); have n4_ := Aside0.mk ((by rw [hg]; exact (below_size (by repeat (first | (with_reducible first | exact HB.out | apply below_alloc | apply pw_below_drewN | apply below_drew1 | refine below_set ?_ GE524.out) | exact HB.out))) : w.heap.size ≤ gb531)); have n5_ := Aside0.mk ((by rw [hg]; exact Nat.ne_of_lt (blk_lt (g := gb524) (o := .cells #[.int .i64 ((rd_T63 l0 x9_1).f0), .int .i64 ((rd_T63 l0 x9_1).f1), .int .i64 ((rd_T63 l0 x9_1).f2), .int .i64 ((rd_T63 l0 x9_1).f3)] 63 (0, 0)) (by (with_reducible repeat first | apply blk_drewN | apply blk_drew | apply blk_alloc); exact BK524.out)) : gb524 ≠ gb531)); have n6_ := Aside0.mk ((by rw [hg]; exact Nat.ne_of_gt (blk_lt (g := gb524) (o := .cells #[.int .i64 ((rd_T63 l0 x9_1).f0), .int .i64 ((rd_T63 l0 x9_1).f1), .int .i64 ((rd_T63 l0 x9_1).f2), .int .i64 ((rd_T63 l0 x9_1).f3)] 63 (0, 0)) (by (with_reducible repeat first | apply blk_drewN | apply blk_drew | apply blk_alloc); exact BK524.out)) : gb531 ≠ gb524)); clear BK524; clear HB; have BK524 := n0_; have HB := n1_; have BK531 := n2_; have GW531 := n3_; have GE531 := n4_; have NB524_531 := n5_; have NB531_524 := n6_; clear n0_ n1_ n2_ n3_ n4_ n5_ n6_; clear hb hbox hg; have hnb24 := NB531_524.out; have hnc24 := NB524_531.out; have hcz25_0 : w23.cell? ⟨gb531, 0, none⟩ = some (.int .i64 0) := (blk_cell BK531.out 0).trans rfl; have hcz25_1 : w23.cell? ⟨gb531, 1, none⟩ = some (.int .i64 0) := (blk_cell BK531.out 1).trans rfl; have hcz25_2 : w23.cell? ⟨gb531, 2, none⟩ = some (.int .i64 0) := (blk_cell BK531.out 2).trans rfl; have hcz25_3 : w23.cell? ⟨gb531, 3, none⟩ = some (.int .i64 0) := (blk_cell BK531.out 3).trans rfl; have hfz25_0 := blk_frozen BK531.out 0; have hfz25_1 := blk_frozen BK531.out 1; have hfz25_2 := blk_frozen BK531.out 2; have hfz25_3 := blk_frozen BK531.out 3; have hcz26_0 : w23.cell? ⟨gb524, 0, none⟩ = some (.int .i64 ((rd_T63 l0 x9_1).f0)) := (blk_cell BK524.out 0).trans rfl; have hcz26_1 : w23.cell? ⟨gb524, 1, none⟩ = some (.int .i64 ((rd_T63 l0 x9_1).f1)) := (blk_cell BK524.out 1).trans rfl; have hcz26_2 : w23.cell? ⟨gb524, 2, none⟩ = some (.int .i64 ((rd_T63 l0 x9_1).f2)) := (blk_cell BK524.out 2).trans rfl; have hcz26_3 : w23.cell? ⟨gb524, 3, none⟩ = some (.int .i64 ((rd_T63 l0 x9_1).f3)) := (blk_cell BK524.out 3).trans rfl; have hfz26_0 := blk_frozen BK524.out 0; have hfz26_1 := blk_frozen BK524.out 1; have hfz26_2 := blk_frozen BK524.out 2; have hfz26_3 := blk_frozen BK524.out 3) | ((with_reducible refine gate_callee (f := 52) rfl ?_); refine goesL_ (some 27) rfl rfl Try.func52 (by kernel_rfl) rfl #[.agg #[.int .i64 ((rd_T63 l0 x9_1).f0), .int .i64 ((rd_T63 l0 x9_1).f1), .int .i64 ((rd_T63 l0 x9_1).f2), .int .i64 ((rd_T63 l0 x9_1).f3)], .agg #[.int .i64 ((rd_T63 y526 x21_2).f0), .int .i64 ((rd_T63 y526 x21_2).f1), .int .i64 ((rd_T63 y526 x21_2).f2), .int .i64 ((rd_T63 y526 x21_2).f3)]] rfl (by (try simp only [List.map_toArray, List.map_cons, List.map_nil]); first | done | rfl | (simp only [List.length_drop, List.length_take]; rfl)) ?_; (with_reducible refine (plane_Meets.calls ((rd_T63 l0 x9_1).f0) ((rd_T63 l0 x9_1).f1) ((rd_T63 l0 x9_1).f2) ((rd_T63 l0 x9_1).f3) ((rd_T63 y526 x21_2).f0) ((rd_T63 y526 x21_2).f1) ((rd_T63 y526 x21_2).f2) ((rd_T63 y526 x21_2).f3) false _ A16.out).mono ?_); rintro e w27 ⟨rfl, hb⟩; refine ⟨_, rfl, ?_⟩; have n0_ := Aside0.mk (blk_below (g := gb524) (o := .cells #[.int .i64 ((rd_T63 l0 x9_1).f0), .int .i64 ((rd_T63 l0 x9_1).f1), .int .i64 ((rd_T63 l0 x9_1).f2), .int .i64 ((rd_T63 l0 x9_1).f3)] 63 (0, 0)) (by (with_reducible repeat first | apply blk_drewN | apply blk_drew | apply blk_alloc); refine blk_far ?_ NB524_531.out _; (with_reducible repeat first | apply blk_drewN | apply blk_drew | apply blk_alloc); refine blk_far ?_ NB524_531.out _; (with_reducible repeat first | apply blk_drewN | apply blk_drew | apply blk_alloc); refine blk_far ?_ NB524_531.out _; (with_reducible repeat first | apply blk_drewN | apply blk_drew | apply blk_alloc); refine blk_far ?_ NB524_531.out _; (with_reducible repeat first | apply blk_drewN | apply blk_drew | apply blk_alloc); exact BK524.out) hb); have n1_ := Aside0.mk (blk_below (g := gb531) (o := .cells #[.int .i64 ((rd_T63 y526 x21_2).f0), .int .i64 ((rd_T63 y526 x21_2).f1), .int .i64 ((rd_T63 y526 x21_2).f2), .int .i64 ((rd_T63 y526 x21_2).f3)] 63 (0, 0)) (by (with_reducible repeat first | apply blk_drewN | apply blk_drew | apply blk_alloc); refine blk_put (cs := #[.int .i64 ((rd_T63 y526 x21_2).f0), .int .i64 ((rd_T63 y526 x21_2).f1), .int .i64 ((rd_T63 y526 x21_2).f2), .int .i64 0]) ?_ 3 _ rfl; (with_reducible repeat first | apply blk_drewN | apply blk_drew | apply blk_alloc); refine blk_put (cs := #[.int .i64 ((rd_T63 y526 x21_2).f0), .int .i64 ((rd_T63 y526 x21_2).f1), .int .i64 0, .int .i64 0]) ?_ 2 _ rfl; (with_reducible repeat first | apply blk_drewN | apply blk_drew | apply blk_alloc); refine blk_put (cs := #[.int .i64 ((rd_T63 y526 x21_2).f0), .int .i64 0, .int .i64 0, .int .i64 0]) ?_ 1 _ rfl; (with_reducible repeat first | apply blk_drewN | apply blk_drew | apply blk_alloc); refine blk_put (cs := #[.int .i64 0, .int .i64 0, .int .i64 0, .int .i64 0]) ?_ 0 _ rfl; (with_reducible repeat first | apply blk_drewN | apply blk_drew | apply blk_alloc); exact BK531.out) hb); have n2_ := Aside0.mk (below_step (by repeat (first | (with_reducible first | exact HB.out | apply below_alloc | apply pw_below_drewN | apply below_drew1 | refine below_set ?_ GE524.out | refine below_set ?_ GE531.out) | exact HB.out)) hb); clear BK524; clear BK531; clear HB; have BK524 := n0_; have BK531 := n1_; have HB := n2_; clear n0_ n1_ n2_; (try clear hb); (try clear hb2); (try clear hk); (try clear hi)))
                            go_roundg k2
                            case measure => have := HK1.out; have := HK2.out; omega
                            case rel => exact ⟨(wrap64 (x21_2 + 1)), (by first | rfl | (simp; done) | (simp [*]; done)), H', ⟨by have := HK1.out; have := HK2.out; omega⟩, ⟨by (with_reducible repeat first | apply blk_drewN | apply blk_drew | apply blk_alloc); exact BK524.out⟩, ⟨by repeat (first | (with_reducible first | exact HB.out | apply below_alloc | apply pw_below_drewN | apply below_drew1 | refine below_set ?_ GE524.out | refine below_set ?_ GE531.out) | exact HB.out)⟩⟩
                        · rw [if_neg c15] at H
                          exact absurd H (by simp)
                      · rw [if_neg c14] at H
                        exact absurd H (by simp)
                    · rw [if_neg c13] at H
                      have c13b0 : decide (x21_2 < (y526.length : Int)) = false := decide_eq_false c13
                      clear c13
                      have H' := Aside0.mk H
                      clear H
                      go_wp2
                      go_roundg k2
                      case measure => have := HK1.out; have := HK2.out; omega
                      case rel => exact ⟨(wrap64 (x9_1 + 1)), (by first | rfl | (simp; done) | (simp [*]; done)), H', ⟨by have := HK1.out; have := HK2.out; omega⟩, ⟨by repeat (first | (with_reducible first | exact HB.out | apply below_alloc | apply pw_below_drewN | apply below_drew1 | refine below_set ?_ GE524.out) | exact HB.out)⟩⟩
              · rw [if_neg c8] at H
                exact absurd H (by simp)
            · replace c6 := Bool.eq_false_iff.mpr c6
              subst c6
              have H1 : (some false) = some r := by rw [if_neg (show ¬ (false = true) by decide)] at H; exact H
              clear H
              have H := H1
              clear H1
              obtain rfl := Option.some.inj H
              have p523 : 0 ≤ (x9_1 : Int) := of_decide_eq_true (by first | (with_reducible assumption) | assumption)
              have q523 : x9_1 < (l0.length : Int) := of_decide_eq_true (by first | (with_reducible assumption) | assumption)
              obtain ⟨ad523, e523, hx523_0, hx523_1, hx523_2, hx523_3⟩ := at_T63 HR0.out x9_1 p523 q523
              cases e523
              replace hx523_0 := (HB.out.cell (World.block_lt_of_cell? w _ hx523_0)).trans hx523_0
              replace hx523_1 := (HB.out.cell (World.block_lt_of_cell? w _ hx523_1)).trans hx523_1
              replace hx523_2 := (HB.out.cell (World.block_lt_of_cell? w _ hx523_2)).trans hx523_2
              replace hx523_3 := (HB.out.cell (World.block_lt_of_cell? w _ hx523_3)).trans hx523_3
              replace p523 := eq_true p523
              replace q523 := eq_true q523
              go_wp2_with (first | ((with_reducible refine gate_dst (N := 4) rfl ?_); refine box_event ?hg (N := 4) ?hd (cs := #[.int .i64 0, .int .i64 0, .int .i64 0, .int .i64 0]) (t := 63) ?hr ?_; (case hd => rfl); (case hg => rfl); (case hr => first | (go_simp; done) | (go_simp; rfl)); intro gb524 hg w28 hbox hb; have n0_ := Aside0.mk (below_step (by repeat (first | (with_reducible first | exact HB.out | apply below_alloc | apply pw_below_drewN | apply below_drew1) | exact HB.out)) hb); have n1_ := Aside0.mk (hbox); have n2_ := Aside0.mk ((by rw [hg]; exact (below_size (by repeat (first | (with_reducible first | exact HB.out | apply below_alloc | apply pw_below_drewN | apply below_drew1) | exact HB.out))) : w.heap.size ≤ gb524)); have n3_ := Aside0.mk ((by rw [hg]; exact (below_size (by repeat (first | (with_reducible first | exact HB.out | apply below_alloc | apply pw_below_drewN | apply below_drew1) | exact HB.out))) : w.heap.size ≤ gb524)); clear HB; have HB := n0_; have BK524 := n1_; have GW524 := n2_; have GE524 := n3_; clear n0_ n1_ n2_ n3_; clear hb hbox hg; have hcz29_0 : w28.cell? ⟨gb524, 0, none⟩ = some (.int .i64 0) := (blk_cell BK524.out 0).trans rfl; have hcz29_1 : w28.cell? ⟨gb524, 1, none⟩ = some (.int .i64 0) := (blk_cell BK524.out 1).trans rfl; have hcz29_2 : w28.cell? ⟨gb524, 2, none⟩ = some (.int .i64 0) := (blk_cell BK524.out 2).trans rfl; have hcz29_3 : w28.cell? ⟨gb524, 3, none⟩ = some (.int .i64 0) := (blk_cell BK524.out 3).trans rfl; have hfz29_0 := blk_frozen BK524.out 0; have hfz29_1 := blk_frozen BK524.out 1; have hfz29_2 := blk_frozen BK524.out 2; have hfz29_3 := blk_frozen BK524.out 3) | ((with_reducible refine gate_callee (f := 51) rfl ?_); refine goesL_ (some 15) rfl rfl Try.func51 (by kernel_rfl) rfl #[.agg #[.int .i64 ((rd_T63 l0 x9_1).f0), .int .i64 ((rd_T63 l0 x9_1).f1), .int .i64 ((rd_T63 l0 x9_1).f2), .int .i64 ((rd_T63 l0 x9_1).f3)]] rfl (by (try simp only [List.map_toArray, List.map_cons, List.map_nil]); first | done | rfl | (simp only [List.length_drop, List.length_take]; rfl)) ?_; (with_reducible refine (plane_Good.calls ((rd_T63 l0 x9_1).f0) ((rd_T63 l0 x9_1).f1) ((rd_T63 l0 x9_1).f2) ((rd_T63 l0 x9_1).f3) false _ A5.out).mono ?_); rintro e w30 ⟨rfl, hb⟩; refine ⟨_, rfl, ?_⟩; have n0_ := Aside0.mk (blk_below (g := gb524) (o := .cells #[.int .i64 ((rd_T63 l0 x9_1).f0), .int .i64 ((rd_T63 l0 x9_1).f1), .int .i64 ((rd_T63 l0 x9_1).f2), .int .i64 ((rd_T63 l0 x9_1).f3)] 63 (0, 0)) (by (with_reducible repeat first | apply blk_drewN | apply blk_drew | apply blk_alloc); refine blk_put (cs := #[.int .i64 ((rd_T63 l0 x9_1).f0), .int .i64 ((rd_T63 l0 x9_1).f1), .int .i64 ((rd_T63 l0 x9_1).f2), .int .i64 0]) ?_ 3 _ rfl; (with_reducible repeat first | apply blk_drewN | apply blk_drew | apply blk_alloc); refine blk_put (cs := #[.int .i64 ((rd_T63 l0 x9_1).f0), .int .i64 ((rd_T63 l0 x9_1).f1), .int .i64 0, .int .i64 0]) ?_ 2 _ rfl; (with_reducible repeat first | apply blk_drewN | apply blk_drew | apply blk_alloc); refine blk_put (cs := #[.int .i64 ((rd_T63 l0 x9_1).f0), .int .i64 0, .int .i64 0, .int .i64 0]) ?_ 1 _ rfl; (with_reducible repeat first | apply blk_drewN | apply blk_drew | apply blk_alloc); refine blk_put (cs := #[.int .i64 0, .int .i64 0, .int .i64 0, .int .i64 0]) ?_ 0 _ rfl; (with_reducible repeat first | apply blk_drewN | apply blk_drew | apply blk_alloc); exact BK524.out) hb); have n1_ := Aside0.mk (below_step (by repeat (first | (with_reducible first | exact HB.out | apply below_alloc | apply pw_below_drewN | apply below_drew1 | refine below_set ?_ GE524.out) | exact HB.out)) hb); clear BK524; clear HB; have BK524 := n0_; have HB := n1_; clear n0_ n1_; (try clear hb); (try clear hb2); (try clear hk); (try clear hi)))
              go_ret
              exact ⟨by first | rfl | (simp [errW_none, errW_some] <;> rfl) | (simp [*, errW_none, errW_some] <;> rfl), by repeat (first | (with_reducible first | exact HB.out | apply below_alloc | apply pw_below_drewN | apply below_drew1 | refine below_set ?_ GE524.out) | exact HB.out)⟩
          · rw [if_neg c4] at H
            exact absurd H (by simp)
        · rw [if_neg c3] at H
          exact absurd H (by simp)
      · rw [if_neg c2] at H
        have c2b0 : decide (x9_1 < (l0.length : Int)) = false := decide_eq_false c2
        clear c2
        obtain rfl := Option.some.inj H
        go_wp2
        go_ret
        exact ⟨by first | rfl | (simp [errW_none, errW_some] <;> rfl) | (simp [*, errW_none, errW_some] <;> rfl), by repeat (first | (with_reducible first | exact HB.out | apply below_alloc | apply pw_below_drewN | apply below_drew1) | exact HB.out)⟩

end Go.Proofs.Ytkhfgflcanmefaa.PAll
end
section
namespace Go.Proofs.Ytkhfgflcanmefaa.PAll
open Go.RowKit Go.Proofs.YtkhfgflcanmefaaW.PrintWords Go.Proofs.YtkhfgflcanmefaaW.PrintLast Go.Proofs.YtkhfgflcanmefaaW.PrintMore
attribute [local go_sem] max2_int min2_int max_two min_two max_three min_three max_four min_four   -- for this text's walks alone
set_option linter.unusedVariables false
set_option linter.unusedSimpArgs false

mutual
def prebendlaw19_JobApart.l0 [DW] : Nat → List (S32) → Int → List (S32) → Int → Int → Int → Option (Bool)
 | 0, _, _, _, _, _, _ => none
 | k + 1, x0, x1, x5, x6, x7, x8 => if x8 < (x0.length : Int) then (prebendlaw19_JobApart.j1 k x0 x1 x5 x6 x7 x8 (decide (x8 < 16))) else (prebendlaw19_JobApart.j1 k x0 x1 x5 x6 x7 x8 false)
def prebendlaw19_JobApart.j1 [DW] : Nat → List (S32) → Int → List (S32) → Int → Int → Int → Bool → Option (Bool)
 | 0, _, _, _, _, _, _, _ => none
 | k + 1, x0, x1, x5, x6, x7, x8, x20 => if x20 = true then (if 0 ≤ x8 then (if x8 < (x0.length : Int) then ((job_GoodD.f ((rd_T32 x0 x8).f0) ((rd_T32 x0 x8).f1) ((rd_T32 x0 x8).f2) ((rd_T32 x0 x8).f3) ((rd_T32 x0 x8).f4) ((rd_T32 x0 x8).f5) ((rd_T32 x0 x8).f6) ((rd_T32 x0 x8).f7) ((rd_T32 x0 x8).f8) ((rd_T32 x0 x8).f9) ((rd_T32 x0 x8).f10) ((rd_T32 x0 x8).f11)).bind fun t538 => (if t538 = true then (if ((rd_T32 x0 x8).f7) = 3 then (if ((rd_T32 x0 x8).f8) ≤ (wrap64 (x1)) then (if (wrap64 (((rd_T32 x0 x8).f8) + ((rd_T32 x0 x8).f3))) > (wrap64 (x1)) then (if x5.length < 1256584717458 then (prebendlaw19_JobApart.l0 k x0 x1 (x5 ++ [(⟨(rd_T32 x0 x8).f0, (rd_T32 x0 x8).f1, (rd_T32 x0 x8).f2, (rd_T32 x0 x8).f3, (rd_T32 x0 x8).f4, (rd_T32 x0 x8).f5, (rd_T32 x0 x8).f6, (rd_T32 x0 x8).f7, (rd_T32 x0 x8).f8, (rd_T32 x0 x8).f9, (rd_T32 x0 x8).f10, (rd_T32 x0 x8).f11⟩ : S32)]) (Go.bits .or .i64 x6 ((rd_T32 x0 x8).f9)) (wrap64 (x7 + ((rd_T32 x0 x8).f2))) (wrap64 (x8 + 1))) else (none)) else (prebendlaw19_JobApart.l0 k x0 x1 x5 x6 x7 (wrap64 (x8 + 1)))) else (prebendlaw19_JobApart.l0 k x0 x1 x5 x6 x7 (wrap64 (x8 + 1)))) else (prebendlaw19_JobApart.l0 k x0 x1 x5 x6 x7 (wrap64 (x8 + 1)))) else (prebendlaw19_JobApart.l0 k x0 x1 x5 x6 x7 (wrap64 (x8 + 1))))) else (none)) else (none)) else (prebendlaw19_JobApart.l1 k x1 x5 x6 x7 0 0)
def prebendlaw19_JobApart.l1 [DW] : Nat → Int → List (S32) → Int → Int → Int → Int → Option (Bool)
 | 0, _, _, _, _, _, _ => none
 | k + 1, x1, x5, x6, x7, x10, x11 => if x11 < 32 then (if 0 ≤ (IntKind.u64.wrap (x11)) then (prebendlaw19_JobApart.l1 k x1 x5 x6 x7 (wrap64 (x10 + (Go.bits .and .i64 (shr .i64 x6 (IntKind.u64.wrap (x11))) 1))) (wrap64 (x11 + 1))) else (none)) else ((prebendlaw19_awake.f k).bind fun t542 => (if t542 = true then ((job_Boxes.f k x5).bind fun t543 => ((plane_Apart.f k t543).bind fun t546 => (if (t546 == (x10 == x7)) = true then ((job_Mask.f k x5).bind fun t547 => (if t547 = x6 then ((job_Due.f k x5 (wrap64 (x1))).bind fun t548 => (some ((t548.length : Int) == 0))) else (some false))) else (some false)))) else (some false)))
end
def prebendlaw19_JobApart.f [DW] (k : Nat) (l0 : List (S32)) (a1 : Int) : Option (Bool) := prebendlaw19_JobApart.l0 k l0 a1 (([] : List (S32))) 0 0 0
theorem prebendlaw19_JobApart.mono_l [DW] : ∀ k, (∀ y0 y1 y2 y3 y4 y5, LeO (prebendlaw19_JobApart.l0 k y0 y1 y2 y3 y4 y5) (prebendlaw19_JobApart.l0 (k + 1) y0 y1 y2 y3 y4 y5)) ∧ (∀ y0 y1 y2 y3 y4 y5 y6, LeO (prebendlaw19_JobApart.j1 k y0 y1 y2 y3 y4 y5 y6) (prebendlaw19_JobApart.j1 (k + 1) y0 y1 y2 y3 y4 y5 y6)) ∧ (∀ y0 y1 y2 y3 y4 y5, LeO (prebendlaw19_JobApart.l1 k y0 y1 y2 y3 y4 y5) (prebendlaw19_JobApart.l1 (k + 1) y0 y1 y2 y3 y4 y5))
 | 0 => ⟨fun _ _ _ _ _ _ r h => by simp [prebendlaw19_JobApart.l0] at h, fun _ _ _ _ _ _ _ r h => by simp [prebendlaw19_JobApart.j1] at h, fun _ _ _ _ _ _ r h => by simp [prebendlaw19_JobApart.l1] at h⟩
 | k + 1 => by
  obtain ⟨ih0, ih1, ih2⟩ := prebendlaw19_JobApart.mono_l k
  refine ⟨?_, ?_, ?_⟩
  ·intro y0 y1 y2 y3 y4 y5
   unfold prebendlaw19_JobApart.l0
   repeat' first
   | (with_reducible exact ih0 _ _ _ _ _ _)
   | (with_reducible exact ih1 _ _ _ _ _ _ _)
   | (with_reducible exact ih2 _ _ _ _ _ _)
   | (with_reducible exact job_Boxes.mono _ _)
   | (with_reducible exact job_Due.mono _ _ _)
   | (with_reducible exact job_Mask.mono _ _)
   | (with_reducible exact plane_Apart.mono _ _)
   | (with_reducible exact prebendlaw19_awake.mono _)
   | (with_reducible exact LeO.refl _)
   | (with_reducible exact LeO.none _)
   | (with_reducible refine LeO.ite ?_ ?_)
   | (with_reducible refine LeO.bind ?_ (fun _ => ?_))
   | exact ih0 _ _ _ _ _ _
   | exact ih1 _ _ _ _ _ _ _
   | exact ih2 _ _ _ _ _ _
   | exact job_Boxes.mono _ _
   | exact job_Due.mono _ _ _
   | exact job_Mask.mono _ _
   | exact plane_Apart.mono _ _
   | exact prebendlaw19_awake.mono _
   | exact LeO.none _
   | refine LeO.ite ?_ ?_
   | refine LeO.bind ?_ (fun _ => ?_)
  ·intro y0 y1 y2 y3 y4 y5 y6
   unfold prebendlaw19_JobApart.j1
   repeat' first
   | (with_reducible exact ih0 _ _ _ _ _ _)
   | (with_reducible exact ih1 _ _ _ _ _ _ _)
   | (with_reducible exact ih2 _ _ _ _ _ _)
   | (with_reducible exact job_Boxes.mono _ _)
   | (with_reducible exact job_Due.mono _ _ _)
   | (with_reducible exact job_Mask.mono _ _)
   | (with_reducible exact plane_Apart.mono _ _)
   | (with_reducible exact prebendlaw19_awake.mono _)
   | (with_reducible exact LeO.refl _)
   | (with_reducible exact LeO.none _)
   | (with_reducible refine LeO.ite ?_ ?_)
   | (with_reducible refine LeO.bind ?_ (fun _ => ?_))
   | exact ih0 _ _ _ _ _ _
   | exact ih1 _ _ _ _ _ _ _
   | exact ih2 _ _ _ _ _ _
   | exact job_Boxes.mono _ _
   | exact job_Due.mono _ _ _
   | exact job_Mask.mono _ _
   | exact plane_Apart.mono _ _
   | exact prebendlaw19_awake.mono _
   | exact LeO.none _
   | refine LeO.ite ?_ ?_
   | refine LeO.bind ?_ (fun _ => ?_)
  ·intro y0 y1 y2 y3 y4 y5
   unfold prebendlaw19_JobApart.l1
   repeat' first
   | (with_reducible exact ih0 _ _ _ _ _ _)
   | (with_reducible exact ih1 _ _ _ _ _ _ _)
   | (with_reducible exact ih2 _ _ _ _ _ _)
   | (with_reducible exact job_Boxes.mono _ _)
   | (with_reducible exact job_Due.mono _ _ _)
   | (with_reducible exact job_Mask.mono _ _)
   | (with_reducible exact plane_Apart.mono _ _)
   | (with_reducible exact prebendlaw19_awake.mono _)
   | (with_reducible exact LeO.refl _)
   | (with_reducible exact LeO.none _)
   | (with_reducible refine LeO.ite ?_ ?_)
   | (with_reducible refine LeO.bind ?_ (fun _ => ?_))
   | exact ih0 _ _ _ _ _ _
   | exact ih1 _ _ _ _ _ _ _
   | exact ih2 _ _ _ _ _ _
   | exact job_Boxes.mono _ _
   | exact job_Due.mono _ _ _
   | exact job_Mask.mono _ _
   | exact plane_Apart.mono _ _
   | exact prebendlaw19_awake.mono _
   | exact LeO.none _
   | refine LeO.ite ?_ ?_
   | refine LeO.bind ?_ (fun _ => ?_)
theorem prebendlaw19_JobApart.mono [DW] : ∀ a0 a1 k, LeO (prebendlaw19_JobApart.f k a0 a1) (prebendlaw19_JobApart.f (k + 1) a0 a1) := by
 intro a0 a1 k
 obtain ⟨ih0, ih1, ih2⟩ := prebendlaw19_JobApart.mono_l k
 unfold prebendlaw19_JobApart.f
 repeat' first
   | (with_reducible exact ih0 _ _ _ _ _ _)
   | (with_reducible exact ih1 _ _ _ _ _ _ _)
   | (with_reducible exact ih2 _ _ _ _ _ _)
   | (with_reducible exact job_Boxes.mono _ _)
   | (with_reducible exact job_Due.mono _ _ _)
   | (with_reducible exact job_Mask.mono _ _)
   | (with_reducible exact plane_Apart.mono _ _)
   | (with_reducible exact prebendlaw19_awake.mono _)
   | (with_reducible exact LeO.refl _)
   | (with_reducible exact LeO.none _)
   | (with_reducible refine LeO.ite ?_ ?_)
   | (with_reducible refine LeO.bind ?_ (fun _ => ?_))
   | exact ih0 _ _ _ _ _ _
   | exact ih1 _ _ _ _ _ _ _
   | exact ih2 _ _ _ _ _ _
   | exact job_Boxes.mono _ _
   | exact job_Due.mono _ _ _
   | exact job_Mask.mono _ _
   | exact plane_Apart.mono _ _
   | exact prebendlaw19_awake.mono _
   | exact LeO.none _
   | refine LeO.ite ?_ ?_
   | refine LeO.bind ?_ (fun _ => ?_)
set_option maxHeartbeats 8000000 in
set_option maxRecDepth 100000 in
theorem prebendlaw19_JobApart.calls [DW] (k : Nat) (A0 : Option Addr) (c0 : Nat) (l0 : List (S32)) (a1 : Int) (w : World) (hdw : DWAt w) (hr0 : Kd.C k32 w A0 l0.length l0) (hc0 : l0.length ≤ c0) (h : prebendlaw19_JobApart.f k l0 a1 = some true) :
  Calls Try.prog 8 #[.slice A0 l0.length c0, .int .u16 a1] w fun e w' => e = .returned (.bool true) ∧ Below w.heap.size w w' := by
 have hu32 := Try.underlying32
 have HR0 := Aside0.mk hr0
 have HC0 := Aside0.mk hc0
 clear hr0; clear hc0
 have HB := Aside0.mk (Below.refl w.heap.size w)
 have H : (prebendlaw19_JobApart.l0 k l0 a1 (([] : List (S32))) 0 0 0) = some true := h
 clear h
 obtain ⟨y533, hy533⟩ : ∃ y_ : List (S32), y_ = (([] : List (S32))) := ⟨_, rfl⟩
 replace H : (prebendlaw19_JobApart.l0 k l0 a1 y533 0 0 0) = some true := mH hy533 H
 have Ny533 := Aside0.mk hy533
 clear hy533
 have H' := Aside0.mk H
 clear H
 go_enter Try.func8, Try.ntmps8
 go_wp2_with (first | ((with_reducible refine gate_dst (N := 12) rfl ?_); refine Kd.R_lit k32 _ 32 ?hg (N := 12) ?hd (xs := ([] : List (S32))) (inner := []) (ok := fun _ => True) (okp := fun _ => True) ?hr ?hp (fun _ hk => hk) trivial (Below.refl _ _) (Nat.le_refl _) (by simp) ?_; (case hd => rfl); (case hg => rfl); (case hr => first | (go_simp; done) | (go_simp; rfl)); (case hp => exact (Reps.none _ _)); intro v534 w3 ho4 hb hg_ hnew_; clear hg_ hnew_; (first | rw [← Ny533.out] at ho4 | (simp only [Int.reduceToNat] at ho4; rw [← Ny533.out] at ho4)); have n0_ := Aside0.mk (Kd.R_lower ho4 (below_size (mB HB.out))); have n1_ := Aside0.mk (below_step (mB HB.out) hb); clear HB; have HO535 := n0_; have HB := n1_; clear n0_ n1_; clear hb ho4))
 repeat (go_quiet (fail); try go_wp2)
 go_loopg [5, 6, 7, 8] k (fun kq v5 v6 v7 v8 w' => ∃ (x5_1 : List (S32)) (x6_1 : Int) (x7_1 : Int) (x8_1 : Int), v6 = .int .i64 x6_1 ∧ v7 = .int .i64 x7_1 ∧ v8 = .int .i64 x8_1 ∧ Aside0 (prebendlaw19_JobApart.l0 kq l0 a1 x5_1 x6_1 x7_1 x8_1 = some true) ∧ Aside0 (kq ≤ k) ∧ Aside0 (Kd.R k32 32 w' w.heap.size (fun _ => True) v5 x5_1) ∧ Aside0 (Below w.heap.size w w'))
 case atStart => exact ⟨(y533), (0), (0), (0), ez, ez, ez, H', ⟨Nat.le_refl _⟩, ⟨mR HO535.out⟩, ⟨mB HB.out⟩⟩
 case round =>
  clear H'
  (try clear p2)
  obtain ⟨x5_1, x6_1, x7_1, x8_1, rfl, rfl, rfl, HA, HK1, HO_5, HB⟩ := hrel
  cases gk with
  | zero => exact absurd HA.out (by simp [prebendlaw19_JobApart.l0])
  | succ k1 =>
   have H := HA.out
   clear HA
   simp only [prebendlaw19_JobApart.l0] at H
   have HC5 := Aside0.mk H
   clear H
   go_upto_region 4 with (fail)
   repeat (go_quiet (fail); go_upto_region 4 with (fail))
   go_cut [20] (fun v20 wc => ∃ (kq : Nat) (x20_4 : Bool), v20 = .bool x20_4 ∧ Aside0 (prebendlaw19_JobApart.j1 kq l0 a1 x5_1 x6_1 x7_1 x8_1 x20_4 = some true) ∧ Aside0 (kq ≤ k1) ∧ Aside0 (Kd.R k32 32 wc w.heap.size (fun _ => True) u5 x5_1) ∧ Aside0 (Below w.heap.size w wc))
   case first =>
    have H := HC5.out
    clear HC5
    by_cases c6 : x8_1 < (l0.length : Int)
    ·rw [if_pos c6] at H
     have c6b0 : decide (x8_1 < (l0.length : Int)) = true := decide_eq_true c6
     clear c6
     (first | rw [c6b0] | (simp only [i64_w, i32_w]; rw [c6b0]) | skip)
     have H' := Aside0.mk H
     clear H
     go_wp2
     repeat (go_quiet (fail); try go_wp2)
     go_meet
     case rel => exact ⟨_, (decide (x8_1 < 16)), ez, H', ⟨by have := HK1.out; first | omega | exact Nat.le_refl _⟩, ⟨mR HO_5.out⟩, ⟨mB HB.out⟩⟩
    ·rw [if_neg c6] at H
     have c6b0 : decide (x8_1 < (l0.length : Int)) = false := decide_eq_false c6
     clear c6
     (first | rw [c6b0] | (simp only [i64_w, i32_w]; rw [c6b0]) | skip)
     have H' := Aside0.mk H
     clear H
     go_wp2
     repeat (go_quiet (fail); try go_wp2)
     go_meet
     case rel => exact ⟨_, (false), ez, H', ⟨by have := HK1.out; first | omega | exact Nat.le_refl _⟩, ⟨mR HO_5.out⟩, ⟨mB HB.out⟩⟩
   case rest =>
    clear HC5
    (try clear p2); (try clear c6); (try clear c6b0); (try clear p2)
    obtain ⟨kq, x20_4, rfl, HA, HJ4, HO_5, HB⟩ := hcut
    cases kq with
    | zero => exact absurd HA.out (by simp [prebendlaw19_JobApart.j1])
    | succ kj4 =>
     have H := HA.out
     clear HA
     simp only [prebendlaw19_JobApart.j1] at H
     by_cases c7 : x20_4 = true
     ·subst c7
      have H1 : (if 0 ≤ x8_1 then (if x8_1 < (l0.length : Int) then ((job_GoodD.f ((rd_T32 l0 x8_1).f0) ((rd_T32 l0 x8_1).f1) ((rd_T32 l0 x8_1).f2) ((rd_T32 l0 x8_1).f3) ((rd_T32 l0 x8_1).f4) ((rd_T32 l0 x8_1).f5) ((rd_T32 l0 x8_1).f6) ((rd_T32 l0 x8_1).f7) ((rd_T32 l0 x8_1).f8) ((rd_T32 l0 x8_1).f9) ((rd_T32 l0 x8_1).f10) ((rd_T32 l0 x8_1).f11)).bind fun t538 => (if t538 = true then (if ((rd_T32 l0 x8_1).f7) = 3 then (if ((rd_T32 l0 x8_1).f8) ≤ (wrap64 (a1)) then (if (wrap64 (((rd_T32 l0 x8_1).f8) + ((rd_T32 l0 x8_1).f3))) > (wrap64 (a1)) then (if x5_1.length < 1256584717458 then (prebendlaw19_JobApart.l0 kj4 l0 a1 (x5_1 ++ [(⟨(rd_T32 l0 x8_1).f0, (rd_T32 l0 x8_1).f1, (rd_T32 l0 x8_1).f2, (rd_T32 l0 x8_1).f3, (rd_T32 l0 x8_1).f4, (rd_T32 l0 x8_1).f5, (rd_T32 l0 x8_1).f6, (rd_T32 l0 x8_1).f7, (rd_T32 l0 x8_1).f8, (rd_T32 l0 x8_1).f9, (rd_T32 l0 x8_1).f10, (rd_T32 l0 x8_1).f11⟩ : S32)]) (Go.bits .or .i64 x6_1 ((rd_T32 l0 x8_1).f9)) (wrap64 (x7_1 + ((rd_T32 l0 x8_1).f2))) (wrap64 (x8_1 + 1))) else (none)) else (prebendlaw19_JobApart.l0 kj4 l0 a1 x5_1 x6_1 x7_1 (wrap64 (x8_1 + 1)))) else (prebendlaw19_JobApart.l0 kj4 l0 a1 x5_1 x6_1 x7_1 (wrap64 (x8_1 + 1)))) else (prebendlaw19_JobApart.l0 kj4 l0 a1 x5_1 x6_1 x7_1 (wrap64 (x8_1 + 1)))) else (prebendlaw19_JobApart.l0 kj4 l0 a1 x5_1 x6_1 x7_1 (wrap64 (x8_1 + 1))))) else (none)) else (none)) = some true := by rw [if_pos rfl] at H; exact H
      clear H
      have H := H1
      clear H1
      by_cases c8 : 0 ≤ x8_1
      ·rw [if_pos c8] at H
       have c8b0 : decide (0 ≤ x8_1) = true := decide_eq_true c8
       clear c8
       by_cases c9 : x8_1 < (l0.length : Int)
       ·rw [if_pos c9] at H
        have c9b0 : decide (x8_1 < (l0.length : Int)) = true := decide_eq_true c9
        clear c9
        replace H := Option.bind_eq_some_iff.mp H
        obtain ⟨t538, A100, H⟩ := H
        replace H : (if t538 = true then (if ((rd_T32 l0 x8_1).f7) = 3 then (if ((rd_T32 l0 x8_1).f8) ≤ (wrap64 (a1)) then (if (wrap64 (((rd_T32 l0 x8_1).f8) + ((rd_T32 l0 x8_1).f3))) > (wrap64 (a1)) then (if x5_1.length < 1256584717458 then (prebendlaw19_JobApart.l0 kj4 l0 a1 (x5_1 ++ [(⟨(rd_T32 l0 x8_1).f0, (rd_T32 l0 x8_1).f1, (rd_T32 l0 x8_1).f2, (rd_T32 l0 x8_1).f3, (rd_T32 l0 x8_1).f4, (rd_T32 l0 x8_1).f5, (rd_T32 l0 x8_1).f6, (rd_T32 l0 x8_1).f7, (rd_T32 l0 x8_1).f8, (rd_T32 l0 x8_1).f9, (rd_T32 l0 x8_1).f10, (rd_T32 l0 x8_1).f11⟩ : S32)]) (Go.bits .or .i64 x6_1 ((rd_T32 l0 x8_1).f9)) (wrap64 (x7_1 + ((rd_T32 l0 x8_1).f2))) (wrap64 (x8_1 + 1))) else (none)) else (prebendlaw19_JobApart.l0 kj4 l0 a1 x5_1 x6_1 x7_1 (wrap64 (x8_1 + 1)))) else (prebendlaw19_JobApart.l0 kj4 l0 a1 x5_1 x6_1 x7_1 (wrap64 (x8_1 + 1)))) else (prebendlaw19_JobApart.l0 kj4 l0 a1 x5_1 x6_1 x7_1 (wrap64 (x8_1 + 1)))) else (prebendlaw19_JobApart.l0 kj4 l0 a1 x5_1 x6_1 x7_1 (wrap64 (x8_1 + 1)))) = some true := H
        have A10 := Aside0.mk A100
        clear A100
        by_cases c11 : t538 = true
        ·subst c11
         have H1 : (if ((rd_T32 l0 x8_1).f7) = 3 then (if ((rd_T32 l0 x8_1).f8) ≤ (wrap64 (a1)) then (if (wrap64 (((rd_T32 l0 x8_1).f8) + ((rd_T32 l0 x8_1).f3))) > (wrap64 (a1)) then (if x5_1.length < 1256584717458 then (prebendlaw19_JobApart.l0 kj4 l0 a1 (x5_1 ++ [(⟨(rd_T32 l0 x8_1).f0, (rd_T32 l0 x8_1).f1, (rd_T32 l0 x8_1).f2, (rd_T32 l0 x8_1).f3, (rd_T32 l0 x8_1).f4, (rd_T32 l0 x8_1).f5, (rd_T32 l0 x8_1).f6, (rd_T32 l0 x8_1).f7, (rd_T32 l0 x8_1).f8, (rd_T32 l0 x8_1).f9, (rd_T32 l0 x8_1).f10, (rd_T32 l0 x8_1).f11⟩ : S32)]) (Go.bits .or .i64 x6_1 ((rd_T32 l0 x8_1).f9)) (wrap64 (x7_1 + ((rd_T32 l0 x8_1).f2))) (wrap64 (x8_1 + 1))) else (none)) else (prebendlaw19_JobApart.l0 kj4 l0 a1 x5_1 x6_1 x7_1 (wrap64 (x8_1 + 1)))) else (prebendlaw19_JobApart.l0 kj4 l0 a1 x5_1 x6_1 x7_1 (wrap64 (x8_1 + 1)))) else (prebendlaw19_JobApart.l0 kj4 l0 a1 x5_1 x6_1 x7_1 (wrap64 (x8_1 + 1)))) = some true := by rw [if_pos rfl] at H; exact H
         clear H
         have H := H1
         clear H1
         by_cases c12 : ((rd_T32 l0 x8_1).f7) = 3
         ·rw [if_pos c12] at H
          have c12b0 : (((rd_T32 l0 x8_1).f7) == 3) = true := beq_iff_eq.mpr c12
          have c12b1 : (((rd_T32 l0 x8_1).f7) != 3) = false := bne_eq_false_iff_eq.mpr c12
          clear c12
          by_cases c13 : ((rd_T32 l0 x8_1).f8) ≤ (wrap64 (a1))
          ·rw [if_pos c13] at H
           have c13b0 : decide (((rd_T32 l0 x8_1).f8) ≤ (wrap64 (a1))) = true := decide_eq_true c13
           clear c13
           by_cases c14 : (wrap64 (((rd_T32 l0 x8_1).f8) + ((rd_T32 l0 x8_1).f3))) > (wrap64 (a1))
           ·rw [if_pos c14] at H
            have c14b0 : decide ((wrap64 (a1)) < (wrap64 (((rd_T32 l0 x8_1).f8) + ((rd_T32 l0 x8_1).f3)))) = true := decide_eq_true c14
            clear c14
            by_cases c15 : x5_1.length < 1256584717458
            ·rw [if_pos c15] at H
             have LMc15 := Aside0.mk c15
             clear c15
             obtain ⟨y539, hy539⟩ : ∃ y_ : List (S32), y_ = (x5_1 ++ [(⟨(rd_T32 l0 x8_1).f0, (rd_T32 l0 x8_1).f1, (rd_T32 l0 x8_1).f2, (rd_T32 l0 x8_1).f3, (rd_T32 l0 x8_1).f4, (rd_T32 l0 x8_1).f5, (rd_T32 l0 x8_1).f6, (rd_T32 l0 x8_1).f7, (rd_T32 l0 x8_1).f8, (rd_T32 l0 x8_1).f9, (rd_T32 l0 x8_1).f10, (rd_T32 l0 x8_1).f11⟩ : S32)]) := ⟨_, rfl⟩
             replace H : (prebendlaw19_JobApart.l0 kj4 l0 a1 y539 (Go.bits .or .i64 x6_1 ((rd_T32 l0 x8_1).f9)) (wrap64 (x7_1 + ((rd_T32 l0 x8_1).f2))) (wrap64 (x8_1 + 1))) = some true := mH hy539 H
             have Ny539 := Aside0.mk hy539
             clear hy539
             have H' := Aside0.mk H
             clear H
             have p536 : 0 ≤ (x8_1 : Int) := oda
             have q536 : x8_1 < (l0.length : Int) := oda
             obtain ⟨ad536, e536, hx536_0, hx536_1, hx536_2, hx536_3, hx536_4, hx536_5, hx536_6, hx536_7, hx536_8, hx536_9, hx536_10, hx536_11⟩ := at_T32 HR0.out x8_1 p536 q536
             cases e536
             replace hx536_0 := hs_ HB.out hx536_0
             replace hx536_1 := hs_ HB.out hx536_1
             replace hx536_2 := hs_ HB.out hx536_2
             replace hx536_3 := hs_ HB.out hx536_3
             replace hx536_4 := hs_ HB.out hx536_4
             replace hx536_5 := hs_ HB.out hx536_5
             replace hx536_6 := hs_ HB.out hx536_6
             replace hx536_7 := hs_ HB.out hx536_7
             replace hx536_8 := hs_ HB.out hx536_8
             replace hx536_9 := hs_ HB.out hx536_9
             replace hx536_10 := hs_ HB.out hx536_10
             replace hx536_11 := hs_ HB.out hx536_11
             replace p536 := eq_true p536
             replace q536 := eq_true q536
             go_wp2_with (first | ((with_reducible refine gate_dst (N := 9) rfl ?_); refine box_event ?hg (N := 9) ?hd (cs := #[.int .i64 0, .int .i64 0, .int .i64 0, .int .i64 0, .int .i64 0, .int .i64 0, .int .i64 0, .int .i64 0, .int .i64 0, .int .i64 0, .int .i64 0, .slice none 0 0]) (t := 32) ?hr ?_; (case hd => rfl); (case hg => rfl); (case hr => first | (go_simp; done) | (go_simp; rfl)); intro gb537 hg w16 hbox hb; have n0_ := Aside0.mk (Kd.R_below (Kd.R_elderB (mR HO_5.out) gb537 (Nat.le_of_eq hg.symm)) hb); have n1_ := Aside0.mk (below_step (mB HB.out) hb); have n2_ := Aside0.mk (hbox); have n3_ := Aside0.mk ((by rw [hg]; exact (below_size (mB HB.out)) : w.heap.size ≤ gb537)); have n4_ := Aside0.mk ((by rw [hg]; exact (below_size (mB HB.out)) : w.heap.size ≤ gb537)); clear HO_5; clear HB; have HO_5 := n0_; have HB := n1_; have BK537 := n2_; have GW537 := n3_; have GE537 := n4_; clear n0_ n1_ n2_ n3_ n4_; clear hb hbox hg; have hcz17_0 : w16.cell? ⟨gb537, 0, none⟩ = some (.int .i64 0) := (blk_cell BK537.out 0).trans rfl; have hcz17_1 : w16.cell? ⟨gb537, 1, none⟩ = some (.int .i64 0) := (blk_cell BK537.out 1).trans rfl; have hcz17_2 : w16.cell? ⟨gb537, 2, none⟩ = some (.int .i64 0) := (blk_cell BK537.out 2).trans rfl; have hcz17_3 : w16.cell? ⟨gb537, 3, none⟩ = some (.int .i64 0) := (blk_cell BK537.out 3).trans rfl; have hcz17_4 : w16.cell? ⟨gb537, 4, none⟩ = some (.int .i64 0) := (blk_cell BK537.out 4).trans rfl; have hcz17_5 : w16.cell? ⟨gb537, 5, none⟩ = some (.int .i64 0) := (blk_cell BK537.out 5).trans rfl; have hcz17_6 : w16.cell? ⟨gb537, 6, none⟩ = some (.int .i64 0) := (blk_cell BK537.out 6).trans rfl; have hcz17_7 : w16.cell? ⟨gb537, 7, none⟩ = some (.int .i64 0) := (blk_cell BK537.out 7).trans rfl; have hcz17_8 : w16.cell? ⟨gb537, 8, none⟩ = some (.int .i64 0) := (blk_cell BK537.out 8).trans rfl; have hcz17_9 : w16.cell? ⟨gb537, 9, none⟩ = some (.int .i64 0) := (blk_cell BK537.out 9).trans rfl; have hcz17_10 : w16.cell? ⟨gb537, 10, none⟩ = some (.int .i64 0) := (blk_cell BK537.out 10).trans rfl; have hcz17_11 : w16.cell? ⟨gb537, 11, none⟩ = some (.slice none 0 0) := (blk_cell BK537.out 11).trans rfl; have hfz17_0 := blk_frozen BK537.out 0; have hfz17_1 := blk_frozen BK537.out 1; have hfz17_2 := blk_frozen BK537.out 2; have hfz17_3 := blk_frozen BK537.out 3; have hfz17_4 := blk_frozen BK537.out 4; have hfz17_5 := blk_frozen BK537.out 5; have hfz17_6 := blk_frozen BK537.out 6; have hfz17_7 := blk_frozen BK537.out 7; have hfz17_8 := blk_frozen BK537.out 8; have hfz17_9 := blk_frozen BK537.out 9; have hfz17_10 := blk_frozen BK537.out 10; have hfz17_11 := blk_frozen BK537.out 11) | (go_at_call 29; (with_reducible refine (job_GoodD.calls ((rd_T32 l0 x8_1).f0) ((rd_T32 l0 x8_1).f1) ((rd_T32 l0 x8_1).f2) ((rd_T32 l0 x8_1).f3) ((rd_T32 l0 x8_1).f4) ((rd_T32 l0 x8_1).f5) ((rd_T32 l0 x8_1).f6) ((rd_T32 l0 x8_1).f7) ((rd_T32 l0 x8_1).f8) ((rd_T32 l0 x8_1).f9) ((rd_T32 l0 x8_1).f10) ((rd_T32 l0 x8_1).f11) true _ (DWAt.of hdw (mBs HB.out)) A10.out).mono ?_); rintro e w18 ⟨rfl, hb⟩; have n0_ := Aside0.mk (Kd.R_below (by (with_reducible repeat (first | apply Kd.R_alloc | apply Kd.R_drewN | apply Kd.R_drew)); exact (Kd.R_mono (Kd.R_fa gb537 11 (Kd.R_fa gb537 10 (Kd.R_fa gb537 9 (Kd.R_fa gb537 8 (Kd.R_fa gb537 7 (Kd.R_fa gb537 6 (Kd.R_fa gb537 5 (Kd.R_fa gb537 4 (Kd.R_fa gb537 3 (Kd.R_fa gb537 2 (Kd.R_fa gb537 1 (Kd.R_fa gb537 0 (Kd.R_mono HO_5.out (fun k_ hk => (⟨hk, hk.2⟩ : _ ∧ k_ ≠ gb537))) (.int .i64 ((rd_T32 l0 x8_1).f0))) (.int .i64 ((rd_T32 l0 x8_1).f1))) (.int .i64 ((rd_T32 l0 x8_1).f2))) (.int .i64 ((rd_T32 l0 x8_1).f3))) (.int .i64 ((rd_T32 l0 x8_1).f4))) (.int .i64 ((rd_T32 l0 x8_1).f5))) (.int .i64 ((rd_T32 l0 x8_1).f6))) (.int .i64 ((rd_T32 l0 x8_1).f7))) (.int .i64 ((rd_T32 l0 x8_1).f8))) (.int .i64 ((rd_T32 l0 x8_1).f9))) (.int .i64 ((rd_T32 l0 x8_1).f10))) (.slice ((rd_T32 l0 x8_1).f11).A ((rd_T32 l0 x8_1).f11).n ((rd_T32 l0 x8_1).f11).c)) (fun _ h_ => h_.1))) hb); have n1_ := Aside0.mk (blk_below (g := gb537) (o := .cells (cJ (rd_T32 l0 x8_1)) 32 (0, 0)) (by (with_reducible repeat first | apply blk_drewN | apply blk_drew | apply blk_alloc); refine blk_put (cs := #[.int .i64 ((rd_T32 l0 x8_1).f0), .int .i64 ((rd_T32 l0 x8_1).f1), .int .i64 ((rd_T32 l0 x8_1).f2), .int .i64 ((rd_T32 l0 x8_1).f3), .int .i64 ((rd_T32 l0 x8_1).f4), .int .i64 ((rd_T32 l0 x8_1).f5), .int .i64 ((rd_T32 l0 x8_1).f6), .int .i64 ((rd_T32 l0 x8_1).f7), .int .i64 ((rd_T32 l0 x8_1).f8), .int .i64 ((rd_T32 l0 x8_1).f9), .int .i64 ((rd_T32 l0 x8_1).f10), .slice none 0 0]) ?_ 11 _ rfl; (with_reducible repeat first | apply blk_drewN | apply blk_drew | apply blk_alloc); refine blk_put (cs := #[.int .i64 ((rd_T32 l0 x8_1).f0), .int .i64 ((rd_T32 l0 x8_1).f1), .int .i64 ((rd_T32 l0 x8_1).f2), .int .i64 ((rd_T32 l0 x8_1).f3), .int .i64 ((rd_T32 l0 x8_1).f4), .int .i64 ((rd_T32 l0 x8_1).f5), .int .i64 ((rd_T32 l0 x8_1).f6), .int .i64 ((rd_T32 l0 x8_1).f7), .int .i64 ((rd_T32 l0 x8_1).f8), .int .i64 ((rd_T32 l0 x8_1).f9), .int .i64 0, .slice none 0 0]) ?_ 10 _ rfl; (with_reducible repeat first | apply blk_drewN | apply blk_drew | apply blk_alloc); refine blk_put (cs := #[.int .i64 ((rd_T32 l0 x8_1).f0), .int .i64 ((rd_T32 l0 x8_1).f1), .int .i64 ((rd_T32 l0 x8_1).f2), .int .i64 ((rd_T32 l0 x8_1).f3), .int .i64 ((rd_T32 l0 x8_1).f4), .int .i64 ((rd_T32 l0 x8_1).f5), .int .i64 ((rd_T32 l0 x8_1).f6), .int .i64 ((rd_T32 l0 x8_1).f7), .int .i64 ((rd_T32 l0 x8_1).f8), .int .i64 0, .int .i64 0, .slice none 0 0]) ?_ 9 _ rfl; (with_reducible repeat first | apply blk_drewN | apply blk_drew | apply blk_alloc); refine blk_put (cs := #[.int .i64 ((rd_T32 l0 x8_1).f0), .int .i64 ((rd_T32 l0 x8_1).f1), .int .i64 ((rd_T32 l0 x8_1).f2), .int .i64 ((rd_T32 l0 x8_1).f3), .int .i64 ((rd_T32 l0 x8_1).f4), .int .i64 ((rd_T32 l0 x8_1).f5), .int .i64 ((rd_T32 l0 x8_1).f6), .int .i64 ((rd_T32 l0 x8_1).f7), .int .i64 0, .int .i64 0, .int .i64 0, .slice none 0 0]) ?_ 8 _ rfl; (with_reducible repeat first | apply blk_drewN | apply blk_drew | apply blk_alloc); refine blk_put (cs := #[.int .i64 ((rd_T32 l0 x8_1).f0), .int .i64 ((rd_T32 l0 x8_1).f1), .int .i64 ((rd_T32 l0 x8_1).f2), .int .i64 ((rd_T32 l0 x8_1).f3), .int .i64 ((rd_T32 l0 x8_1).f4), .int .i64 ((rd_T32 l0 x8_1).f5), .int .i64 ((rd_T32 l0 x8_1).f6), .int .i64 0, .int .i64 0, .int .i64 0, .int .i64 0, .slice none 0 0]) ?_ 7 _ rfl; (with_reducible repeat first | apply blk_drewN | apply blk_drew | apply blk_alloc); refine blk_put (cs := #[.int .i64 ((rd_T32 l0 x8_1).f0), .int .i64 ((rd_T32 l0 x8_1).f1), .int .i64 ((rd_T32 l0 x8_1).f2), .int .i64 ((rd_T32 l0 x8_1).f3), .int .i64 ((rd_T32 l0 x8_1).f4), .int .i64 ((rd_T32 l0 x8_1).f5), .int .i64 0, .int .i64 0, .int .i64 0, .int .i64 0, .int .i64 0, .slice none 0 0]) ?_ 6 _ rfl; (with_reducible repeat first | apply blk_drewN | apply blk_drew | apply blk_alloc); refine blk_put (cs := #[.int .i64 ((rd_T32 l0 x8_1).f0), .int .i64 ((rd_T32 l0 x8_1).f1), .int .i64 ((rd_T32 l0 x8_1).f2), .int .i64 ((rd_T32 l0 x8_1).f3), .int .i64 ((rd_T32 l0 x8_1).f4), .int .i64 0, .int .i64 0, .int .i64 0, .int .i64 0, .int .i64 0, .int .i64 0, .slice none 0 0]) ?_ 5 _ rfl; (with_reducible repeat first | apply blk_drewN | apply blk_drew | apply blk_alloc); refine blk_put (cs := #[.int .i64 ((rd_T32 l0 x8_1).f0), .int .i64 ((rd_T32 l0 x8_1).f1), .int .i64 ((rd_T32 l0 x8_1).f2), .int .i64 ((rd_T32 l0 x8_1).f3), .int .i64 0, .int .i64 0, .int .i64 0, .int .i64 0, .int .i64 0, .int .i64 0, .int .i64 0, .slice none 0 0]) ?_ 4 _ rfl; (with_reducible repeat first | apply blk_drewN | apply blk_drew | apply blk_alloc); refine blk_put (cs := #[.int .i64 ((rd_T32 l0 x8_1).f0), .int .i64 ((rd_T32 l0 x8_1).f1), .int .i64 ((rd_T32 l0 x8_1).f2), .int .i64 0, .int .i64 0, .int .i64 0, .int .i64 0, .int .i64 0, .int .i64 0, .int .i64 0, .int .i64 0, .slice none 0 0]) ?_ 3 _ rfl; (with_reducible repeat first | apply blk_drewN | apply blk_drew | apply blk_alloc); refine blk_put (cs := #[.int .i64 ((rd_T32 l0 x8_1).f0), .int .i64 ((rd_T32 l0 x8_1).f1), .int .i64 0, .int .i64 0, .int .i64 0, .int .i64 0, .int .i64 0, .int .i64 0, .int .i64 0, .int .i64 0, .int .i64 0, .slice none 0 0]) ?_ 2 _ rfl; (with_reducible repeat first | apply blk_drewN | apply blk_drew | apply blk_alloc); refine blk_put (cs := #[.int .i64 ((rd_T32 l0 x8_1).f0), .int .i64 0, .int .i64 0, .int .i64 0, .int .i64 0, .int .i64 0, .int .i64 0, .int .i64 0, .int .i64 0, .int .i64 0, .int .i64 0, .slice none 0 0]) ?_ 1 _ rfl; (with_reducible repeat first | apply blk_drewN | apply blk_drew | apply blk_alloc); refine blk_put (cs := #[.int .i64 0, .int .i64 0, .int .i64 0, .int .i64 0, .int .i64 0, .int .i64 0, .int .i64 0, .int .i64 0, .int .i64 0, .int .i64 0, .int .i64 0, .slice none 0 0]) ?_ 0 _ rfl; (with_reducible repeat first | apply blk_drewN | apply blk_drew | apply blk_alloc); exact BK537.out) hb); have n2_ := Aside0.mk (below_step (mBs HB.out) hb); clear HO_5; clear BK537; clear HB; have HO_5 := n0_; have BK537 := n1_; have HB := n2_; clear n0_ n1_ n2_; (try clear hb); (try clear hb2); (try clear hk); (try clear hi); have hcz19_0 : w18.cell? ⟨gb537, 0, none⟩ = some (.int .i64 ((rd_T32 l0 x8_1).f0)) := (blk_cell BK537.out 0).trans rfl; have hcz19_1 : w18.cell? ⟨gb537, 1, none⟩ = some (.int .i64 ((rd_T32 l0 x8_1).f1)) := (blk_cell BK537.out 1).trans rfl; have hcz19_2 : w18.cell? ⟨gb537, 2, none⟩ = some (.int .i64 ((rd_T32 l0 x8_1).f2)) := (blk_cell BK537.out 2).trans rfl; have hcz19_3 : w18.cell? ⟨gb537, 3, none⟩ = some (.int .i64 ((rd_T32 l0 x8_1).f3)) := (blk_cell BK537.out 3).trans rfl; have hcz19_4 : w18.cell? ⟨gb537, 4, none⟩ = some (.int .i64 ((rd_T32 l0 x8_1).f4)) := (blk_cell BK537.out 4).trans rfl; have hcz19_5 : w18.cell? ⟨gb537, 5, none⟩ = some (.int .i64 ((rd_T32 l0 x8_1).f5)) := (blk_cell BK537.out 5).trans rfl; have hcz19_6 : w18.cell? ⟨gb537, 6, none⟩ = some (.int .i64 ((rd_T32 l0 x8_1).f6)) := (blk_cell BK537.out 6).trans rfl; have hcz19_7 : w18.cell? ⟨gb537, 7, none⟩ = some (.int .i64 ((rd_T32 l0 x8_1).f7)) := (blk_cell BK537.out 7).trans rfl; have hcz19_8 : w18.cell? ⟨gb537, 8, none⟩ = some (.int .i64 ((rd_T32 l0 x8_1).f8)) := (blk_cell BK537.out 8).trans rfl; have hcz19_9 : w18.cell? ⟨gb537, 9, none⟩ = some (.int .i64 ((rd_T32 l0 x8_1).f9)) := (blk_cell BK537.out 9).trans rfl; have hcz19_10 : w18.cell? ⟨gb537, 10, none⟩ = some (.int .i64 ((rd_T32 l0 x8_1).f10)) := (blk_cell BK537.out 10).trans rfl; have hcz19_11 : w18.cell? ⟨gb537, 11, none⟩ = some (.slice ((rd_T32 l0 x8_1).f11).A ((rd_T32 l0 x8_1).f11).n ((rd_T32 l0 x8_1).f11).c) := (blk_cell BK537.out 11).trans rfl; have hfz19_0 := blk_frozen BK537.out 0; have hfz19_1 := blk_frozen BK537.out 1; have hfz19_2 := blk_frozen BK537.out 2; have hfz19_3 := blk_frozen BK537.out 3; have hfz19_4 := blk_frozen BK537.out 4; have hfz19_5 := blk_frozen BK537.out 5; have hfz19_6 := blk_frozen BK537.out 6; have hfz19_7 := blk_frozen BK537.out 7; have hfz19_8 := blk_frozen BK537.out 8; have hfz19_9 := blk_frozen BK537.out 9; have hfz19_10 := blk_frozen BK537.out 10; have hfz19_11 := blk_frozen BK537.out 11) | ((with_reducible refine gate_builtin (b := .append) (xs := #[.tmp 51, .tmp 53]) rfl ?_); at_builtin; refine Kd.R_append k32 (w0 := w) w.heap.size rfl (.tmp 51) (.tmp 53) 22 32 (.agg #[(.int .i64 0), (.int .i64 0), (.int .i64 0), (.int .i64 0), (.int .i64 0), (.int .i64 0), (.int .i64 0), (.int .i64 0), (.int .i64 0), (.int .i64 0), (.int .i64 0), (.slice none 0 0)]) 112 rfl Try.underlying22 info32 rfl (by decide) (by omega) u5 x5_1 (⟨(rd_T32 l0 x8_1).f0, (rd_T32 l0 x8_1).f1, (rd_T32 l0 x8_1).f2, (rd_T32 l0 x8_1).f3, (rd_T32 l0 x8_1).f4, (rd_T32 l0 x8_1).f5, (rd_T32 l0 x8_1).f6, (rd_T32 l0 x8_1).f7, (rd_T32 l0 x8_1).f8, (rd_T32 l0 x8_1).f9, (rd_T32 l0 x8_1).f10, (rd_T32 l0 x8_1).f11⟩ : S32) [.int .i64 ((rd_T32 l0 x8_1).f0), .int .i64 ((rd_T32 l0 x8_1).f1), .int .i64 ((rd_T32 l0 x8_1).f2), .int .i64 ((rd_T32 l0 x8_1).f3), .int .i64 ((rd_T32 l0 x8_1).f4), .int .i64 ((rd_T32 l0 x8_1).f5), .int .i64 ((rd_T32 l0 x8_1).f6), .int .i64 ((rd_T32 l0 x8_1).f7), .int .i64 ((rd_T32 l0 x8_1).f8), .int .i64 ((rd_T32 l0 x8_1).f9), .int .i64 ((rd_T32 l0 x8_1).f10), .slice ((rd_T32 l0 x8_1).f11).A ((rd_T32 l0 x8_1).f11).n ((rd_T32 l0 x8_1).f11).c] (fun k_ => k_ ≠ gb537) (fun _ => False) rfl rfl ?aP (fun _ hk => hk.elim) ?aF ?aO ?aB ?aS ?aL ?_; (case aP => exact k32_mkM _ _ _ (⟨(rd_T32 l0 x8_1).f0, (rd_T32 l0 x8_1).f1, (rd_T32 l0 x8_1).f2, (rd_T32 l0 x8_1).f3, (rd_T32 l0 x8_1).f4, (rd_T32 l0 x8_1).f5, (rd_T32 l0 x8_1).f6, (rd_T32 l0 x8_1).f7, (rd_T32 l0 x8_1).f8, (rd_T32 l0 x8_1).f9, (rd_T32 l0 x8_1).f10, (rd_T32 l0 x8_1).f11⟩ : S32)); (case aB => exact (mBs HB.out)); (case aF => exact (fun k_ hk => Kd.freshB (g := gb537) (o := .cells (cJ (rd_T32 l0 x8_1)) 32 (0, 0)) (mBK BK537.out) k_ hk)); (case aO => exact (by (with_reducible repeat (first | apply Kd.R_alloc | apply Kd.R_drewN | apply Kd.R_drew)); exact Kd.R_mono HO_5.out (fun _ hk => hk.2))); (case aS => exact (below_size (mBs HB.out))); (case aL => have := LMc15.out; omega); intro v540 w20 ho hb hg hat; rw [← Ny539.out] at ho; have n0_ := Aside0.mk (blk_grown (g := gb537) (o := .cells (cJ (rd_T32 l0 x8_1)) 32 (0, 0)) (mBK BK537.out) hg (Kd.R_away HO_5.out (fun _ hk => hk.2))); have n1_ := Aside0.mk (hb); have n2_ := Aside0.mk (ho); clear BK537; clear HB; clear HO_5; have BK537 := n0_; have HB := n1_; have HO541 := n2_; clear n0_ n1_ n2_; clear ho hb hg hat; have hcz21_0 : w20.cell? ⟨gb537, 0, none⟩ = some (.int .i64 ((rd_T32 l0 x8_1).f0)) := (blk_cell BK537.out 0).trans rfl; have hcz21_1 : w20.cell? ⟨gb537, 1, none⟩ = some (.int .i64 ((rd_T32 l0 x8_1).f1)) := (blk_cell BK537.out 1).trans rfl; have hcz21_2 : w20.cell? ⟨gb537, 2, none⟩ = some (.int .i64 ((rd_T32 l0 x8_1).f2)) := (blk_cell BK537.out 2).trans rfl; have hcz21_3 : w20.cell? ⟨gb537, 3, none⟩ = some (.int .i64 ((rd_T32 l0 x8_1).f3)) := (blk_cell BK537.out 3).trans rfl; have hcz21_4 : w20.cell? ⟨gb537, 4, none⟩ = some (.int .i64 ((rd_T32 l0 x8_1).f4)) := (blk_cell BK537.out 4).trans rfl; have hcz21_5 : w20.cell? ⟨gb537, 5, none⟩ = some (.int .i64 ((rd_T32 l0 x8_1).f5)) := (blk_cell BK537.out 5).trans rfl; have hcz21_6 : w20.cell? ⟨gb537, 6, none⟩ = some (.int .i64 ((rd_T32 l0 x8_1).f6)) := (blk_cell BK537.out 6).trans rfl; have hcz21_7 : w20.cell? ⟨gb537, 7, none⟩ = some (.int .i64 ((rd_T32 l0 x8_1).f7)) := (blk_cell BK537.out 7).trans rfl; have hcz21_8 : w20.cell? ⟨gb537, 8, none⟩ = some (.int .i64 ((rd_T32 l0 x8_1).f8)) := (blk_cell BK537.out 8).trans rfl; have hcz21_9 : w20.cell? ⟨gb537, 9, none⟩ = some (.int .i64 ((rd_T32 l0 x8_1).f9)) := (blk_cell BK537.out 9).trans rfl; have hcz21_10 : w20.cell? ⟨gb537, 10, none⟩ = some (.int .i64 ((rd_T32 l0 x8_1).f10)) := (blk_cell BK537.out 10).trans rfl; have hcz21_11 : w20.cell? ⟨gb537, 11, none⟩ = some (.slice ((rd_T32 l0 x8_1).f11).A ((rd_T32 l0 x8_1).f11).n ((rd_T32 l0 x8_1).f11).c) := (blk_cell BK537.out 11).trans rfl; have hfz21_0 := blk_frozen BK537.out 0; have hfz21_1 := blk_frozen BK537.out 1; have hfz21_2 := blk_frozen BK537.out 2; have hfz21_3 := blk_frozen BK537.out 3; have hfz21_4 := blk_frozen BK537.out 4; have hfz21_5 := blk_frozen BK537.out 5; have hfz21_6 := blk_frozen BK537.out 6; have hfz21_7 := blk_frozen BK537.out 7; have hfz21_8 := blk_frozen BK537.out 8; have hfz21_9 := blk_frozen BK537.out 9; have hfz21_10 := blk_frozen BK537.out 10; have hfz21_11 := blk_frozen BK537.out 11))
             repeat (go_quiet (fail); try go_wp2)
             go_roundg kj4
             case measure => have := HK1.out; have := HJ4.out; omega
             case rel => exact ⟨(y539), (Go.bits .or .i64 x6_1 ((rd_T32 l0 x8_1).f9)), (wrap64 (x7_1 + ((rd_T32 l0 x8_1).f2))), (wrap64 (x8_1 + 1)), ez, ez, ez, H', ⟨by have := HK1.out; have := HJ4.out; omega⟩, ⟨by (with_reducible repeat (first | apply Kd.R_alloc | apply Kd.R_drewN | apply Kd.R_drew)); exact Kd.R_mono HO541.out (fun _ hk => trivial)⟩, ⟨mBs HB.out⟩⟩
            ·rw [if_neg c15] at H
             exact absurd H (by simp)
           ·rw [if_neg c14] at H
            have c14b0 : decide ((wrap64 (a1)) < (wrap64 (((rd_T32 l0 x8_1).f8) + ((rd_T32 l0 x8_1).f3)))) = false := decide_eq_false c14
            clear c14
            have H' := Aside0.mk H
            clear H
            have p536 : 0 ≤ (x8_1 : Int) := oda
            have q536 : x8_1 < (l0.length : Int) := oda
            obtain ⟨ad536, e536, hx536_0, hx536_1, hx536_2, hx536_3, hx536_4, hx536_5, hx536_6, hx536_7, hx536_8, hx536_9, hx536_10, hx536_11⟩ := at_T32 HR0.out x8_1 p536 q536
            cases e536
            replace hx536_0 := hs_ HB.out hx536_0
            replace hx536_1 := hs_ HB.out hx536_1
            replace hx536_2 := hs_ HB.out hx536_2
            replace hx536_3 := hs_ HB.out hx536_3
            replace hx536_4 := hs_ HB.out hx536_4
            replace hx536_5 := hs_ HB.out hx536_5
            replace hx536_6 := hs_ HB.out hx536_6
            replace hx536_7 := hs_ HB.out hx536_7
            replace hx536_8 := hs_ HB.out hx536_8
            replace hx536_9 := hs_ HB.out hx536_9
            replace hx536_10 := hs_ HB.out hx536_10
            replace hx536_11 := hs_ HB.out hx536_11
            replace p536 := eq_true p536
            replace q536 := eq_true q536
            go_wp2_with (first | ((with_reducible refine gate_dst (N := 9) rfl ?_); refine box_event ?hg (N := 9) ?hd (cs := #[.int .i64 0, .int .i64 0, .int .i64 0, .int .i64 0, .int .i64 0, .int .i64 0, .int .i64 0, .int .i64 0, .int .i64 0, .int .i64 0, .int .i64 0, .slice none 0 0]) (t := 32) ?hr ?_; (case hd => rfl); (case hg => rfl); (case hr => first | (go_simp; done) | (go_simp; rfl)); intro gb537 hg w22 hbox hb; have n0_ := Aside0.mk (Kd.R_below (Kd.R_elderB (mR HO_5.out) gb537 (Nat.le_of_eq hg.symm)) hb); have n1_ := Aside0.mk (below_step (mB HB.out) hb); have n2_ := Aside0.mk (hbox); have n3_ := Aside0.mk ((by rw [hg]; exact (below_size (mB HB.out)) : w.heap.size ≤ gb537)); have n4_ := Aside0.mk ((by rw [hg]; exact (below_size (mB HB.out)) : w.heap.size ≤ gb537)); clear HO_5; clear HB; have HO_5 := n0_; have HB := n1_; have BK537 := n2_; have GW537 := n3_; have GE537 := n4_; clear n0_ n1_ n2_ n3_ n4_; clear hb hbox hg; have hcz23_0 : w22.cell? ⟨gb537, 0, none⟩ = some (.int .i64 0) := (blk_cell BK537.out 0).trans rfl; have hcz23_1 : w22.cell? ⟨gb537, 1, none⟩ = some (.int .i64 0) := (blk_cell BK537.out 1).trans rfl; have hcz23_2 : w22.cell? ⟨gb537, 2, none⟩ = some (.int .i64 0) := (blk_cell BK537.out 2).trans rfl; have hcz23_3 : w22.cell? ⟨gb537, 3, none⟩ = some (.int .i64 0) := (blk_cell BK537.out 3).trans rfl; have hcz23_4 : w22.cell? ⟨gb537, 4, none⟩ = some (.int .i64 0) := (blk_cell BK537.out 4).trans rfl; have hcz23_5 : w22.cell? ⟨gb537, 5, none⟩ = some (.int .i64 0) := (blk_cell BK537.out 5).trans rfl; have hcz23_6 : w22.cell? ⟨gb537, 6, none⟩ = some (.int .i64 0) := (blk_cell BK537.out 6).trans rfl; have hcz23_7 : w22.cell? ⟨gb537, 7, none⟩ = some (.int .i64 0) := (blk_cell BK537.out 7).trans rfl; have hcz23_8 : w22.cell? ⟨gb537, 8, none⟩ = some (.int .i64 0) := (blk_cell BK537.out 8).trans rfl; have hcz23_9 : w22.cell? ⟨gb537, 9, none⟩ = some (.int .i64 0) := (blk_cell BK537.out 9).trans rfl; have hcz23_10 : w22.cell? ⟨gb537, 10, none⟩ = some (.int .i64 0) := (blk_cell BK537.out 10).trans rfl; have hcz23_11 : w22.cell? ⟨gb537, 11, none⟩ = some (.slice none 0 0) := (blk_cell BK537.out 11).trans rfl; have hfz23_0 := blk_frozen BK537.out 0; have hfz23_1 := blk_frozen BK537.out 1; have hfz23_2 := blk_frozen BK537.out 2; have hfz23_3 := blk_frozen BK537.out 3; have hfz23_4 := blk_frozen BK537.out 4; have hfz23_5 := blk_frozen BK537.out 5; have hfz23_6 := blk_frozen BK537.out 6; have hfz23_7 := blk_frozen BK537.out 7; have hfz23_8 := blk_frozen BK537.out 8; have hfz23_9 := blk_frozen BK537.out 9; have hfz23_10 := blk_frozen BK537.out 10; have hfz23_11 := blk_frozen BK537.out 11) | (go_at_call 29; (with_reducible refine (job_GoodD.calls ((rd_T32 l0 x8_1).f0) ((rd_T32 l0 x8_1).f1) ((rd_T32 l0 x8_1).f2) ((rd_T32 l0 x8_1).f3) ((rd_T32 l0 x8_1).f4) ((rd_T32 l0 x8_1).f5) ((rd_T32 l0 x8_1).f6) ((rd_T32 l0 x8_1).f7) ((rd_T32 l0 x8_1).f8) ((rd_T32 l0 x8_1).f9) ((rd_T32 l0 x8_1).f10) ((rd_T32 l0 x8_1).f11) true _ (DWAt.of hdw (mBs HB.out)) A10.out).mono ?_); rintro e w24 ⟨rfl, hb⟩; have n0_ := Aside0.mk (Kd.R_below (by (with_reducible repeat (first | apply Kd.R_alloc | apply Kd.R_drewN | apply Kd.R_drew)); exact (Kd.R_mono (Kd.R_fa gb537 11 (Kd.R_fa gb537 10 (Kd.R_fa gb537 9 (Kd.R_fa gb537 8 (Kd.R_fa gb537 7 (Kd.R_fa gb537 6 (Kd.R_fa gb537 5 (Kd.R_fa gb537 4 (Kd.R_fa gb537 3 (Kd.R_fa gb537 2 (Kd.R_fa gb537 1 (Kd.R_fa gb537 0 (Kd.R_mono HO_5.out (fun k_ hk => (⟨hk, hk.2⟩ : _ ∧ k_ ≠ gb537))) (.int .i64 ((rd_T32 l0 x8_1).f0))) (.int .i64 ((rd_T32 l0 x8_1).f1))) (.int .i64 ((rd_T32 l0 x8_1).f2))) (.int .i64 ((rd_T32 l0 x8_1).f3))) (.int .i64 ((rd_T32 l0 x8_1).f4))) (.int .i64 ((rd_T32 l0 x8_1).f5))) (.int .i64 ((rd_T32 l0 x8_1).f6))) (.int .i64 ((rd_T32 l0 x8_1).f7))) (.int .i64 ((rd_T32 l0 x8_1).f8))) (.int .i64 ((rd_T32 l0 x8_1).f9))) (.int .i64 ((rd_T32 l0 x8_1).f10))) (.slice ((rd_T32 l0 x8_1).f11).A ((rd_T32 l0 x8_1).f11).n ((rd_T32 l0 x8_1).f11).c)) (fun _ h_ => h_.1))) hb); have n1_ := Aside0.mk (blk_below (g := gb537) (o := .cells (cJ (rd_T32 l0 x8_1)) 32 (0, 0)) (by (with_reducible repeat first | apply blk_drewN | apply blk_drew | apply blk_alloc); refine blk_put (cs := #[.int .i64 ((rd_T32 l0 x8_1).f0), .int .i64 ((rd_T32 l0 x8_1).f1), .int .i64 ((rd_T32 l0 x8_1).f2), .int .i64 ((rd_T32 l0 x8_1).f3), .int .i64 ((rd_T32 l0 x8_1).f4), .int .i64 ((rd_T32 l0 x8_1).f5), .int .i64 ((rd_T32 l0 x8_1).f6), .int .i64 ((rd_T32 l0 x8_1).f7), .int .i64 ((rd_T32 l0 x8_1).f8), .int .i64 ((rd_T32 l0 x8_1).f9), .int .i64 ((rd_T32 l0 x8_1).f10), .slice none 0 0]) ?_ 11 _ rfl; (with_reducible repeat first | apply blk_drewN | apply blk_drew | apply blk_alloc); refine blk_put (cs := #[.int .i64 ((rd_T32 l0 x8_1).f0), .int .i64 ((rd_T32 l0 x8_1).f1), .int .i64 ((rd_T32 l0 x8_1).f2), .int .i64 ((rd_T32 l0 x8_1).f3), .int .i64 ((rd_T32 l0 x8_1).f4), .int .i64 ((rd_T32 l0 x8_1).f5), .int .i64 ((rd_T32 l0 x8_1).f6), .int .i64 ((rd_T32 l0 x8_1).f7), .int .i64 ((rd_T32 l0 x8_1).f8), .int .i64 ((rd_T32 l0 x8_1).f9), .int .i64 0, .slice none 0 0]) ?_ 10 _ rfl; (with_reducible repeat first | apply blk_drewN | apply blk_drew | apply blk_alloc); refine blk_put (cs := #[.int .i64 ((rd_T32 l0 x8_1).f0), .int .i64 ((rd_T32 l0 x8_1).f1), .int .i64 ((rd_T32 l0 x8_1).f2), .int .i64 ((rd_T32 l0 x8_1).f3), .int .i64 ((rd_T32 l0 x8_1).f4), .int .i64 ((rd_T32 l0 x8_1).f5), .int .i64 ((rd_T32 l0 x8_1).f6), .int .i64 ((rd_T32 l0 x8_1).f7), .int .i64 ((rd_T32 l0 x8_1).f8), .int .i64 0, .int .i64 0, .slice none 0 0]) ?_ 9 _ rfl; (with_reducible repeat first | apply blk_drewN | apply blk_drew | apply blk_alloc); refine blk_put (cs := #[.int .i64 ((rd_T32 l0 x8_1).f0), .int .i64 ((rd_T32 l0 x8_1).f1), .int .i64 ((rd_T32 l0 x8_1).f2), .int .i64 ((rd_T32 l0 x8_1).f3), .int .i64 ((rd_T32 l0 x8_1).f4), .int .i64 ((rd_T32 l0 x8_1).f5), .int .i64 ((rd_T32 l0 x8_1).f6), .int .i64 ((rd_T32 l0 x8_1).f7), .int .i64 0, .int .i64 0, .int .i64 0, .slice none 0 0]) ?_ 8 _ rfl; (with_reducible repeat first | apply blk_drewN | apply blk_drew | apply blk_alloc); refine blk_put (cs := #[.int .i64 ((rd_T32 l0 x8_1).f0), .int .i64 ((rd_T32 l0 x8_1).f1), .int .i64 ((rd_T32 l0 x8_1).f2), .int .i64 ((rd_T32 l0 x8_1).f3), .int .i64 ((rd_T32 l0 x8_1).f4), .int .i64 ((rd_T32 l0 x8_1).f5), .int .i64 ((rd_T32 l0 x8_1).f6), .int .i64 0, .int .i64 0, .int .i64 0, .int .i64 0, .slice none 0 0]) ?_ 7 _ rfl; (with_reducible repeat first | apply blk_drewN | apply blk_drew | apply blk_alloc); refine blk_put (cs := #[.int .i64 ((rd_T32 l0 x8_1).f0), .int .i64 ((rd_T32 l0 x8_1).f1), .int .i64 ((rd_T32 l0 x8_1).f2), .int .i64 ((rd_T32 l0 x8_1).f3), .int .i64 ((rd_T32 l0 x8_1).f4), .int .i64 ((rd_T32 l0 x8_1).f5), .int .i64 0, .int .i64 0, .int .i64 0, .int .i64 0, .int .i64 0, .slice none 0 0]) ?_ 6 _ rfl; (with_reducible repeat first | apply blk_drewN | apply blk_drew | apply blk_alloc); refine blk_put (cs := #[.int .i64 ((rd_T32 l0 x8_1).f0), .int .i64 ((rd_T32 l0 x8_1).f1), .int .i64 ((rd_T32 l0 x8_1).f2), .int .i64 ((rd_T32 l0 x8_1).f3), .int .i64 ((rd_T32 l0 x8_1).f4), .int .i64 0, .int .i64 0, .int .i64 0, .int .i64 0, .int .i64 0, .int .i64 0, .slice none 0 0]) ?_ 5 _ rfl; (with_reducible repeat first | apply blk_drewN | apply blk_drew | apply blk_alloc); refine blk_put (cs := #[.int .i64 ((rd_T32 l0 x8_1).f0), .int .i64 ((rd_T32 l0 x8_1).f1), .int .i64 ((rd_T32 l0 x8_1).f2), .int .i64 ((rd_T32 l0 x8_1).f3), .int .i64 0, .int .i64 0, .int .i64 0, .int .i64 0, .int .i64 0, .int .i64 0, .int .i64 0, .slice none 0 0]) ?_ 4 _ rfl; (with_reducible repeat first | apply blk_drewN | apply blk_drew | apply blk_alloc); refine blk_put (cs := #[.int .i64 ((rd_T32 l0 x8_1).f0), .int .i64 ((rd_T32 l0 x8_1).f1), .int .i64 ((rd_T32 l0 x8_1).f2), .int .i64 0, .int .i64 0, .int .i64 0, .int .i64 0, .int .i64 0, .int .i64 0, .int .i64 0, .int .i64 0, .slice none 0 0]) ?_ 3 _ rfl; (with_reducible repeat first | apply blk_drewN | apply blk_drew | apply blk_alloc); refine blk_put (cs := #[.int .i64 ((rd_T32 l0 x8_1).f0), .int .i64 ((rd_T32 l0 x8_1).f1), .int .i64 0, .int .i64 0, .int .i64 0, .int .i64 0, .int .i64 0, .int .i64 0, .int .i64 0, .int .i64 0, .int .i64 0, .slice none 0 0]) ?_ 2 _ rfl; (with_reducible repeat first | apply blk_drewN | apply blk_drew | apply blk_alloc); refine blk_put (cs := #[.int .i64 ((rd_T32 l0 x8_1).f0), .int .i64 0, .int .i64 0, .int .i64 0, .int .i64 0, .int .i64 0, .int .i64 0, .int .i64 0, .int .i64 0, .int .i64 0, .int .i64 0, .slice none 0 0]) ?_ 1 _ rfl; (with_reducible repeat first | apply blk_drewN | apply blk_drew | apply blk_alloc); refine blk_put (cs := #[.int .i64 0, .int .i64 0, .int .i64 0, .int .i64 0, .int .i64 0, .int .i64 0, .int .i64 0, .int .i64 0, .int .i64 0, .int .i64 0, .int .i64 0, .slice none 0 0]) ?_ 0 _ rfl; (with_reducible repeat first | apply blk_drewN | apply blk_drew | apply blk_alloc); exact BK537.out) hb); have n2_ := Aside0.mk (below_step (mBs HB.out) hb); clear HO_5; clear BK537; clear HB; have HO_5 := n0_; have BK537 := n1_; have HB := n2_; clear n0_ n1_ n2_; (try clear hb); (try clear hb2); (try clear hk); (try clear hi); have hcz25_0 : w24.cell? ⟨gb537, 0, none⟩ = some (.int .i64 ((rd_T32 l0 x8_1).f0)) := (blk_cell BK537.out 0).trans rfl; have hcz25_1 : w24.cell? ⟨gb537, 1, none⟩ = some (.int .i64 ((rd_T32 l0 x8_1).f1)) := (blk_cell BK537.out 1).trans rfl; have hcz25_2 : w24.cell? ⟨gb537, 2, none⟩ = some (.int .i64 ((rd_T32 l0 x8_1).f2)) := (blk_cell BK537.out 2).trans rfl; have hcz25_3 : w24.cell? ⟨gb537, 3, none⟩ = some (.int .i64 ((rd_T32 l0 x8_1).f3)) := (blk_cell BK537.out 3).trans rfl; have hcz25_4 : w24.cell? ⟨gb537, 4, none⟩ = some (.int .i64 ((rd_T32 l0 x8_1).f4)) := (blk_cell BK537.out 4).trans rfl; have hcz25_5 : w24.cell? ⟨gb537, 5, none⟩ = some (.int .i64 ((rd_T32 l0 x8_1).f5)) := (blk_cell BK537.out 5).trans rfl; have hcz25_6 : w24.cell? ⟨gb537, 6, none⟩ = some (.int .i64 ((rd_T32 l0 x8_1).f6)) := (blk_cell BK537.out 6).trans rfl; have hcz25_7 : w24.cell? ⟨gb537, 7, none⟩ = some (.int .i64 ((rd_T32 l0 x8_1).f7)) := (blk_cell BK537.out 7).trans rfl; have hcz25_8 : w24.cell? ⟨gb537, 8, none⟩ = some (.int .i64 ((rd_T32 l0 x8_1).f8)) := (blk_cell BK537.out 8).trans rfl; have hcz25_9 : w24.cell? ⟨gb537, 9, none⟩ = some (.int .i64 ((rd_T32 l0 x8_1).f9)) := (blk_cell BK537.out 9).trans rfl; have hcz25_10 : w24.cell? ⟨gb537, 10, none⟩ = some (.int .i64 ((rd_T32 l0 x8_1).f10)) := (blk_cell BK537.out 10).trans rfl; have hcz25_11 : w24.cell? ⟨gb537, 11, none⟩ = some (.slice ((rd_T32 l0 x8_1).f11).A ((rd_T32 l0 x8_1).f11).n ((rd_T32 l0 x8_1).f11).c) := (blk_cell BK537.out 11).trans rfl; have hfz25_0 := blk_frozen BK537.out 0; have hfz25_1 := blk_frozen BK537.out 1; have hfz25_2 := blk_frozen BK537.out 2; have hfz25_3 := blk_frozen BK537.out 3; have hfz25_4 := blk_frozen BK537.out 4; have hfz25_5 := blk_frozen BK537.out 5; have hfz25_6 := blk_frozen BK537.out 6; have hfz25_7 := blk_frozen BK537.out 7; have hfz25_8 := blk_frozen BK537.out 8; have hfz25_9 := blk_frozen BK537.out 9; have hfz25_10 := blk_frozen BK537.out 10; have hfz25_11 := blk_frozen BK537.out 11))
            repeat (go_quiet (fail); try go_wp2)
            go_roundg kj4
            case measure => have := HK1.out; have := HJ4.out; omega
            case rel => exact ⟨(x5_1), (x6_1), (x7_1), (wrap64 (x8_1 + 1)), ez, ez, ez, H', ⟨by have := HK1.out; have := HJ4.out; omega⟩, ⟨by (with_reducible repeat (first | apply Kd.R_alloc | apply Kd.R_drewN | apply Kd.R_drew)); exact Kd.R_mono HO_5.out (fun _ hk => trivial)⟩, ⟨mBs HB.out⟩⟩
          ·rw [if_neg c13] at H
           have c13b0 : decide (((rd_T32 l0 x8_1).f8) ≤ (wrap64 (a1))) = false := decide_eq_false c13
           clear c13
           have H' := Aside0.mk H
           clear H
           have p536 : 0 ≤ (x8_1 : Int) := oda
           have q536 : x8_1 < (l0.length : Int) := oda
           obtain ⟨ad536, e536, hx536_0, hx536_1, hx536_2, hx536_3, hx536_4, hx536_5, hx536_6, hx536_7, hx536_8, hx536_9, hx536_10, hx536_11⟩ := at_T32 HR0.out x8_1 p536 q536
           cases e536
           replace hx536_0 := hs_ HB.out hx536_0
           replace hx536_1 := hs_ HB.out hx536_1
           replace hx536_2 := hs_ HB.out hx536_2
           replace hx536_3 := hs_ HB.out hx536_3
           replace hx536_4 := hs_ HB.out hx536_4
           replace hx536_5 := hs_ HB.out hx536_5
           replace hx536_6 := hs_ HB.out hx536_6
           replace hx536_7 := hs_ HB.out hx536_7
           replace hx536_8 := hs_ HB.out hx536_8
           replace hx536_9 := hs_ HB.out hx536_9
           replace hx536_10 := hs_ HB.out hx536_10
           replace hx536_11 := hs_ HB.out hx536_11
           replace p536 := eq_true p536
           replace q536 := eq_true q536
           go_wp2_with (first | ((with_reducible refine gate_dst (N := 9) rfl ?_); refine box_event ?hg (N := 9) ?hd (cs := #[.int .i64 0, .int .i64 0, .int .i64 0, .int .i64 0, .int .i64 0, .int .i64 0, .int .i64 0, .int .i64 0, .int .i64 0, .int .i64 0, .int .i64 0, .slice none 0 0]) (t := 32) ?hr ?_; (case hd => rfl); (case hg => rfl); (case hr => first | (go_simp; done) | (go_simp; rfl)); intro gb537 hg w26 hbox hb; have n0_ := Aside0.mk (Kd.R_below (Kd.R_elderB (mR HO_5.out) gb537 (Nat.le_of_eq hg.symm)) hb); have n1_ := Aside0.mk (below_step (mB HB.out) hb); have n2_ := Aside0.mk (hbox); have n3_ := Aside0.mk ((by rw [hg]; exact (below_size (mB HB.out)) : w.heap.size ≤ gb537)); have n4_ := Aside0.mk ((by rw [hg]; exact (below_size (mB HB.out)) : w.heap.size ≤ gb537)); clear HO_5; clear HB; have HO_5 := n0_; have HB := n1_; have BK537 := n2_; have GW537 := n3_; have GE537 := n4_; clear n0_ n1_ n2_ n3_ n4_; clear hb hbox hg; have hcz27_0 : w26.cell? ⟨gb537, 0, none⟩ = some (.int .i64 0) := (blk_cell BK537.out 0).trans rfl; have hcz27_1 : w26.cell? ⟨gb537, 1, none⟩ = some (.int .i64 0) := (blk_cell BK537.out 1).trans rfl; have hcz27_2 : w26.cell? ⟨gb537, 2, none⟩ = some (.int .i64 0) := (blk_cell BK537.out 2).trans rfl; have hcz27_3 : w26.cell? ⟨gb537, 3, none⟩ = some (.int .i64 0) := (blk_cell BK537.out 3).trans rfl; have hcz27_4 : w26.cell? ⟨gb537, 4, none⟩ = some (.int .i64 0) := (blk_cell BK537.out 4).trans rfl; have hcz27_5 : w26.cell? ⟨gb537, 5, none⟩ = some (.int .i64 0) := (blk_cell BK537.out 5).trans rfl; have hcz27_6 : w26.cell? ⟨gb537, 6, none⟩ = some (.int .i64 0) := (blk_cell BK537.out 6).trans rfl; have hcz27_7 : w26.cell? ⟨gb537, 7, none⟩ = some (.int .i64 0) := (blk_cell BK537.out 7).trans rfl; have hcz27_8 : w26.cell? ⟨gb537, 8, none⟩ = some (.int .i64 0) := (blk_cell BK537.out 8).trans rfl; have hcz27_9 : w26.cell? ⟨gb537, 9, none⟩ = some (.int .i64 0) := (blk_cell BK537.out 9).trans rfl; have hcz27_10 : w26.cell? ⟨gb537, 10, none⟩ = some (.int .i64 0) := (blk_cell BK537.out 10).trans rfl; have hcz27_11 : w26.cell? ⟨gb537, 11, none⟩ = some (.slice none 0 0) := (blk_cell BK537.out 11).trans rfl; have hfz27_0 := blk_frozen BK537.out 0; have hfz27_1 := blk_frozen BK537.out 1; have hfz27_2 := blk_frozen BK537.out 2; have hfz27_3 := blk_frozen BK537.out 3; have hfz27_4 := blk_frozen BK537.out 4; have hfz27_5 := blk_frozen BK537.out 5; have hfz27_6 := blk_frozen BK537.out 6; have hfz27_7 := blk_frozen BK537.out 7; have hfz27_8 := blk_frozen BK537.out 8; have hfz27_9 := blk_frozen BK537.out 9; have hfz27_10 := blk_frozen BK537.out 10; have hfz27_11 := blk_frozen BK537.out 11) | (go_at_call 29; (with_reducible refine (job_GoodD.calls ((rd_T32 l0 x8_1).f0) ((rd_T32 l0 x8_1).f1) ((rd_T32 l0 x8_1).f2) ((rd_T32 l0 x8_1).f3) ((rd_T32 l0 x8_1).f4) ((rd_T32 l0 x8_1).f5) ((rd_T32 l0 x8_1).f6) ((rd_T32 l0 x8_1).f7) ((rd_T32 l0 x8_1).f8) ((rd_T32 l0 x8_1).f9) ((rd_T32 l0 x8_1).f10) ((rd_T32 l0 x8_1).f11) true _ (DWAt.of hdw (mBs HB.out)) A10.out).mono ?_); rintro e w28 ⟨rfl, hb⟩; have n0_ := Aside0.mk (Kd.R_below (by (with_reducible repeat (first | apply Kd.R_alloc | apply Kd.R_drewN | apply Kd.R_drew)); exact (Kd.R_mono (Kd.R_fa gb537 11 (Kd.R_fa gb537 10 (Kd.R_fa gb537 9 (Kd.R_fa gb537 8 (Kd.R_fa gb537 7 (Kd.R_fa gb537 6 (Kd.R_fa gb537 5 (Kd.R_fa gb537 4 (Kd.R_fa gb537 3 (Kd.R_fa gb537 2 (Kd.R_fa gb537 1 (Kd.R_fa gb537 0 (Kd.R_mono HO_5.out (fun k_ hk => (⟨hk, hk.2⟩ : _ ∧ k_ ≠ gb537))) (.int .i64 ((rd_T32 l0 x8_1).f0))) (.int .i64 ((rd_T32 l0 x8_1).f1))) (.int .i64 ((rd_T32 l0 x8_1).f2))) (.int .i64 ((rd_T32 l0 x8_1).f3))) (.int .i64 ((rd_T32 l0 x8_1).f4))) (.int .i64 ((rd_T32 l0 x8_1).f5))) (.int .i64 ((rd_T32 l0 x8_1).f6))) (.int .i64 ((rd_T32 l0 x8_1).f7))) (.int .i64 ((rd_T32 l0 x8_1).f8))) (.int .i64 ((rd_T32 l0 x8_1).f9))) (.int .i64 ((rd_T32 l0 x8_1).f10))) (.slice ((rd_T32 l0 x8_1).f11).A ((rd_T32 l0 x8_1).f11).n ((rd_T32 l0 x8_1).f11).c)) (fun _ h_ => h_.1))) hb); have n1_ := Aside0.mk (blk_below (g := gb537) (o := .cells (cJ (rd_T32 l0 x8_1)) 32 (0, 0)) (by (with_reducible repeat first | apply blk_drewN | apply blk_drew | apply blk_alloc); refine blk_put (cs := #[.int .i64 ((rd_T32 l0 x8_1).f0), .int .i64 ((rd_T32 l0 x8_1).f1), .int .i64 ((rd_T32 l0 x8_1).f2), .int .i64 ((rd_T32 l0 x8_1).f3), .int .i64 ((rd_T32 l0 x8_1).f4), .int .i64 ((rd_T32 l0 x8_1).f5), .int .i64 ((rd_T32 l0 x8_1).f6), .int .i64 ((rd_T32 l0 x8_1).f7), .int .i64 ((rd_T32 l0 x8_1).f8), .int .i64 ((rd_T32 l0 x8_1).f9), .int .i64 ((rd_T32 l0 x8_1).f10), .slice none 0 0]) ?_ 11 _ rfl; (with_reducible repeat first | apply blk_drewN | apply blk_drew | apply blk_alloc); refine blk_put (cs := #[.int .i64 ((rd_T32 l0 x8_1).f0), .int .i64 ((rd_T32 l0 x8_1).f1), .int .i64 ((rd_T32 l0 x8_1).f2), .int .i64 ((rd_T32 l0 x8_1).f3), .int .i64 ((rd_T32 l0 x8_1).f4), .int .i64 ((rd_T32 l0 x8_1).f5), .int .i64 ((rd_T32 l0 x8_1).f6), .int .i64 ((rd_T32 l0 x8_1).f7), .int .i64 ((rd_T32 l0 x8_1).f8), .int .i64 ((rd_T32 l0 x8_1).f9), .int .i64 0, .slice none 0 0]) ?_ 10 _ rfl; (with_reducible repeat first | apply blk_drewN | apply blk_drew | apply blk_alloc); refine blk_put (cs := #[.int .i64 ((rd_T32 l0 x8_1).f0), .int .i64 ((rd_T32 l0 x8_1).f1), .int .i64 ((rd_T32 l0 x8_1).f2), .int .i64 ((rd_T32 l0 x8_1).f3), .int .i64 ((rd_T32 l0 x8_1).f4), .int .i64 ((rd_T32 l0 x8_1).f5), .int .i64 ((rd_T32 l0 x8_1).f6), .int .i64 ((rd_T32 l0 x8_1).f7), .int .i64 ((rd_T32 l0 x8_1).f8), .int .i64 0, .int .i64 0, .slice none 0 0]) ?_ 9 _ rfl; (with_reducible repeat first | apply blk_drewN | apply blk_drew | apply blk_alloc); refine blk_put (cs := #[.int .i64 ((rd_T32 l0 x8_1).f0), .int .i64 ((rd_T32 l0 x8_1).f1), .int .i64 ((rd_T32 l0 x8_1).f2), .int .i64 ((rd_T32 l0 x8_1).f3), .int .i64 ((rd_T32 l0 x8_1).f4), .int .i64 ((rd_T32 l0 x8_1).f5), .int .i64 ((rd_T32 l0 x8_1).f6), .int .i64 ((rd_T32 l0 x8_1).f7), .int .i64 0, .int .i64 0, .int .i64 0, .slice none 0 0]) ?_ 8 _ rfl; (with_reducible repeat first | apply blk_drewN | apply blk_drew | apply blk_alloc); refine blk_put (cs := #[.int .i64 ((rd_T32 l0 x8_1).f0), .int .i64 ((rd_T32 l0 x8_1).f1), .int .i64 ((rd_T32 l0 x8_1).f2), .int .i64 ((rd_T32 l0 x8_1).f3), .int .i64 ((rd_T32 l0 x8_1).f4), .int .i64 ((rd_T32 l0 x8_1).f5), .int .i64 ((rd_T32 l0 x8_1).f6), .int .i64 0, .int .i64 0, .int .i64 0, .int .i64 0, .slice none 0 0]) ?_ 7 _ rfl; (with_reducible repeat first | apply blk_drewN | apply blk_drew | apply blk_alloc); refine blk_put (cs := #[.int .i64 ((rd_T32 l0 x8_1).f0), .int .i64 ((rd_T32 l0 x8_1).f1), .int .i64 ((rd_T32 l0 x8_1).f2), .int .i64 ((rd_T32 l0 x8_1).f3), .int .i64 ((rd_T32 l0 x8_1).f4), .int .i64 ((rd_T32 l0 x8_1).f5), .int .i64 0, .int .i64 0, .int .i64 0, .int .i64 0, .int .i64 0, .slice none 0 0]) ?_ 6 _ rfl; (with_reducible repeat first | apply blk_drewN | apply blk_drew | apply blk_alloc); refine blk_put (cs := #[.int .i64 ((rd_T32 l0 x8_1).f0), .int .i64 ((rd_T32 l0 x8_1).f1), .int .i64 ((rd_T32 l0 x8_1).f2), .int .i64 ((rd_T32 l0 x8_1).f3), .int .i64 ((rd_T32 l0 x8_1).f4), .int .i64 0, .int .i64 0, .int .i64 0, .int .i64 0, .int .i64 0, .int .i64 0, .slice none 0 0]) ?_ 5 _ rfl; (with_reducible repeat first | apply blk_drewN | apply blk_drew | apply blk_alloc); refine blk_put (cs := #[.int .i64 ((rd_T32 l0 x8_1).f0), .int .i64 ((rd_T32 l0 x8_1).f1), .int .i64 ((rd_T32 l0 x8_1).f2), .int .i64 ((rd_T32 l0 x8_1).f3), .int .i64 0, .int .i64 0, .int .i64 0, .int .i64 0, .int .i64 0, .int .i64 0, .int .i64 0, .slice none 0 0]) ?_ 4 _ rfl; (with_reducible repeat first | apply blk_drewN | apply blk_drew | apply blk_alloc); refine blk_put (cs := #[.int .i64 ((rd_T32 l0 x8_1).f0), .int .i64 ((rd_T32 l0 x8_1).f1), .int .i64 ((rd_T32 l0 x8_1).f2), .int .i64 0, .int .i64 0, .int .i64 0, .int .i64 0, .int .i64 0, .int .i64 0, .int .i64 0, .int .i64 0, .slice none 0 0]) ?_ 3 _ rfl; (with_reducible repeat first | apply blk_drewN | apply blk_drew | apply blk_alloc); refine blk_put (cs := #[.int .i64 ((rd_T32 l0 x8_1).f0), .int .i64 ((rd_T32 l0 x8_1).f1), .int .i64 0, .int .i64 0, .int .i64 0, .int .i64 0, .int .i64 0, .int .i64 0, .int .i64 0, .int .i64 0, .int .i64 0, .slice none 0 0]) ?_ 2 _ rfl; (with_reducible repeat first | apply blk_drewN | apply blk_drew | apply blk_alloc); refine blk_put (cs := #[.int .i64 ((rd_T32 l0 x8_1).f0), .int .i64 0, .int .i64 0, .int .i64 0, .int .i64 0, .int .i64 0, .int .i64 0, .int .i64 0, .int .i64 0, .int .i64 0, .int .i64 0, .slice none 0 0]) ?_ 1 _ rfl; (with_reducible repeat first | apply blk_drewN | apply blk_drew | apply blk_alloc); refine blk_put (cs := #[.int .i64 0, .int .i64 0, .int .i64 0, .int .i64 0, .int .i64 0, .int .i64 0, .int .i64 0, .int .i64 0, .int .i64 0, .int .i64 0, .int .i64 0, .slice none 0 0]) ?_ 0 _ rfl; (with_reducible repeat first | apply blk_drewN | apply blk_drew | apply blk_alloc); exact BK537.out) hb); have n2_ := Aside0.mk (below_step (mBs HB.out) hb); clear HO_5; clear BK537; clear HB; have HO_5 := n0_; have BK537 := n1_; have HB := n2_; clear n0_ n1_ n2_; (try clear hb); (try clear hb2); (try clear hk); (try clear hi); have hcz29_0 : w28.cell? ⟨gb537, 0, none⟩ = some (.int .i64 ((rd_T32 l0 x8_1).f0)) := (blk_cell BK537.out 0).trans rfl; have hcz29_1 : w28.cell? ⟨gb537, 1, none⟩ = some (.int .i64 ((rd_T32 l0 x8_1).f1)) := (blk_cell BK537.out 1).trans rfl; have hcz29_2 : w28.cell? ⟨gb537, 2, none⟩ = some (.int .i64 ((rd_T32 l0 x8_1).f2)) := (blk_cell BK537.out 2).trans rfl; have hcz29_3 : w28.cell? ⟨gb537, 3, none⟩ = some (.int .i64 ((rd_T32 l0 x8_1).f3)) := (blk_cell BK537.out 3).trans rfl; have hcz29_4 : w28.cell? ⟨gb537, 4, none⟩ = some (.int .i64 ((rd_T32 l0 x8_1).f4)) := (blk_cell BK537.out 4).trans rfl; have hcz29_5 : w28.cell? ⟨gb537, 5, none⟩ = some (.int .i64 ((rd_T32 l0 x8_1).f5)) := (blk_cell BK537.out 5).trans rfl; have hcz29_6 : w28.cell? ⟨gb537, 6, none⟩ = some (.int .i64 ((rd_T32 l0 x8_1).f6)) := (blk_cell BK537.out 6).trans rfl; have hcz29_7 : w28.cell? ⟨gb537, 7, none⟩ = some (.int .i64 ((rd_T32 l0 x8_1).f7)) := (blk_cell BK537.out 7).trans rfl; have hcz29_8 : w28.cell? ⟨gb537, 8, none⟩ = some (.int .i64 ((rd_T32 l0 x8_1).f8)) := (blk_cell BK537.out 8).trans rfl; have hcz29_9 : w28.cell? ⟨gb537, 9, none⟩ = some (.int .i64 ((rd_T32 l0 x8_1).f9)) := (blk_cell BK537.out 9).trans rfl; have hcz29_10 : w28.cell? ⟨gb537, 10, none⟩ = some (.int .i64 ((rd_T32 l0 x8_1).f10)) := (blk_cell BK537.out 10).trans rfl; have hcz29_11 : w28.cell? ⟨gb537, 11, none⟩ = some (.slice ((rd_T32 l0 x8_1).f11).A ((rd_T32 l0 x8_1).f11).n ((rd_T32 l0 x8_1).f11).c) := (blk_cell BK537.out 11).trans rfl; have hfz29_0 := blk_frozen BK537.out 0; have hfz29_1 := blk_frozen BK537.out 1; have hfz29_2 := blk_frozen BK537.out 2; have hfz29_3 := blk_frozen BK537.out 3; have hfz29_4 := blk_frozen BK537.out 4; have hfz29_5 := blk_frozen BK537.out 5; have hfz29_6 := blk_frozen BK537.out 6; have hfz29_7 := blk_frozen BK537.out 7; have hfz29_8 := blk_frozen BK537.out 8; have hfz29_9 := blk_frozen BK537.out 9; have hfz29_10 := blk_frozen BK537.out 10; have hfz29_11 := blk_frozen BK537.out 11))
           repeat (go_quiet (fail); try go_wp2)
           go_roundg kj4
           case measure => have := HK1.out; have := HJ4.out; omega
           case rel => exact ⟨(x5_1), (x6_1), (x7_1), (wrap64 (x8_1 + 1)), ez, ez, ez, H', ⟨by have := HK1.out; have := HJ4.out; omega⟩, ⟨by (with_reducible repeat (first | apply Kd.R_alloc | apply Kd.R_drewN | apply Kd.R_drew)); exact Kd.R_mono HO_5.out (fun _ hk => trivial)⟩, ⟨mBs HB.out⟩⟩
         ·rw [if_neg c12] at H
          have c12b0 : (((rd_T32 l0 x8_1).f7) == 3) = false := beq_eq_false_iff_ne.mpr c12
          have c12b1 : (((rd_T32 l0 x8_1).f7) != 3) = true := bne_iff_ne.mpr c12
          have H' := Aside0.mk H
          clear H
          have p536 : 0 ≤ (x8_1 : Int) := oda
          have q536 : x8_1 < (l0.length : Int) := oda
          obtain ⟨ad536, e536, hx536_0, hx536_1, hx536_2, hx536_3, hx536_4, hx536_5, hx536_6, hx536_7, hx536_8, hx536_9, hx536_10, hx536_11⟩ := at_T32 HR0.out x8_1 p536 q536
          cases e536
          replace hx536_0 := hs_ HB.out hx536_0
          replace hx536_1 := hs_ HB.out hx536_1
          replace hx536_2 := hs_ HB.out hx536_2
          replace hx536_3 := hs_ HB.out hx536_3
          replace hx536_4 := hs_ HB.out hx536_4
          replace hx536_5 := hs_ HB.out hx536_5
          replace hx536_6 := hs_ HB.out hx536_6
          replace hx536_7 := hs_ HB.out hx536_7
          replace hx536_8 := hs_ HB.out hx536_8
          replace hx536_9 := hs_ HB.out hx536_9
          replace hx536_10 := hs_ HB.out hx536_10
          replace hx536_11 := hs_ HB.out hx536_11
          replace p536 := eq_true p536
          replace q536 := eq_true q536
          go_wp2_with (first | ((with_reducible refine gate_dst (N := 9) rfl ?_); refine box_event ?hg (N := 9) ?hd (cs := #[.int .i64 0, .int .i64 0, .int .i64 0, .int .i64 0, .int .i64 0, .int .i64 0, .int .i64 0, .int .i64 0, .int .i64 0, .int .i64 0, .int .i64 0, .slice none 0 0]) (t := 32) ?hr ?_; (case hd => rfl); (case hg => rfl); (case hr => first | (go_simp; done) | (go_simp; rfl)); intro gb537 hg w30 hbox hb; have n0_ := Aside0.mk (Kd.R_below (Kd.R_elderB (mR HO_5.out) gb537 (Nat.le_of_eq hg.symm)) hb); have n1_ := Aside0.mk (below_step (mB HB.out) hb); have n2_ := Aside0.mk (hbox); have n3_ := Aside0.mk ((by rw [hg]; exact (below_size (mB HB.out)) : w.heap.size ≤ gb537)); have n4_ := Aside0.mk ((by rw [hg]; exact (below_size (mB HB.out)) : w.heap.size ≤ gb537)); clear HO_5; clear HB; have HO_5 := n0_; have HB := n1_; have BK537 := n2_; have GW537 := n3_; have GE537 := n4_; clear n0_ n1_ n2_ n3_ n4_; clear hb hbox hg; have hcz31_0 : w30.cell? ⟨gb537, 0, none⟩ = some (.int .i64 0) := (blk_cell BK537.out 0).trans rfl; have hcz31_1 : w30.cell? ⟨gb537, 1, none⟩ = some (.int .i64 0) := (blk_cell BK537.out 1).trans rfl; have hcz31_2 : w30.cell? ⟨gb537, 2, none⟩ = some (.int .i64 0) := (blk_cell BK537.out 2).trans rfl; have hcz31_3 : w30.cell? ⟨gb537, 3, none⟩ = some (.int .i64 0) := (blk_cell BK537.out 3).trans rfl; have hcz31_4 : w30.cell? ⟨gb537, 4, none⟩ = some (.int .i64 0) := (blk_cell BK537.out 4).trans rfl; have hcz31_5 : w30.cell? ⟨gb537, 5, none⟩ = some (.int .i64 0) := (blk_cell BK537.out 5).trans rfl; have hcz31_6 : w30.cell? ⟨gb537, 6, none⟩ = some (.int .i64 0) := (blk_cell BK537.out 6).trans rfl; have hcz31_7 : w30.cell? ⟨gb537, 7, none⟩ = some (.int .i64 0) := (blk_cell BK537.out 7).trans rfl; have hcz31_8 : w30.cell? ⟨gb537, 8, none⟩ = some (.int .i64 0) := (blk_cell BK537.out 8).trans rfl; have hcz31_9 : w30.cell? ⟨gb537, 9, none⟩ = some (.int .i64 0) := (blk_cell BK537.out 9).trans rfl; have hcz31_10 : w30.cell? ⟨gb537, 10, none⟩ = some (.int .i64 0) := (blk_cell BK537.out 10).trans rfl; have hcz31_11 : w30.cell? ⟨gb537, 11, none⟩ = some (.slice none 0 0) := (blk_cell BK537.out 11).trans rfl; have hfz31_0 := blk_frozen BK537.out 0; have hfz31_1 := blk_frozen BK537.out 1; have hfz31_2 := blk_frozen BK537.out 2; have hfz31_3 := blk_frozen BK537.out 3; have hfz31_4 := blk_frozen BK537.out 4; have hfz31_5 := blk_frozen BK537.out 5; have hfz31_6 := blk_frozen BK537.out 6; have hfz31_7 := blk_frozen BK537.out 7; have hfz31_8 := blk_frozen BK537.out 8; have hfz31_9 := blk_frozen BK537.out 9; have hfz31_10 := blk_frozen BK537.out 10; have hfz31_11 := blk_frozen BK537.out 11) | (go_at_call 29; (with_reducible refine (job_GoodD.calls ((rd_T32 l0 x8_1).f0) ((rd_T32 l0 x8_1).f1) ((rd_T32 l0 x8_1).f2) ((rd_T32 l0 x8_1).f3) ((rd_T32 l0 x8_1).f4) ((rd_T32 l0 x8_1).f5) ((rd_T32 l0 x8_1).f6) ((rd_T32 l0 x8_1).f7) ((rd_T32 l0 x8_1).f8) ((rd_T32 l0 x8_1).f9) ((rd_T32 l0 x8_1).f10) ((rd_T32 l0 x8_1).f11) true _ (DWAt.of hdw (mBs HB.out)) A10.out).mono ?_); rintro e w32 ⟨rfl, hb⟩; have n0_ := Aside0.mk (Kd.R_below (by (with_reducible repeat (first | apply Kd.R_alloc | apply Kd.R_drewN | apply Kd.R_drew)); exact (Kd.R_mono (Kd.R_fa gb537 11 (Kd.R_fa gb537 10 (Kd.R_fa gb537 9 (Kd.R_fa gb537 8 (Kd.R_fa gb537 7 (Kd.R_fa gb537 6 (Kd.R_fa gb537 5 (Kd.R_fa gb537 4 (Kd.R_fa gb537 3 (Kd.R_fa gb537 2 (Kd.R_fa gb537 1 (Kd.R_fa gb537 0 (Kd.R_mono HO_5.out (fun k_ hk => (⟨hk, hk.2⟩ : _ ∧ k_ ≠ gb537))) (.int .i64 ((rd_T32 l0 x8_1).f0))) (.int .i64 ((rd_T32 l0 x8_1).f1))) (.int .i64 ((rd_T32 l0 x8_1).f2))) (.int .i64 ((rd_T32 l0 x8_1).f3))) (.int .i64 ((rd_T32 l0 x8_1).f4))) (.int .i64 ((rd_T32 l0 x8_1).f5))) (.int .i64 ((rd_T32 l0 x8_1).f6))) (.int .i64 ((rd_T32 l0 x8_1).f7))) (.int .i64 ((rd_T32 l0 x8_1).f8))) (.int .i64 ((rd_T32 l0 x8_1).f9))) (.int .i64 ((rd_T32 l0 x8_1).f10))) (.slice ((rd_T32 l0 x8_1).f11).A ((rd_T32 l0 x8_1).f11).n ((rd_T32 l0 x8_1).f11).c)) (fun _ h_ => h_.1))) hb); have n1_ := Aside0.mk (blk_below (g := gb537) (o := .cells (cJ (rd_T32 l0 x8_1)) 32 (0, 0)) (by (with_reducible repeat first | apply blk_drewN | apply blk_drew | apply blk_alloc); refine blk_put (cs := #[.int .i64 ((rd_T32 l0 x8_1).f0), .int .i64 ((rd_T32 l0 x8_1).f1), .int .i64 ((rd_T32 l0 x8_1).f2), .int .i64 ((rd_T32 l0 x8_1).f3), .int .i64 ((rd_T32 l0 x8_1).f4), .int .i64 ((rd_T32 l0 x8_1).f5), .int .i64 ((rd_T32 l0 x8_1).f6), .int .i64 ((rd_T32 l0 x8_1).f7), .int .i64 ((rd_T32 l0 x8_1).f8), .int .i64 ((rd_T32 l0 x8_1).f9), .int .i64 ((rd_T32 l0 x8_1).f10), .slice none 0 0]) ?_ 11 _ rfl; (with_reducible repeat first | apply blk_drewN | apply blk_drew | apply blk_alloc); refine blk_put (cs := #[.int .i64 ((rd_T32 l0 x8_1).f0), .int .i64 ((rd_T32 l0 x8_1).f1), .int .i64 ((rd_T32 l0 x8_1).f2), .int .i64 ((rd_T32 l0 x8_1).f3), .int .i64 ((rd_T32 l0 x8_1).f4), .int .i64 ((rd_T32 l0 x8_1).f5), .int .i64 ((rd_T32 l0 x8_1).f6), .int .i64 ((rd_T32 l0 x8_1).f7), .int .i64 ((rd_T32 l0 x8_1).f8), .int .i64 ((rd_T32 l0 x8_1).f9), .int .i64 0, .slice none 0 0]) ?_ 10 _ rfl; (with_reducible repeat first | apply blk_drewN | apply blk_drew | apply blk_alloc); refine blk_put (cs := #[.int .i64 ((rd_T32 l0 x8_1).f0), .int .i64 ((rd_T32 l0 x8_1).f1), .int .i64 ((rd_T32 l0 x8_1).f2), .int .i64 ((rd_T32 l0 x8_1).f3), .int .i64 ((rd_T32 l0 x8_1).f4), .int .i64 ((rd_T32 l0 x8_1).f5), .int .i64 ((rd_T32 l0 x8_1).f6), .int .i64 ((rd_T32 l0 x8_1).f7), .int .i64 ((rd_T32 l0 x8_1).f8), .int .i64 0, .int .i64 0, .slice none 0 0]) ?_ 9 _ rfl; (with_reducible repeat first | apply blk_drewN | apply blk_drew | apply blk_alloc); refine blk_put (cs := #[.int .i64 ((rd_T32 l0 x8_1).f0), .int .i64 ((rd_T32 l0 x8_1).f1), .int .i64 ((rd_T32 l0 x8_1).f2), .int .i64 ((rd_T32 l0 x8_1).f3), .int .i64 ((rd_T32 l0 x8_1).f4), .int .i64 ((rd_T32 l0 x8_1).f5), .int .i64 ((rd_T32 l0 x8_1).f6), .int .i64 ((rd_T32 l0 x8_1).f7), .int .i64 0, .int .i64 0, .int .i64 0, .slice none 0 0]) ?_ 8 _ rfl; (with_reducible repeat first | apply blk_drewN | apply blk_drew | apply blk_alloc); refine blk_put (cs := #[.int .i64 ((rd_T32 l0 x8_1).f0), .int .i64 ((rd_T32 l0 x8_1).f1), .int .i64 ((rd_T32 l0 x8_1).f2), .int .i64 ((rd_T32 l0 x8_1).f3), .int .i64 ((rd_T32 l0 x8_1).f4), .int .i64 ((rd_T32 l0 x8_1).f5), .int .i64 ((rd_T32 l0 x8_1).f6), .int .i64 0, .int .i64 0, .int .i64 0, .int .i64 0, .slice none 0 0]) ?_ 7 _ rfl; (with_reducible repeat first | apply blk_drewN | apply blk_drew | apply blk_alloc); refine blk_put (cs := #[.int .i64 ((rd_T32 l0 x8_1).f0), .int .i64 ((rd_T32 l0 x8_1).f1), .int .i64 ((rd_T32 l0 x8_1).f2), .int .i64 ((rd_T32 l0 x8_1).f3), .int .i64 ((rd_T32 l0 x8_1).f4), .int .i64 ((rd_T32 l0 x8_1).f5), .int .i64 0, .int .i64 0, .int .i64 0, .int .i64 0, .int .i64 0, .slice none 0 0]) ?_ 6 _ rfl; (with_reducible repeat first | apply blk_drewN | apply blk_drew | apply blk_alloc); refine blk_put (cs := #[.int .i64 ((rd_T32 l0 x8_1).f0), .int .i64 ((rd_T32 l0 x8_1).f1), .int .i64 ((rd_T32 l0 x8_1).f2), .int .i64 ((rd_T32 l0 x8_1).f3), .int .i64 ((rd_T32 l0 x8_1).f4), .int .i64 0, .int .i64 0, .int .i64 0, .int .i64 0, .int .i64 0, .int .i64 0, .slice none 0 0]) ?_ 5 _ rfl; (with_reducible repeat first | apply blk_drewN | apply blk_drew | apply blk_alloc); refine blk_put (cs := #[.int .i64 ((rd_T32 l0 x8_1).f0), .int .i64 ((rd_T32 l0 x8_1).f1), .int .i64 ((rd_T32 l0 x8_1).f2), .int .i64 ((rd_T32 l0 x8_1).f3), .int .i64 0, .int .i64 0, .int .i64 0, .int .i64 0, .int .i64 0, .int .i64 0, .int .i64 0, .slice none 0 0]) ?_ 4 _ rfl; (with_reducible repeat first | apply blk_drewN | apply blk_drew | apply blk_alloc); refine blk_put (cs := #[.int .i64 ((rd_T32 l0 x8_1).f0), .int .i64 ((rd_T32 l0 x8_1).f1), .int .i64 ((rd_T32 l0 x8_1).f2), .int .i64 0, .int .i64 0, .int .i64 0, .int .i64 0, .int .i64 0, .int .i64 0, .int .i64 0, .int .i64 0, .slice none 0 0]) ?_ 3 _ rfl; (with_reducible repeat first | apply blk_drewN | apply blk_drew | apply blk_alloc); refine blk_put (cs := #[.int .i64 ((rd_T32 l0 x8_1).f0), .int .i64 ((rd_T32 l0 x8_1).f1), .int .i64 0, .int .i64 0, .int .i64 0, .int .i64 0, .int .i64 0, .int .i64 0, .int .i64 0, .int .i64 0, .int .i64 0, .slice none 0 0]) ?_ 2 _ rfl; (with_reducible repeat first | apply blk_drewN | apply blk_drew | apply blk_alloc); refine blk_put (cs := #[.int .i64 ((rd_T32 l0 x8_1).f0), .int .i64 0, .int .i64 0, .int .i64 0, .int .i64 0, .int .i64 0, .int .i64 0, .int .i64 0, .int .i64 0, .int .i64 0, .int .i64 0, .slice none 0 0]) ?_ 1 _ rfl; (with_reducible repeat first | apply blk_drewN | apply blk_drew | apply blk_alloc); refine blk_put (cs := #[.int .i64 0, .int .i64 0, .int .i64 0, .int .i64 0, .int .i64 0, .int .i64 0, .int .i64 0, .int .i64 0, .int .i64 0, .int .i64 0, .int .i64 0, .slice none 0 0]) ?_ 0 _ rfl; (with_reducible repeat first | apply blk_drewN | apply blk_drew | apply blk_alloc); exact BK537.out) hb); have n2_ := Aside0.mk (below_step (mBs HB.out) hb); clear HO_5; clear BK537; clear HB; have HO_5 := n0_; have BK537 := n1_; have HB := n2_; clear n0_ n1_ n2_; (try clear hb); (try clear hb2); (try clear hk); (try clear hi); have hcz33_0 : w32.cell? ⟨gb537, 0, none⟩ = some (.int .i64 ((rd_T32 l0 x8_1).f0)) := (blk_cell BK537.out 0).trans rfl; have hcz33_1 : w32.cell? ⟨gb537, 1, none⟩ = some (.int .i64 ((rd_T32 l0 x8_1).f1)) := (blk_cell BK537.out 1).trans rfl; have hcz33_2 : w32.cell? ⟨gb537, 2, none⟩ = some (.int .i64 ((rd_T32 l0 x8_1).f2)) := (blk_cell BK537.out 2).trans rfl; have hcz33_3 : w32.cell? ⟨gb537, 3, none⟩ = some (.int .i64 ((rd_T32 l0 x8_1).f3)) := (blk_cell BK537.out 3).trans rfl; have hcz33_4 : w32.cell? ⟨gb537, 4, none⟩ = some (.int .i64 ((rd_T32 l0 x8_1).f4)) := (blk_cell BK537.out 4).trans rfl; have hcz33_5 : w32.cell? ⟨gb537, 5, none⟩ = some (.int .i64 ((rd_T32 l0 x8_1).f5)) := (blk_cell BK537.out 5).trans rfl; have hcz33_6 : w32.cell? ⟨gb537, 6, none⟩ = some (.int .i64 ((rd_T32 l0 x8_1).f6)) := (blk_cell BK537.out 6).trans rfl; have hcz33_7 : w32.cell? ⟨gb537, 7, none⟩ = some (.int .i64 ((rd_T32 l0 x8_1).f7)) := (blk_cell BK537.out 7).trans rfl; have hcz33_8 : w32.cell? ⟨gb537, 8, none⟩ = some (.int .i64 ((rd_T32 l0 x8_1).f8)) := (blk_cell BK537.out 8).trans rfl; have hcz33_9 : w32.cell? ⟨gb537, 9, none⟩ = some (.int .i64 ((rd_T32 l0 x8_1).f9)) := (blk_cell BK537.out 9).trans rfl; have hcz33_10 : w32.cell? ⟨gb537, 10, none⟩ = some (.int .i64 ((rd_T32 l0 x8_1).f10)) := (blk_cell BK537.out 10).trans rfl; have hcz33_11 : w32.cell? ⟨gb537, 11, none⟩ = some (.slice ((rd_T32 l0 x8_1).f11).A ((rd_T32 l0 x8_1).f11).n ((rd_T32 l0 x8_1).f11).c) := (blk_cell BK537.out 11).trans rfl; have hfz33_0 := blk_frozen BK537.out 0; have hfz33_1 := blk_frozen BK537.out 1; have hfz33_2 := blk_frozen BK537.out 2; have hfz33_3 := blk_frozen BK537.out 3; have hfz33_4 := blk_frozen BK537.out 4; have hfz33_5 := blk_frozen BK537.out 5; have hfz33_6 := blk_frozen BK537.out 6; have hfz33_7 := blk_frozen BK537.out 7; have hfz33_8 := blk_frozen BK537.out 8; have hfz33_9 := blk_frozen BK537.out 9; have hfz33_10 := blk_frozen BK537.out 10; have hfz33_11 := blk_frozen BK537.out 11))
          repeat (go_quiet (fail); try go_wp2)
          go_roundg kj4
          case measure => have := HK1.out; have := HJ4.out; omega
          case rel => exact ⟨(x5_1), (x6_1), (x7_1), (wrap64 (x8_1 + 1)), ez, ez, ez, H', ⟨by have := HK1.out; have := HJ4.out; omega⟩, ⟨by (with_reducible repeat (first | apply Kd.R_alloc | apply Kd.R_drewN | apply Kd.R_drew)); exact Kd.R_mono HO_5.out (fun _ hk => trivial)⟩, ⟨mBs HB.out⟩⟩
        ·replace c11 := Bool.eq_false_iff.mpr c11
         subst c11
         have H1 : (prebendlaw19_JobApart.l0 kj4 l0 a1 x5_1 x6_1 x7_1 (wrap64 (x8_1 + 1))) = some true := by rw [if_neg (show ¬ (false = true) by decide)] at H; exact H
         clear H
         have H := H1
         clear H1
         have H' := Aside0.mk H
         clear H
         have p536 : 0 ≤ (x8_1 : Int) := oda
         have q536 : x8_1 < (l0.length : Int) := oda
         obtain ⟨ad536, e536, hx536_0, hx536_1, hx536_2, hx536_3, hx536_4, hx536_5, hx536_6, hx536_7, hx536_8, hx536_9, hx536_10, hx536_11⟩ := at_T32 HR0.out x8_1 p536 q536
         cases e536
         replace hx536_0 := hs_ HB.out hx536_0
         replace hx536_1 := hs_ HB.out hx536_1
         replace hx536_2 := hs_ HB.out hx536_2
         replace hx536_3 := hs_ HB.out hx536_3
         replace hx536_4 := hs_ HB.out hx536_4
         replace hx536_5 := hs_ HB.out hx536_5
         replace hx536_6 := hs_ HB.out hx536_6
         replace hx536_7 := hs_ HB.out hx536_7
         replace hx536_8 := hs_ HB.out hx536_8
         replace hx536_9 := hs_ HB.out hx536_9
         replace hx536_10 := hs_ HB.out hx536_10
         replace hx536_11 := hs_ HB.out hx536_11
         replace p536 := eq_true p536
         replace q536 := eq_true q536
         go_wp2_with (first | ((with_reducible refine gate_dst (N := 9) rfl ?_); refine box_event ?hg (N := 9) ?hd (cs := #[.int .i64 0, .int .i64 0, .int .i64 0, .int .i64 0, .int .i64 0, .int .i64 0, .int .i64 0, .int .i64 0, .int .i64 0, .int .i64 0, .int .i64 0, .slice none 0 0]) (t := 32) ?hr ?_; (case hd => rfl); (case hg => rfl); (case hr => first | (go_simp; done) | (go_simp; rfl)); intro gb537 hg w34 hbox hb; have n0_ := Aside0.mk (Kd.R_below (Kd.R_elderB (mR HO_5.out) gb537 (Nat.le_of_eq hg.symm)) hb); have n1_ := Aside0.mk (below_step (mB HB.out) hb); have n2_ := Aside0.mk (hbox); have n3_ := Aside0.mk ((by rw [hg]; exact (below_size (mB HB.out)) : w.heap.size ≤ gb537)); have n4_ := Aside0.mk ((by rw [hg]; exact (below_size (mB HB.out)) : w.heap.size ≤ gb537)); clear HO_5; clear HB; have HO_5 := n0_; have HB := n1_; have BK537 := n2_; have GW537 := n3_; have GE537 := n4_; clear n0_ n1_ n2_ n3_ n4_; clear hb hbox hg; have hcz35_0 : w34.cell? ⟨gb537, 0, none⟩ = some (.int .i64 0) := (blk_cell BK537.out 0).trans rfl; have hcz35_1 : w34.cell? ⟨gb537, 1, none⟩ = some (.int .i64 0) := (blk_cell BK537.out 1).trans rfl; have hcz35_2 : w34.cell? ⟨gb537, 2, none⟩ = some (.int .i64 0) := (blk_cell BK537.out 2).trans rfl; have hcz35_3 : w34.cell? ⟨gb537, 3, none⟩ = some (.int .i64 0) := (blk_cell BK537.out 3).trans rfl; have hcz35_4 : w34.cell? ⟨gb537, 4, none⟩ = some (.int .i64 0) := (blk_cell BK537.out 4).trans rfl; have hcz35_5 : w34.cell? ⟨gb537, 5, none⟩ = some (.int .i64 0) := (blk_cell BK537.out 5).trans rfl; have hcz35_6 : w34.cell? ⟨gb537, 6, none⟩ = some (.int .i64 0) := (blk_cell BK537.out 6).trans rfl; have hcz35_7 : w34.cell? ⟨gb537, 7, none⟩ = some (.int .i64 0) := (blk_cell BK537.out 7).trans rfl; have hcz35_8 : w34.cell? ⟨gb537, 8, none⟩ = some (.int .i64 0) := (blk_cell BK537.out 8).trans rfl; have hcz35_9 : w34.cell? ⟨gb537, 9, none⟩ = some (.int .i64 0) := (blk_cell BK537.out 9).trans rfl; have hcz35_10 : w34.cell? ⟨gb537, 10, none⟩ = some (.int .i64 0) := (blk_cell BK537.out 10).trans rfl; have hcz35_11 : w34.cell? ⟨gb537, 11, none⟩ = some (.slice none 0 0) := (blk_cell BK537.out 11).trans rfl; have hfz35_0 := blk_frozen BK537.out 0; have hfz35_1 := blk_frozen BK537.out 1; have hfz35_2 := blk_frozen BK537.out 2; have hfz35_3 := blk_frozen BK537.out 3; have hfz35_4 := blk_frozen BK537.out 4; have hfz35_5 := blk_frozen BK537.out 5; have hfz35_6 := blk_frozen BK537.out 6; have hfz35_7 := blk_frozen BK537.out 7; have hfz35_8 := blk_frozen BK537.out 8; have hfz35_9 := blk_frozen BK537.out 9; have hfz35_10 := blk_frozen BK537.out 10; have hfz35_11 := blk_frozen BK537.out 11) | (go_at_call 29; (with_reducible refine (job_GoodD.calls ((rd_T32 l0 x8_1).f0) ((rd_T32 l0 x8_1).f1) ((rd_T32 l0 x8_1).f2) ((rd_T32 l0 x8_1).f3) ((rd_T32 l0 x8_1).f4) ((rd_T32 l0 x8_1).f5) ((rd_T32 l0 x8_1).f6) ((rd_T32 l0 x8_1).f7) ((rd_T32 l0 x8_1).f8) ((rd_T32 l0 x8_1).f9) ((rd_T32 l0 x8_1).f10) ((rd_T32 l0 x8_1).f11) false _ (DWAt.of hdw (mBs HB.out)) A10.out).mono ?_); rintro e w36 ⟨rfl, hb⟩; have n0_ := Aside0.mk (Kd.R_below (by (with_reducible repeat (first | apply Kd.R_alloc | apply Kd.R_drewN | apply Kd.R_drew)); exact (Kd.R_mono (Kd.R_fa gb537 11 (Kd.R_fa gb537 10 (Kd.R_fa gb537 9 (Kd.R_fa gb537 8 (Kd.R_fa gb537 7 (Kd.R_fa gb537 6 (Kd.R_fa gb537 5 (Kd.R_fa gb537 4 (Kd.R_fa gb537 3 (Kd.R_fa gb537 2 (Kd.R_fa gb537 1 (Kd.R_fa gb537 0 (Kd.R_mono HO_5.out (fun k_ hk => (⟨hk, hk.2⟩ : _ ∧ k_ ≠ gb537))) (.int .i64 ((rd_T32 l0 x8_1).f0))) (.int .i64 ((rd_T32 l0 x8_1).f1))) (.int .i64 ((rd_T32 l0 x8_1).f2))) (.int .i64 ((rd_T32 l0 x8_1).f3))) (.int .i64 ((rd_T32 l0 x8_1).f4))) (.int .i64 ((rd_T32 l0 x8_1).f5))) (.int .i64 ((rd_T32 l0 x8_1).f6))) (.int .i64 ((rd_T32 l0 x8_1).f7))) (.int .i64 ((rd_T32 l0 x8_1).f8))) (.int .i64 ((rd_T32 l0 x8_1).f9))) (.int .i64 ((rd_T32 l0 x8_1).f10))) (.slice ((rd_T32 l0 x8_1).f11).A ((rd_T32 l0 x8_1).f11).n ((rd_T32 l0 x8_1).f11).c)) (fun _ h_ => h_.1))) hb); have n1_ := Aside0.mk (blk_below (g := gb537) (o := .cells (cJ (rd_T32 l0 x8_1)) 32 (0, 0)) (by (with_reducible repeat first | apply blk_drewN | apply blk_drew | apply blk_alloc); refine blk_put (cs := #[.int .i64 ((rd_T32 l0 x8_1).f0), .int .i64 ((rd_T32 l0 x8_1).f1), .int .i64 ((rd_T32 l0 x8_1).f2), .int .i64 ((rd_T32 l0 x8_1).f3), .int .i64 ((rd_T32 l0 x8_1).f4), .int .i64 ((rd_T32 l0 x8_1).f5), .int .i64 ((rd_T32 l0 x8_1).f6), .int .i64 ((rd_T32 l0 x8_1).f7), .int .i64 ((rd_T32 l0 x8_1).f8), .int .i64 ((rd_T32 l0 x8_1).f9), .int .i64 ((rd_T32 l0 x8_1).f10), .slice none 0 0]) ?_ 11 _ rfl; (with_reducible repeat first | apply blk_drewN | apply blk_drew | apply blk_alloc); refine blk_put (cs := #[.int .i64 ((rd_T32 l0 x8_1).f0), .int .i64 ((rd_T32 l0 x8_1).f1), .int .i64 ((rd_T32 l0 x8_1).f2), .int .i64 ((rd_T32 l0 x8_1).f3), .int .i64 ((rd_T32 l0 x8_1).f4), .int .i64 ((rd_T32 l0 x8_1).f5), .int .i64 ((rd_T32 l0 x8_1).f6), .int .i64 ((rd_T32 l0 x8_1).f7), .int .i64 ((rd_T32 l0 x8_1).f8), .int .i64 ((rd_T32 l0 x8_1).f9), .int .i64 0, .slice none 0 0]) ?_ 10 _ rfl; (with_reducible repeat first | apply blk_drewN | apply blk_drew | apply blk_alloc); refine blk_put (cs := #[.int .i64 ((rd_T32 l0 x8_1).f0), .int .i64 ((rd_T32 l0 x8_1).f1), .int .i64 ((rd_T32 l0 x8_1).f2), .int .i64 ((rd_T32 l0 x8_1).f3), .int .i64 ((rd_T32 l0 x8_1).f4), .int .i64 ((rd_T32 l0 x8_1).f5), .int .i64 ((rd_T32 l0 x8_1).f6), .int .i64 ((rd_T32 l0 x8_1).f7), .int .i64 ((rd_T32 l0 x8_1).f8), .int .i64 0, .int .i64 0, .slice none 0 0]) ?_ 9 _ rfl; (with_reducible repeat first | apply blk_drewN | apply blk_drew | apply blk_alloc); refine blk_put (cs := #[.int .i64 ((rd_T32 l0 x8_1).f0), .int .i64 ((rd_T32 l0 x8_1).f1), .int .i64 ((rd_T32 l0 x8_1).f2), .int .i64 ((rd_T32 l0 x8_1).f3), .int .i64 ((rd_T32 l0 x8_1).f4), .int .i64 ((rd_T32 l0 x8_1).f5), .int .i64 ((rd_T32 l0 x8_1).f6), .int .i64 ((rd_T32 l0 x8_1).f7), .int .i64 0, .int .i64 0, .int .i64 0, .slice none 0 0]) ?_ 8 _ rfl; (with_reducible repeat first | apply blk_drewN | apply blk_drew | apply blk_alloc); refine blk_put (cs := #[.int .i64 ((rd_T32 l0 x8_1).f0), .int .i64 ((rd_T32 l0 x8_1).f1), .int .i64 ((rd_T32 l0 x8_1).f2), .int .i64 ((rd_T32 l0 x8_1).f3), .int .i64 ((rd_T32 l0 x8_1).f4), .int .i64 ((rd_T32 l0 x8_1).f5), .int .i64 ((rd_T32 l0 x8_1).f6), .int .i64 0, .int .i64 0, .int .i64 0, .int .i64 0, .slice none 0 0]) ?_ 7 _ rfl; (with_reducible repeat first | apply blk_drewN | apply blk_drew | apply blk_alloc); refine blk_put (cs := #[.int .i64 ((rd_T32 l0 x8_1).f0), .int .i64 ((rd_T32 l0 x8_1).f1), .int .i64 ((rd_T32 l0 x8_1).f2), .int .i64 ((rd_T32 l0 x8_1).f3), .int .i64 ((rd_T32 l0 x8_1).f4), .int .i64 ((rd_T32 l0 x8_1).f5), .int .i64 0, .int .i64 0, .int .i64 0, .int .i64 0, .int .i64 0, .slice none 0 0]) ?_ 6 _ rfl; (with_reducible repeat first | apply blk_drewN | apply blk_drew | apply blk_alloc); refine blk_put (cs := #[.int .i64 ((rd_T32 l0 x8_1).f0), .int .i64 ((rd_T32 l0 x8_1).f1), .int .i64 ((rd_T32 l0 x8_1).f2), .int .i64 ((rd_T32 l0 x8_1).f3), .int .i64 ((rd_T32 l0 x8_1).f4), .int .i64 0, .int .i64 0, .int .i64 0, .int .i64 0, .int .i64 0, .int .i64 0, .slice none 0 0]) ?_ 5 _ rfl; (with_reducible repeat first | apply blk_drewN | apply blk_drew | apply blk_alloc); refine blk_put (cs := #[.int .i64 ((rd_T32 l0 x8_1).f0), .int .i64 ((rd_T32 l0 x8_1).f1), .int .i64 ((rd_T32 l0 x8_1).f2), .int .i64 ((rd_T32 l0 x8_1).f3), .int .i64 0, .int .i64 0, .int .i64 0, .int .i64 0, .int .i64 0, .int .i64 0, .int .i64 0, .slice none 0 0]) ?_ 4 _ rfl; (with_reducible repeat first | apply blk_drewN | apply blk_drew | apply blk_alloc); refine blk_put (cs := #[.int .i64 ((rd_T32 l0 x8_1).f0), .int .i64 ((rd_T32 l0 x8_1).f1), .int .i64 ((rd_T32 l0 x8_1).f2), .int .i64 0, .int .i64 0, .int .i64 0, .int .i64 0, .int .i64 0, .int .i64 0, .int .i64 0, .int .i64 0, .slice none 0 0]) ?_ 3 _ rfl; (with_reducible repeat first | apply blk_drewN | apply blk_drew | apply blk_alloc); refine blk_put (cs := #[.int .i64 ((rd_T32 l0 x8_1).f0), .int .i64 ((rd_T32 l0 x8_1).f1), .int .i64 0, .int .i64 0, .int .i64 0, .int .i64 0, .int .i64 0, .int .i64 0, .int .i64 0, .int .i64 0, .int .i64 0, .slice none 0 0]) ?_ 2 _ rfl; (with_reducible repeat first | apply blk_drewN | apply blk_drew | apply blk_alloc); refine blk_put (cs := #[.int .i64 ((rd_T32 l0 x8_1).f0), .int .i64 0, .int .i64 0, .int .i64 0, .int .i64 0, .int .i64 0, .int .i64 0, .int .i64 0, .int .i64 0, .int .i64 0, .int .i64 0, .slice none 0 0]) ?_ 1 _ rfl; (with_reducible repeat first | apply blk_drewN | apply blk_drew | apply blk_alloc); refine blk_put (cs := #[.int .i64 0, .int .i64 0, .int .i64 0, .int .i64 0, .int .i64 0, .int .i64 0, .int .i64 0, .int .i64 0, .int .i64 0, .int .i64 0, .int .i64 0, .slice none 0 0]) ?_ 0 _ rfl; (with_reducible repeat first | apply blk_drewN | apply blk_drew | apply blk_alloc); exact BK537.out) hb); have n2_ := Aside0.mk (below_step (mBs HB.out) hb); clear HO_5; clear BK537; clear HB; have HO_5 := n0_; have BK537 := n1_; have HB := n2_; clear n0_ n1_ n2_; (try clear hb); (try clear hb2); (try clear hk); (try clear hi)))
         repeat (go_quiet (fail); try go_wp2)
         go_roundg kj4
         case measure => have := HK1.out; have := HJ4.out; omega
         case rel => exact ⟨(x5_1), (x6_1), (x7_1), (wrap64 (x8_1 + 1)), ez, ez, ez, H', ⟨by have := HK1.out; have := HJ4.out; omega⟩, ⟨by (with_reducible repeat (first | apply Kd.R_alloc | apply Kd.R_drewN | apply Kd.R_drew)); exact Kd.R_mono HO_5.out (fun _ hk => trivial)⟩, ⟨mBs HB.out⟩⟩
       ·rw [if_neg c9] at H
        exact absurd H (by simp)
      ·rw [if_neg c8] at H
       exact absurd H (by simp)
     ·replace c7 := Bool.eq_false_iff.mpr c7
      subst c7
      have H1 : (prebendlaw19_JobApart.l1 kj4 a1 x5_1 x6_1 x7_1 0 0) = some true := by rw [if_neg (show ¬ (false = true) by decide)] at H; exact H
      clear H
      have H := H1
      clear H1
      have H' := Aside0.mk H
      clear H
      go_wp2
      repeat (go_quiet (fail); try go_wp2)
      go_loopg [10, 11] kj4 (fun kq v10 v11 w' => ∃ (x10_3 : Int) (x11_3 : Int), v10 = .int .i64 x10_3 ∧ v11 = .int .i64 x11_3 ∧ Aside0 (prebendlaw19_JobApart.l1 kq a1 x5_1 x6_1 x7_1 x10_3 x11_3 = some true) ∧ Aside0 (kq ≤ kj4) ∧ Aside0 (Kd.R k32 32 w' w.heap.size (fun _ => True) u5 x5_1) ∧ Aside0 (Below w.heap.size w w'))
      case atStart => exact ⟨(0), (0), ez, ez, H', ⟨Nat.le_refl _⟩, ⟨mR HO_5.out⟩, ⟨mB HB.out⟩⟩
      case round =>
       clear H'
       (try clear c1); (try clear p2); (try clear p5); (try clear q5); (try clear hx5); (try clear c6); (try clear c6b0); (try clear p6); (try clear c7); (try clear c8); (try clear c8b0); (try clear c9); (try clear c9b0); (try clear c11); (try clear c12); (try clear c12b0); (try clear c12b1); (try clear c13); (try clear c13b0); (try clear c14); (try clear c14b0); (try clear c15); (try clear hcz17_0 hcz17_1 hcz17_10 hcz17_11 hcz17_2 hcz17_3 hcz17_4 hcz17_5 hcz17_6 hcz17_7 hcz17_8 hcz17_9); (try clear hcz19_0 hcz19_1 hcz19_10 hcz19_11 hcz19_2 hcz19_3 hcz19_4 hcz19_5 hcz19_6 hcz19_7 hcz19_8 hcz19_9); (try clear hcz21_0 hcz21_1 hcz21_10 hcz21_11 hcz21_2 hcz21_3 hcz21_4 hcz21_5 hcz21_6 hcz21_7 hcz21_8 hcz21_9); (try clear hcz23_0 hcz23_1 hcz23_10 hcz23_11 hcz23_2 hcz23_3 hcz23_4 hcz23_5 hcz23_6 hcz23_7 hcz23_8 hcz23_9); (try clear hcz25_0 hcz25_1 hcz25_10 hcz25_11 hcz25_2 hcz25_3 hcz25_4 hcz25_5 hcz25_6 hcz25_7 hcz25_8 hcz25_9); (try clear hcz27_0 hcz27_1 hcz27_10 hcz27_11 hcz27_2 hcz27_3 hcz27_4 hcz27_5 hcz27_6 hcz27_7 hcz27_8 hcz27_9); (try clear hcz29_0 hcz29_1 hcz29_10 hcz29_11 hcz29_2 hcz29_3 hcz29_4 hcz29_5 hcz29_6 hcz29_7 hcz29_8 hcz29_9); (try clear hcz31_0 hcz31_1 hcz31_10 hcz31_11 hcz31_2 hcz31_3 hcz31_4 hcz31_5 hcz31_6 hcz31_7 hcz31_8 hcz31_9); (try clear hcz33_0 hcz33_1 hcz33_10 hcz33_11 hcz33_2 hcz33_3 hcz33_4 hcz33_5 hcz33_6 hcz33_7 hcz33_8 hcz33_9); (try clear hcz35_0 hcz35_1 hcz35_10 hcz35_11 hcz35_2 hcz35_3 hcz35_4 hcz35_5 hcz35_6 hcz35_7 hcz35_8 hcz35_9); (try clear hfz17_0 hfz17_1 hfz17_10 hfz17_11 hfz17_2 hfz17_3 hfz17_4 hfz17_5 hfz17_6 hfz17_7 hfz17_8 hfz17_9); (try clear hfz19_0 hfz19_1 hfz19_10 hfz19_11 hfz19_2 hfz19_3 hfz19_4 hfz19_5 hfz19_6 hfz19_7 hfz19_8 hfz19_9); (try clear hfz21_0 hfz21_1 hfz21_10 hfz21_11 hfz21_2 hfz21_3 hfz21_4 hfz21_5 hfz21_6 hfz21_7 hfz21_8 hfz21_9); (try clear hfz23_0 hfz23_1 hfz23_10 hfz23_11 hfz23_2 hfz23_3 hfz23_4 hfz23_5 hfz23_6 hfz23_7 hfz23_8 hfz23_9); (try clear hfz25_0 hfz25_1 hfz25_10 hfz25_11 hfz25_2 hfz25_3 hfz25_4 hfz25_5 hfz25_6 hfz25_7 hfz25_8 hfz25_9); (try clear hfz27_0 hfz27_1 hfz27_10 hfz27_11 hfz27_2 hfz27_3 hfz27_4 hfz27_5 hfz27_6 hfz27_7 hfz27_8 hfz27_9); (try clear hfz29_0 hfz29_1 hfz29_10 hfz29_11 hfz29_2 hfz29_3 hfz29_4 hfz29_5 hfz29_6 hfz29_7 hfz29_8 hfz29_9); (try clear hfz31_0 hfz31_1 hfz31_10 hfz31_11 hfz31_2 hfz31_3 hfz31_4 hfz31_5 hfz31_6 hfz31_7 hfz31_8 hfz31_9); (try clear hfz33_0 hfz33_1 hfz33_10 hfz33_11 hfz33_2 hfz33_3 hfz33_4 hfz33_5 hfz33_6 hfz33_7 hfz33_8 hfz33_9); (try clear hfz35_0 hfz35_1 hfz35_10 hfz35_11 hfz35_2 hfz35_3 hfz35_4 hfz35_5 hfz35_6 hfz35_7 hfz35_8 hfz35_9); (try clear hx536_0 hx536_1 hx536_10 hx536_11 hx536_2 hx536_3 hx536_4 hx536_5 hx536_6 hx536_7 hx536_8 hx536_9); (try clear p2); (try clear p536); (try clear q536)
       obtain ⟨x10_3, x11_3, rfl, rfl, HA, HK3, HO_5, HB⟩ := hrel
       cases gk with
       | zero => exact absurd HA.out (by simp [prebendlaw19_JobApart.l1])
       | succ k3 =>
        have H := HA.out
        clear HA
        simp only [prebendlaw19_JobApart.l1] at H
        by_cases c37 : x11_3 < 32
        ·rw [if_pos c37] at H
         have c37b0 : decide (x11_3 < 32) = true := decide_eq_true c37
         clear c37
         obtain ⟨ji38, hji38⟩ : ∃ j_ : Int, (IntKind.u64.wrap (x11_3)) = j_ := ⟨_, rfl⟩
         replace H : (if 0 ≤ (ji38) then (prebendlaw19_JobApart.l1 k3 a1 x5_1 x6_1 x7_1 (wrap64 (x10_3 + (Go.bits .and .i64 (shr .i64 x6_1 (ji38)) 1))) (wrap64 (x11_3 + 1))) else (none)) = some true := by first | (rw [hji38] at H; exact H) | (simp only [hji38] at H ⊢; exact H)
         by_cases c39 : 0 ≤ (ji38)
         ·rw [if_pos c39] at H
          have c39b0 := eq_true c39
          have c39b1 : decide (0 ≤ (ji38)) = true := decide_eq_true c39
          clear c39
          obtain ⟨ji40, hji40⟩ : ∃ j_ : Int, (shr .i64 x6_1 (ji38)) = j_ := ⟨_, rfl⟩
          replace H : (prebendlaw19_JobApart.l1 k3 a1 x5_1 x6_1 x7_1 (wrap64 (x10_3 + (Go.bits .and .i64 (ji40) 1))) (wrap64 (x11_3 + 1))) = some true := by first | (rw [hji40] at H; exact H) | (simp only [hji40] at H ⊢; exact H)
          have hji40_ : (x6_1 / 2 ^ min (ji38).toNat 64) = ji40 := hji40
          have hji40z : (ji38) ≤ 64 → (x6_1 / 2 ^ (ji38).toNat) = ji40 := shr_small hji40
          have H' := Aside0.mk H
          clear H
          go_wp2
          repeat (go_quiet (fail); try go_wp2)
          go_roundg k3
          case measure => have := HK1.out; have := HJ4.out; have := HK3.out; omega
          case rel => exact ⟨(wrap64 (x10_3 + (Go.bits .and .i64 (ji40) 1))), (wrap64 (x11_3 + 1)), (by first | rfl | (simp; done) | (simp only [← hji40] <;> (first | rfl | simp)) | (simp [*]; done)), ez, H', ⟨by have := HK1.out; have := HJ4.out; have := HK3.out; omega⟩, ⟨mR HO_5.out⟩, ⟨mB HB.out⟩⟩
         ·rw [if_neg c39] at H
          exact absurd H (by simp)
        ·rw [if_neg c37] at H
         have c37b0 : decide (x11_3 < 32) = false := decide_eq_false c37
         clear c37
         replace H := Option.bind_eq_some_iff.mp H
         obtain ⟨t542, A410, H⟩ := H
         replace H : (if t542 = true then ((job_Boxes.f k3 x5_1).bind fun t543 => ((plane_Apart.f k3 t543).bind fun t546 => (if (t546 == (x10_3 == x7_1)) = true then ((job_Mask.f k3 x5_1).bind fun t547 => (if t547 = x6_1 then ((job_Due.f k3 x5_1 (wrap64 (a1))).bind fun t548 => (some ((t548.length : Int) == 0))) else (some false))) else (some false)))) else (some false)) = some true := H
         have A41 := Aside0.mk A410
         clear A410
         by_cases c42 : t542 = true
         ·subst c42
          have H1 : ((job_Boxes.f k3 x5_1).bind fun t543 => ((plane_Apart.f k3 t543).bind fun t546 => (if (t546 == (x10_3 == x7_1)) = true then ((job_Mask.f k3 x5_1).bind fun t547 => (if t547 = x6_1 then ((job_Due.f k3 x5_1 (wrap64 (a1))).bind fun t548 => (some ((t548.length : Int) == 0))) else (some false))) else (some false)))) = some true := by rw [if_pos rfl] at H; exact H
          clear H
          have H := H1
          clear H1
          replace H := Option.bind_eq_some_iff.mp H
          obtain ⟨t543, A430, H⟩ := H
          replace H : ((plane_Apart.f k3 t543).bind fun t546 => (if (t546 == (x10_3 == x7_1)) = true then ((job_Mask.f k3 x5_1).bind fun t547 => (if t547 = x6_1 then ((job_Due.f k3 x5_1 (wrap64 (a1))).bind fun t548 => (some ((t548.length : Int) == 0))) else (some false))) else (some false))) = some true := H
          have A43 := Aside0.mk A430
          clear A430
          replace H := Option.bind_eq_some_iff.mp H
          obtain ⟨t546, A440, H⟩ := H
          replace H : (if (t546 == (x10_3 == x7_1)) = true then ((job_Mask.f k3 x5_1).bind fun t547 => (if t547 = x6_1 then ((job_Due.f k3 x5_1 (wrap64 (a1))).bind fun t548 => (some ((t548.length : Int) == 0))) else (some false))) else (some false)) = some true := H
          have A44 := Aside0.mk A440
          clear A440
          by_cases c45 : (t546 == (x10_3 == x7_1)) = true
          ·rw [if_pos c45] at H
           have c45b0 : (t546 == (x10_3 == x7_1)) = true := c45
           (try (have c45b1 : decide (t546 = (x10_3 == x7_1)) = true := by simpa using c45))
           (try (have c45b2 : (t546 == (x10_3 == x7_1)) = true := by simpa using c45))
           clear c45
           replace H := Option.bind_eq_some_iff.mp H
           obtain ⟨t547, A460, H⟩ := H
           replace H : (if t547 = x6_1 then ((job_Due.f k3 x5_1 (wrap64 (a1))).bind fun t548 => (some ((t548.length : Int) == 0))) else (some false)) = some true := H
           have A46 := Aside0.mk A460
           clear A460
           by_cases c47 : t547 = x6_1
           ·rw [if_pos c47] at H
            have c47b0 : (t547 == x6_1) = true := beq_iff_eq.mpr c47
            have c47b1 : (t547 != x6_1) = false := bne_eq_false_iff_eq.mpr c47
            clear c47
            replace H := Option.bind_eq_some_iff.mp H
            obtain ⟨t548, A480, H⟩ := H
            replace H : (some ((t548.length : Int) == 0)) = some true := H
            have A48 := Aside0.mk A480
            clear A480
            have HD_ : Aside0 ((t548.length : Int) = 0) := Aside0.mk (beq_iff_eq.mp (Option.some.inj H)); clear H
            go_wp2_with (first | (go_at_call 16; (with_reducible refine (prebendlaw19_awake.calls k3  _ A41.out).mono ?_); rintro e w49 ⟨rfl, hb⟩; have n0_ := Aside0.mk (Kd.R_below (mR HO_5.out) hb); have n1_ := Aside0.mk (below_step (mB HB.out) hb); clear HO_5; clear HB; have HO_5 := n0_; have HB := n1_; clear n0_ n1_; (try clear hb); (try clear hb2); (try clear hk); (try clear hi); obtain ⟨Ao50, co50, eo50⟩ := Kd.R_slice HO_5.out; subst eo50) | (go_at_call 25; (with_reducible refine (job_Boxes.calls k3 _ _ x5_1 t543 _ ?side1 ?side2 A43.out).mono ?_); (case side1 => exact mC (Kd.R_reads' HO_5.out).2.2); (case side2 => exact (Kd.R_reads' HO_5.out).2.1); rintro e w51 ⟨v544, rfl, ho0, hb⟩; have n0_ := Aside0.mk (Kd.R_below (mR HO_5.out) hb); have n1_ := Aside0.mk (Kd.V_lower (Kd.V_mono (ok' := fun k_ => some k_ ≠ (.slice Ao50 x5_1.length co50 : Value).ownBlock) ho0 (fun k_ hk_ => (Kd.fresh' (Kd.R_lt (mR HO_5.out)) k_ hk_))) (below_size (mB HB.out))); have n2_ := Aside0.mk (below_step (mB HB.out) hb); clear HO_5; clear HB; have HO_5 := n0_; have HO545 := n1_; have HB := n2_; clear n0_ n1_ n2_; (try clear hb); (try clear hb2); (try clear hk); (try clear hi); (try clear ho0); obtain ⟨Ao52, co52, eo52⟩ := Kd.V_slice HO545.out; subst eo52) | (go_at_call 30; (with_reducible refine (plane_Apart.calls k3 _ _ t543 t546 _ ?side1 ?side2 A44.out).mono ?_); (case side1 => exact mC (Kd.V_reads' HO545.out).2.2); (case side2 => exact (Kd.V_reads' HO545.out).2.1); rintro e w53 ⟨rfl, hb⟩; have n0_ := Aside0.mk (Kd.R_below (mR HO_5.out) hb); have n1_ := Aside0.mk (Kd.V_below (mV HO545.out) hb); have n2_ := Aside0.mk (below_step (mB HB.out) hb); clear HO_5; clear HO545; clear HB; have HO_5 := n0_; have HO545 := n1_; have HB := n2_; clear n0_ n1_ n2_; (try clear hb); (try clear hb2); (try clear hk); (try clear hi)) | (go_at_call 19; (with_reducible refine (job_Mask.calls k3 _ _ x5_1 t547 _ ?side1 ?side2 A46.out).mono ?_); (case side1 => exact mC (Kd.R_reads' HO_5.out).2.2); (case side2 => exact (Kd.R_reads' HO_5.out).2.1); rintro e w54 ⟨rfl, hb⟩; have n0_ := Aside0.mk (Kd.R_below (mR HO_5.out) hb); have n1_ := Aside0.mk (Kd.V_below (mV HO545.out) hb); have n2_ := Aside0.mk (below_step (mB HB.out) hb); clear HO_5; clear HO545; clear HB; have HO_5 := n0_; have HO545 := n1_; have HB := n2_; clear n0_ n1_ n2_; (try clear hb); (try clear hb2); (try clear hk); (try clear hi)) | (go_at_call 27; (with_reducible refine (job_Due.calls k3 _ _ x5_1 (wrap64 (a1)) t548 _ ?side1 ?side2 A48.out).mono ?_); (case side1 => exact mC (Kd.R_reads' HO_5.out).2.2); (case side2 => exact (Kd.R_reads' HO_5.out).2.1); rintro e w55 ⟨v549, rfl, ho0, hb⟩; have n0_ := Aside0.mk (Kd.R_below (mR HO_5.out) hb); have n1_ := Aside0.mk (Kd.V_below (mV HO545.out) hb); have n2_ := Aside0.mk (Kd.V_lower (Kd.V_mono (ok' := fun k_ => some k_ ≠ (.slice Ao50 x5_1.length co50 : Value).ownBlock) ho0 (fun k_ hk_ => (Kd.fresh' (Kd.R_lt (mR HO_5.out)) k_ hk_))) (below_size (mB HB.out))); have n3_ := Aside0.mk (below_step (mB HB.out) hb); clear HO_5; clear HO545; clear HB; have HO_5 := n0_; have HO545 := n1_; have HO550 := n2_; have HB := n3_; clear n0_ n1_ n2_ n3_; (try clear hb); (try clear hb2); (try clear hk); (try clear hi); (try clear ho0); obtain ⟨Ao56, co56, eo56⟩ := Kd.V_slice HO550.out; subst eo56))
            repeat (go_quiet (fail); try go_wp2)
            go_ret
            exact ⟨by first | (have q_ : (t548.length : Int) = 0 := HD_.out; rw [q_]; rfl) | (have q_ : (t548.length : Int) = 0 := HD_.out; simp [q_]) | (simp [errW_none, errW_some] <;> rfl) | (simp [*, errW_none, errW_some] <;> rfl), by repeat (first | (with_reducible first | exact HB.out | apply below_alloc | apply pw_below_drewN | apply below_drew1) | exact HB.out)⟩
           ·rw [if_neg c47] at H
            exact absurd (Option.some.inj H) (by decide)
          ·rw [if_neg c45] at H
           exact absurd (Option.some.inj H) (by decide)
         ·replace c42 := Bool.eq_false_iff.mpr c42
          subst c42
          have H1 : (some false) = some true := by rw [if_neg (show ¬ (false = true) by decide)] at H; exact H
          exact absurd (Option.some.inj H1) (by decide)

def prebendlaw19_JobApart.Pure : Prop := ∀ (dw : DW) (l0 : List (S32)) (a1 : Int), l0.length ≤ maxLen → (∀ y ∈ l0, ∃ l, dw.dr y.f11 = some l ∧ l.length ≤ maxLen) → (Lit.int .u16 a1).wf = true → ∃ k, @prebendlaw19_JobApart.f dw k l0 a1 = some true
theorem prebendlaw19_JobApart.walk (P : prebendlaw19_JobApart.Pure) (dw : DW) (A0 : Option Addr) (c0 : Nat) (l0 : List (S32)) (a1 : Int) (w : World) (hdw : @DWAt dw w) (hr0 : Kd.C k32 w A0 l0.length l0) (hc0 : l0.length ≤ c0) (h0_ : l0.length ≤ maxLen) (hq_ : ∀ y ∈ l0, ∃ l, dw.dr y.f11 = some l ∧ l.length ≤ maxLen) (h1_ : (Lit.int .u16 a1).wf = true) :
  Calls Try.prog 8 #[.slice A0 l0.length c0, .int .u16 a1] w fun e w' => e = .returned (.bool true) ∧ Below w.heap.size w w' := by
 obtain ⟨k, h⟩ := P dw l0 a1 h0_ hq_ h1_
 refine (@prebendlaw19_JobApart.calls dw k A0 c0 l0 a1 w hdw hr0 hc0 h).mono ?_
 rintro e w' ⟨rfl, hd⟩
 exact ⟨rfl, hd⟩

end Go.Proofs.Ytkhfgflcanmefaa.PAll
end
