/- Words, plain functions and contracts of the functions that the law of this claim reaches; no conditions. -/
import Derived.Test.YtkhfgflcanmefaaBJobEnds2
import Derived.Lib.Tables
import Derived.Lib.BitFns
section
namespace Go.Proofs.Ytkhfgflcanmefaa.PAll
open Go.RowKit Go.Proofs.YtkhfgflcanmefaaW.PrintWords Go.Proofs.YtkhfgflcanmefaaW.PrintLast Go.Proofs.YtkhfgflcanmefaaW.PrintMore
attribute [local go_sem] max2_int min2_int max_two min_two max_three min_three max_four min_four   -- for this text's walks alone
set_option linter.unusedVariables false
set_option linter.unusedSimpArgs false

mutual
def slices_stableCmpFunc_Job__job_Due_1.l0 : Nat → List (S32) → Int → Int → Int → Int → Option ((List (S32)))
  | 0, _, _, _, _, _ => none
  | k + 1, x0, x1, x6, x7, x8 => if x8 ≤ x1 then ((slices_insertionSortCmpFunc_Job__job_Due_1.f k x0 x7 x8).bind fun t302 => (slices_stableCmpFunc_Job__job_Due_1.l0 k t302 x1 x6 x8 (wrap64 (x8 + x6)))) else ((slices_insertionSortCmpFunc_Job__job_Due_1.f k x0 x7 x1).bind fun t303 => (slices_stableCmpFunc_Job__job_Due_1.l1 k t303 x1 x6))
def slices_stableCmpFunc_Job__job_Due_1.l1 : Nat → List (S32) → Int → Int → Option ((List (S32)))
  | 0, _, _, _ => none
  | k + 1, x0, x1, x6 => if x6 < x1 then (slices_stableCmpFunc_Job__job_Due_1.l2 k x0 x1 x6 0 (wrap64 (2 * x6))) else (some x0)
def slices_stableCmpFunc_Job__job_Due_1.l2 : Nat → List (S32) → Int → Int → Int → Int → Option ((List (S32)))
  | 0, _, _, _, _, _ => none
  | k + 1, x0, x1, x6, x7, x8 => if x8 ≤ x1 then ((slices_symMergeCmpFunc_Job__job_Due_1.f k x0 x7 (wrap64 (x7 + x6)) x8).bind fun t304 => (slices_stableCmpFunc_Job__job_Due_1.l2 k t304 x1 x6 x8 (wrap64 (x8 + (wrap64 (2 * x6)))))) else (if (wrap64 (x7 + x6)) < x1 then ((slices_symMergeCmpFunc_Job__job_Due_1.f k x0 x7 (wrap64 (x7 + x6)) x1).bind fun t305 => (slices_stableCmpFunc_Job__job_Due_1.l1 k t305 x1 (wrap64 (x6 * 2)))) else (slices_stableCmpFunc_Job__job_Due_1.l1 k x0 x1 (wrap64 (x6 * 2))))
end
def slices_stableCmpFunc_Job__job_Due_1.f (k : Nat) (l0 : List (S32)) (a1 : Int)  : Option ((List (S32))) := slices_stableCmpFunc_Job__job_Due_1.l0 k l0 a1 20 0 20
theorem slices_stableCmpFunc_Job__job_Due_1.mono_l : ∀ k, (∀ y0 y1 y2 y3 y4, LeO (slices_stableCmpFunc_Job__job_Due_1.l0 k y0 y1 y2 y3 y4) (slices_stableCmpFunc_Job__job_Due_1.l0 (k + 1) y0 y1 y2 y3 y4)) ∧ (∀ y0 y1 y2, LeO (slices_stableCmpFunc_Job__job_Due_1.l1 k y0 y1 y2) (slices_stableCmpFunc_Job__job_Due_1.l1 (k + 1) y0 y1 y2)) ∧ (∀ y0 y1 y2 y3 y4, LeO (slices_stableCmpFunc_Job__job_Due_1.l2 k y0 y1 y2 y3 y4) (slices_stableCmpFunc_Job__job_Due_1.l2 (k + 1) y0 y1 y2 y3 y4))
  | 0 => ⟨fun _ _ _ _ _ r h => by simp [slices_stableCmpFunc_Job__job_Due_1.l0] at h, fun _ _ _ r h => by simp [slices_stableCmpFunc_Job__job_Due_1.l1] at h, fun _ _ _ _ _ r h => by simp [slices_stableCmpFunc_Job__job_Due_1.l2] at h⟩
  | k + 1 => by
    obtain ⟨ih0, ih1, ih2⟩ := slices_stableCmpFunc_Job__job_Due_1.mono_l k
    refine ⟨?_, ?_, ?_⟩
    · intro y0 y1 y2 y3 y4
      unfold slices_stableCmpFunc_Job__job_Due_1.l0
      repeat' first
      | (with_reducible exact ih0 _ _ _ _ _)
      | (with_reducible exact ih1 _ _ _)
      | (with_reducible exact ih2 _ _ _ _ _)
      | (with_reducible exact slices_insertionSortCmpFunc_Job__job_Due_1.mono _ _ _ _)
      | (with_reducible exact slices_symMergeCmpFunc_Job__job_Due_1.mono _ _ _ _ _)
      | (with_reducible exact LeO.refl _)
      | (with_reducible exact LeO.none _)
      | (with_reducible refine LeO.ite ?_ ?_)
      | (with_reducible refine LeO.bind ?_ (fun _ => ?_))
      | exact ih0 _ _ _ _ _
      | exact ih1 _ _ _
      | exact ih2 _ _ _ _ _
      | exact slices_insertionSortCmpFunc_Job__job_Due_1.mono _ _ _ _
      | exact slices_symMergeCmpFunc_Job__job_Due_1.mono _ _ _ _ _
      | exact LeO.none _
      | refine LeO.ite ?_ ?_
      | refine LeO.bind ?_ (fun _ => ?_)
    · intro y0 y1 y2
      unfold slices_stableCmpFunc_Job__job_Due_1.l1
      repeat' first
      | (with_reducible exact ih0 _ _ _ _ _)
      | (with_reducible exact ih1 _ _ _)
      | (with_reducible exact ih2 _ _ _ _ _)
      | (with_reducible exact slices_insertionSortCmpFunc_Job__job_Due_1.mono _ _ _ _)
      | (with_reducible exact slices_symMergeCmpFunc_Job__job_Due_1.mono _ _ _ _ _)
      | (with_reducible exact LeO.refl _)
      | (with_reducible exact LeO.none _)
      | (with_reducible refine LeO.ite ?_ ?_)
      | (with_reducible refine LeO.bind ?_ (fun _ => ?_))
      | exact ih0 _ _ _ _ _
      | exact ih1 _ _ _
      | exact ih2 _ _ _ _ _
      | exact slices_insertionSortCmpFunc_Job__job_Due_1.mono _ _ _ _
      | exact slices_symMergeCmpFunc_Job__job_Due_1.mono _ _ _ _ _
      | exact LeO.none _
      | refine LeO.ite ?_ ?_
      | refine LeO.bind ?_ (fun _ => ?_)
    · intro y0 y1 y2 y3 y4
      unfold slices_stableCmpFunc_Job__job_Due_1.l2
      repeat' first
      | (with_reducible exact ih0 _ _ _ _ _)
      | (with_reducible exact ih1 _ _ _)
      | (with_reducible exact ih2 _ _ _ _ _)
      | (with_reducible exact slices_insertionSortCmpFunc_Job__job_Due_1.mono _ _ _ _)
      | (with_reducible exact slices_symMergeCmpFunc_Job__job_Due_1.mono _ _ _ _ _)
      | (with_reducible exact LeO.refl _)
      | (with_reducible exact LeO.none _)
      | (with_reducible refine LeO.ite ?_ ?_)
      | (with_reducible refine LeO.bind ?_ (fun _ => ?_))
      | exact ih0 _ _ _ _ _
      | exact ih1 _ _ _
      | exact ih2 _ _ _ _ _
      | exact slices_insertionSortCmpFunc_Job__job_Due_1.mono _ _ _ _
      | exact slices_symMergeCmpFunc_Job__job_Due_1.mono _ _ _ _ _
      | exact LeO.none _
      | refine LeO.ite ?_ ?_
      | refine LeO.bind ?_ (fun _ => ?_)
theorem slices_stableCmpFunc_Job__job_Due_1.mono : ∀ a0 a1 k, LeO (slices_stableCmpFunc_Job__job_Due_1.f k a0 a1) (slices_stableCmpFunc_Job__job_Due_1.f (k + 1) a0 a1) := by
  intro a0 a1 k
  obtain ⟨ih0, ih1, ih2⟩ := slices_stableCmpFunc_Job__job_Due_1.mono_l k
  unfold slices_stableCmpFunc_Job__job_Due_1.f
  repeat' first
      | (with_reducible exact ih0 _ _ _ _ _)
      | (with_reducible exact ih1 _ _ _)
      | (with_reducible exact ih2 _ _ _ _ _)
      | (with_reducible exact slices_insertionSortCmpFunc_Job__job_Due_1.mono _ _ _ _)
      | (with_reducible exact slices_symMergeCmpFunc_Job__job_Due_1.mono _ _ _ _ _)
      | (with_reducible exact LeO.refl _)
      | (with_reducible exact LeO.none _)
      | (with_reducible refine LeO.ite ?_ ?_)
      | (with_reducible refine LeO.bind ?_ (fun _ => ?_))
      | exact ih0 _ _ _ _ _
      | exact ih1 _ _ _
      | exact ih2 _ _ _ _ _
      | exact slices_insertionSortCmpFunc_Job__job_Due_1.mono _ _ _ _
      | exact slices_symMergeCmpFunc_Job__job_Due_1.mono _ _ _ _ _
      | exact LeO.none _
      | refine LeO.ite ?_ ?_
      | refine LeO.bind ?_ (fun _ => ?_)
set_option maxHeartbeats 8000000 in
set_option maxRecDepth 100000 in
theorem slices_stableCmpFunc_Job__job_Due_1.calls (k : Nat) (P0_ : Nat → Prop) (u9000_ : Value) (l0 : List (S32)) (a1 : Int)  (r : List (S32)) (w0 w : World) (hB : Below w0.heap.size w0 w) (ho0 : Kd.R k32 32 w w0.heap.size P0_ u9000_ l0) (h : slices_stableCmpFunc_Job__job_Due_1.f k l0 a1 = some r) :
    Calls Try.prog 59 #[u9000_, .int .i64 a1, .func (.func 47) #[] #[]] w fun e w' => e = .returned (.tuple #[]) ∧ Kd.R k32 32 w' w0.heap.size (fun k_ => (P0_ k_ ∨ w.heap.size ≤ k_)) u9000_ r ∧ Below w0.heap.size w0 w' ∧ Kept w w' (fun k_ => P0_ k_) := by
  have HO0 := Aside0.mk (show Kd.R k32 32 w w0.heap.size (fun k_ => (P0_ k_ ∨ w.heap.size ≤ k_)) u9000_ l0 from Kd.R_mono ho0 (fun k_ hk => (.inl hk)))
  have HK := Aside0.mk (Kept.refl w (fun k_ => P0_ k_))
  have HW0 := Aside0.mk hB.size
  have HB := Aside0.mk hB
  clear hB
  have H : (slices_stableCmpFunc_Job__job_Due_1.l0 k l0 a1 20 0 20) = some r := h
  clear h
  have H' := Aside0.mk H
  clear H
  go_enter Try.func59, Try.ntmps59
  go_wp2
  go_loopg [7, 8] k (fun kq v7 v8 w' => ∃ (x0_1 : List (S32)) (x7_1 : Int) (x8_1 : Int), v7 = .int .i64 x7_1 ∧ v8 = .int .i64 x8_1 ∧ Aside0 (slices_stableCmpFunc_Job__job_Due_1.l0 kq x0_1 a1 20 x7_1 x8_1 = some r) ∧ Aside0 (kq ≤ k) ∧ Aside0 (Kd.R k32 32 w' w0.heap.size (fun k_ => (P0_ k_ ∨ w.heap.size ≤ k_)) u9000_ x0_1) ∧ Aside0 (Kept w w' (fun k_ => P0_ k_)) ∧ Aside0 (Below w0.heap.size w0 w'))
  case atStart => exact ⟨(l0), (0), (20), (by first | rfl | (simp; done) | (simp [*]; done)), (by first | rfl | (simp; done) | (simp [*]; done)), H', ⟨Nat.le_refl _⟩, ⟨by (with_reducible repeat (first | apply Kd.R_alloc | apply Kd.R_drewN | apply Kd.R_drew)); exact HO0.out⟩, ⟨by repeat (first | (with_reducible first | exact HK.out | apply Kept.alloc | apply Kept.drewN | apply Kept.drew) | exact HK.out)⟩, ⟨by repeat (first | (with_reducible first | exact HB.out | apply below_alloc | apply pw_below_drewN | apply below_drew1) | exact HB.out)⟩⟩
  case round =>
    clear H'
    try clear p2
    obtain ⟨x0_1, x7_1, x8_1, rfl, rfl, HA, HK1, HO_0, HK, HB⟩ := hrel
    cases gk with
    | zero => exact absurd HA.out (by simp [slices_stableCmpFunc_Job__job_Due_1.l0])
    | succ k1 =>
      have H := HA.out
      clear HA
      simp only [slices_stableCmpFunc_Job__job_Due_1.l0] at H
      by_cases c4 : x8_1 ≤ a1
      · rw [if_pos c4] at H
        have c4b0 : decide (x8_1 ≤ a1) = true := decide_eq_true c4
        clear c4
        replace H := Option.bind_eq_some_iff.mp H
        obtain ⟨t302, A50, H⟩ := H
        replace H : (slices_stableCmpFunc_Job__job_Due_1.l0 k1 t302 a1 20 x8_1 (wrap64 (x8_1 + 20))) = some r := H
        have A5 := Aside0.mk A50
        clear A50
        have H' := Aside0.mk H
        clear H
        obtain ⟨Ao6, co6, eo6⟩ := Kd.R_slice HO_0.out
        subst eo6
        go_wp2_with (first | ((with_reducible refine gate_callee (f := 67) rfl ?_); refine goesL_ (some 18) rfl rfl Try.func67 (by kernel_rfl) rfl #[.slice Ao6 x0_1.length co6, .int .i64 x7_1, .int .i64 x8_1, .func (.func 47) #[] #[]] rfl (by (try simp only [List.map_toArray, List.map_cons, List.map_nil]); first | done | rfl | (simp only [List.length_drop, List.length_take]; rfl)) ?_; (with_reducible refine (slices_insertionSortCmpFunc_Job__job_Due_1.calls k1 (fun k_ => some k_ = (.slice Ao6 x0_1.length co6 : Value).ownBlock) (.slice Ao6 x0_1.length co6) x0_1 x7_1 x8_1  t302 w0 _ ?side1 ?side2 A5.out).mono ?_); (case side1 => repeat (first | (with_reducible first | exact HB.out | apply below_alloc | apply pw_below_drewN | apply below_drew1) | exact HB.out)); (case side2 => exact Kd.R_tight rfl HO_0.out); rintro e w7 ⟨rfl, hy0, hb, hkp⟩; refine ⟨_, rfl, ?_⟩; have n0_ := Aside0.mk (Kd.R_reok rfl hy0 (fun k_ e_ => HO_0.out.1 k_ e_)); have n1_ := Aside0.mk (Kept.then_ (S := (fun k_ => P0_ k_)) (by repeat (first | (with_reducible first | exact HK.out | apply Kept.alloc | apply Kept.drewN | apply Kept.drew) | exact HK.out)) hkp (fun k_ hs_ => (fun e_ => (HO_0.out.1 k_ e_.symm)) hs_)); have n2_ := Aside0.mk (hb); clear HO_0; clear HK; clear HB; have HO_0 := n0_; have HK := n1_; have HB := n2_; clear n0_ n1_ n2_; (try clear hb); (try clear hkp); (try clear hy0)))
        go_roundg k1
        case measure => have := HK1.out; omega
        case rel => exact ⟨(t302), (x8_1), (wrap64 (x8_1 + 20)), (by first | rfl | (simp; done) | (simp [*]; done)), (by first | rfl | (simp; done) | (simp [*]; done)), H', ⟨by have := HK1.out; omega⟩, ⟨by (with_reducible repeat (first | apply Kd.R_alloc | apply Kd.R_drewN | apply Kd.R_drew)); exact HO_0.out⟩, ⟨by repeat (first | (with_reducible first | exact HK.out | apply Kept.alloc | apply Kept.drewN | apply Kept.drew) | exact HK.out)⟩, ⟨by repeat (first | (with_reducible first | exact HB.out | apply below_alloc | apply pw_below_drewN | apply below_drew1) | exact HB.out)⟩⟩
      · rw [if_neg c4] at H
        have c4b0 : decide (x8_1 ≤ a1) = false := decide_eq_false c4
        clear c4
        replace H := Option.bind_eq_some_iff.mp H
        obtain ⟨t303, A80, H⟩ := H
        replace H : (slices_stableCmpFunc_Job__job_Due_1.l1 k1 t303 a1 20) = some r := H
        have A8 := Aside0.mk A80
        clear A80
        have H' := Aside0.mk H
        clear H
        obtain ⟨Ao9, co9, eo9⟩ := Kd.R_slice HO_0.out
        subst eo9
        go_wp2_with (first | ((with_reducible refine gate_callee (f := 67) rfl ?_); refine goesL_ (some 27) rfl rfl Try.func67 (by kernel_rfl) rfl #[.slice Ao9 x0_1.length co9, .int .i64 x7_1, .int .i64 a1, .func (.func 47) #[] #[]] rfl (by (try simp only [List.map_toArray, List.map_cons, List.map_nil]); first | done | rfl | (simp only [List.length_drop, List.length_take]; rfl)) ?_; (with_reducible refine (slices_insertionSortCmpFunc_Job__job_Due_1.calls k1 (fun k_ => some k_ = (.slice Ao9 x0_1.length co9 : Value).ownBlock) (.slice Ao9 x0_1.length co9) x0_1 x7_1 a1  t303 w0 _ ?side1 ?side2 A8.out).mono ?_); (case side1 => repeat (first | (with_reducible first | exact HB.out | apply below_alloc | apply pw_below_drewN | apply below_drew1) | exact HB.out)); (case side2 => exact Kd.R_tight rfl HO_0.out); rintro e w10 ⟨rfl, hy0, hb, hkp⟩; refine ⟨_, rfl, ?_⟩; have n0_ := Aside0.mk (Kd.R_reok rfl hy0 (fun k_ e_ => HO_0.out.1 k_ e_)); have n1_ := Aside0.mk (Kept.then_ (S := (fun k_ => P0_ k_)) (by repeat (first | (with_reducible first | exact HK.out | apply Kept.alloc | apply Kept.drewN | apply Kept.drew) | exact HK.out)) hkp (fun k_ hs_ => (fun e_ => (HO_0.out.1 k_ e_.symm)) hs_)); have n2_ := Aside0.mk (hb); clear HO_0; clear HK; clear HB; have HO_0 := n0_; have HK := n1_; have HB := n2_; clear n0_ n1_ n2_; (try clear hb); (try clear hkp); (try clear hy0)))
        (try simp only [Act.put, List.setIfInBounds_toArray, List.set_cons_zero, List.set_cons_succ])
        go_loopg [6] k1 (fun kq v6 w' => ∃ (x0_2 : List (S32)) (x6_2 : Int), v6 = .int .i64 x6_2 ∧ Aside0 (slices_stableCmpFunc_Job__job_Due_1.l1 kq x0_2 a1 x6_2 = some r) ∧ Aside0 (kq ≤ k1) ∧ Aside0 (Kd.R k32 32 w' w0.heap.size (fun k_ => (P0_ k_ ∨ w.heap.size ≤ k_)) (.slice Ao9 x0_1.length co9) x0_2) ∧ Aside0 (Kept w w' (fun k_ => P0_ k_)) ∧ Aside0 (Below w0.heap.size w0 w'))
        case atStart => exact ⟨(t303), (20), (by first | rfl | (simp; done) | (simp [*]; done)), H', ⟨Nat.le_refl _⟩, ⟨by (with_reducible repeat (first | apply Kd.R_alloc | apply Kd.R_drewN | apply Kd.R_drew)); exact HO_0.out⟩, ⟨by repeat (first | (with_reducible first | exact HK.out | apply Kept.alloc | apply Kept.drewN | apply Kept.drew) | exact HK.out)⟩, ⟨by repeat (first | (with_reducible first | exact HB.out | apply below_alloc | apply pw_below_drewN | apply below_drew1) | exact HB.out)⟩⟩
        case round =>
          clear H'
          try clear p2
          try clear c4
          try clear c4b0
          try clear p6
          try clear c7
          try clear p2
          obtain ⟨x0_2, x6_2, rfl, HA, HK2, HO_0, HK, HB⟩ := hrel
          have hl0_2 := (Kd.R_reads' HO_0.out).1
          rw [hl0_2] at HO_0
          (try simp only [hl0_2])
          cases gk with
          | zero => exact absurd HA.out (by simp [slices_stableCmpFunc_Job__job_Due_1.l1])
          | succ k2 =>
            have H := HA.out
            clear HA
            simp only [slices_stableCmpFunc_Job__job_Due_1.l1] at H
            by_cases c11 : x6_2 < a1
            · rw [if_pos c11] at H
              have c11b0 : decide (x6_2 < a1) = true := decide_eq_true c11
              clear c11
              have H' := Aside0.mk H
              clear H
              go_wp2
              go_loopg [7, 8] k2 (fun kq v7 v8 w' => ∃ (x0_3 : List (S32)) (x7_3 : Int) (x8_3 : Int), v7 = .int .i64 x7_3 ∧ v8 = .int .i64 x8_3 ∧ Aside0 (slices_stableCmpFunc_Job__job_Due_1.l2 kq x0_3 a1 x6_2 x7_3 x8_3 = some r) ∧ Aside0 (kq ≤ k2) ∧ Aside0 (Kd.R k32 32 w' w0.heap.size (fun k_ => (P0_ k_ ∨ w.heap.size ≤ k_)) (.slice Ao9 x0_2.length co9) x0_3) ∧ Aside0 (Kept w w' (fun k_ => P0_ k_)) ∧ Aside0 (Below w0.heap.size w0 w'))
              case atStart => exact ⟨(x0_2), (0), (wrap64 (2 * x6_2)), (by first | rfl | (simp; done) | (simp [*]; done)), (by first | rfl | (simp; done) | (simp [*]; done)), H', ⟨Nat.le_refl _⟩, ⟨by (try simp only [hl0_2]); (with_reducible repeat (first | apply Kd.R_alloc | apply Kd.R_drewN | apply Kd.R_drew)); exact HO_0.out⟩, ⟨by repeat (first | (with_reducible first | exact HK.out | apply Kept.alloc | apply Kept.drewN | apply Kept.drew) | exact HK.out)⟩, ⟨by repeat (first | (with_reducible first | exact HB.out | apply below_alloc | apply pw_below_drewN | apply below_drew1) | exact HB.out)⟩⟩
              case round =>
                clear H'
                try clear c1
                try clear p2
                try clear c4
                try clear c4b0
                try clear p6
                try clear c7
                try clear c11
                try clear c11b0
                try clear p2
                try clear p6
                obtain ⟨x0_3, x7_3, x8_3, rfl, rfl, HA, HK3, HO_0, HK, HB⟩ := hrel
                have hl0_3 := (Kd.R_reads' HO_0.out).1
                rw [hl0_3] at HO_0
                (try simp only [hl0_3])
                cases gk with
                | zero => exact absurd HA.out (by simp [slices_stableCmpFunc_Job__job_Due_1.l2])
                | succ k3 =>
                  have H := HA.out
                  clear HA
                  simp only [slices_stableCmpFunc_Job__job_Due_1.l2] at H
                  by_cases c12 : x8_3 ≤ a1
                  · rw [if_pos c12] at H
                    have c12b0 : decide (x8_3 ≤ a1) = true := decide_eq_true c12
                    clear c12
                    replace H := Option.bind_eq_some_iff.mp H
                    obtain ⟨t304, A130, H⟩ := H
                    replace H : (slices_stableCmpFunc_Job__job_Due_1.l2 k3 t304 a1 x6_2 x8_3 (wrap64 (x8_3 + (wrap64 (2 * x6_2))))) = some r := H
                    have A13 := Aside0.mk A130
                    clear A130
                    have H' := Aside0.mk H
                    clear H
                    go_wp2_with (first | ((with_reducible refine gate_callee (f := 68) rfl ?_); refine goesL_ (some 43) rfl rfl Try.func68 (by kernel_rfl) rfl #[.slice Ao9 x0_3.length co9, .int .i64 x7_3, .int .i64 (wrap64 (x7_3 + x6_2)), .int .i64 x8_3, .func (.func 47) #[] #[]] rfl (by (try simp only [List.map_toArray, List.map_cons, List.map_nil]); first | done | rfl | (simp only [List.length_drop, List.length_take]; rfl)) ?_; (with_reducible refine (slices_symMergeCmpFunc_Job__job_Due_1.calls k3 (fun k_ => some k_ = (.slice Ao9 x0_3.length co9 : Value).ownBlock) (.slice Ao9 x0_3.length co9) x0_3 x7_3 (wrap64 (x7_3 + x6_2)) x8_3  t304 w0 _ ?side1 ?side2 A13.out).mono ?_); (case side1 => repeat (first | (with_reducible first | exact HB.out | apply below_alloc | apply pw_below_drewN | apply below_drew1) | exact HB.out)); (case side2 => exact Kd.R_tight rfl HO_0.out); rintro e w14 ⟨rfl, hy0, hb, hkp⟩; refine ⟨_, rfl, ?_⟩; have n0_ := Aside0.mk (Kd.R_reok rfl hy0 (fun k_ e_ => HO_0.out.1 k_ e_)); have n1_ := Aside0.mk (Kept.then_ (S := (fun k_ => P0_ k_)) (by repeat (first | (with_reducible first | exact HK.out | apply Kept.alloc | apply Kept.drewN | apply Kept.drew) | exact HK.out)) hkp (fun k_ hs_ => (fun e_ => (HO_0.out.1 k_ e_.symm)) hs_)); have n2_ := Aside0.mk (hb); clear HO_0; clear HK; clear HB; have HO_0 := n0_; have HK := n1_; have HB := n2_; clear n0_ n1_ n2_; (try clear hb); (try clear hkp); (try clear hy0)))
                    (try simp only [← hl0_3])
                    go_roundg k3
                    case measure => have := HK1.out; have := HK2.out; have := HK3.out; omega
                    case rel => exact ⟨(t304), (x8_3), (wrap64 (x8_3 + (wrap64 (2 * x6_2)))), (by first | rfl | (simp; done) | (simp [*]; done)), (by first | rfl | (simp; done) | (simp [*]; done)), H', ⟨by have := HK1.out; have := HK2.out; have := HK3.out; omega⟩, ⟨by (try simp only [hl0_2]); (try simp only [hl0_3]); (with_reducible repeat (first | apply Kd.R_alloc | apply Kd.R_drewN | apply Kd.R_drew)); exact HO_0.out⟩, ⟨by repeat (first | (with_reducible first | exact HK.out | apply Kept.alloc | apply Kept.drewN | apply Kept.drew) | exact HK.out)⟩, ⟨by repeat (first | (with_reducible first | exact HB.out | apply below_alloc | apply pw_below_drewN | apply below_drew1) | exact HB.out)⟩⟩
                  · rw [if_neg c12] at H
                    have c12b0 : decide (x8_3 ≤ a1) = false := decide_eq_false c12
                    clear c12
                    by_cases c15 : (wrap64 (x7_3 + x6_2)) < a1
                    · rw [if_pos c15] at H
                      have c15b0 : decide ((wrap64 (x7_3 + x6_2)) < a1) = true := decide_eq_true c15
                      clear c15
                      replace H := Option.bind_eq_some_iff.mp H
                      obtain ⟨t305, A160, H⟩ := H
                      replace H : (slices_stableCmpFunc_Job__job_Due_1.l1 k3 t305 a1 (wrap64 (x6_2 * 2))) = some r := H
                      have A16 := Aside0.mk A160
                      clear A160
                      have H' := Aside0.mk H
                      clear H
                      go_wp2_with (first | ((with_reducible refine gate_callee (f := 68) rfl ?_); refine goesL_ (some 60) rfl rfl Try.func68 (by kernel_rfl) rfl #[.slice Ao9 x0_3.length co9, .int .i64 x7_3, .int .i64 (wrap64 (x7_3 + x6_2)), .int .i64 a1, .func (.func 47) #[] #[]] rfl (by (try simp only [List.map_toArray, List.map_cons, List.map_nil]); first | done | rfl | (simp only [List.length_drop, List.length_take]; rfl)) ?_; (with_reducible refine (slices_symMergeCmpFunc_Job__job_Due_1.calls k3 (fun k_ => some k_ = (.slice Ao9 x0_3.length co9 : Value).ownBlock) (.slice Ao9 x0_3.length co9) x0_3 x7_3 (wrap64 (x7_3 + x6_2)) a1  t305 w0 _ ?side1 ?side2 A16.out).mono ?_); (case side1 => repeat (first | (with_reducible first | exact HB.out | apply below_alloc | apply pw_below_drewN | apply below_drew1) | exact HB.out)); (case side2 => exact Kd.R_tight rfl HO_0.out); rintro e w17 ⟨rfl, hy0, hb, hkp⟩; refine ⟨_, rfl, ?_⟩; have n0_ := Aside0.mk (Kd.R_reok rfl hy0 (fun k_ e_ => HO_0.out.1 k_ e_)); have n1_ := Aside0.mk (Kept.then_ (S := (fun k_ => P0_ k_)) (by repeat (first | (with_reducible first | exact HK.out | apply Kept.alloc | apply Kept.drewN | apply Kept.drew) | exact HK.out)) hkp (fun k_ hs_ => (fun e_ => (HO_0.out.1 k_ e_.symm)) hs_)); have n2_ := Aside0.mk (hb); clear HO_0; clear HK; clear HB; have HO_0 := n0_; have HK := n1_; have HB := n2_; clear n0_ n1_ n2_; (try clear hb); (try clear hkp); (try clear hy0)))
                      (try simp only [← hl0_3]); (try simp only [← hl0_2])
                      go_roundg k3
                      case measure => have := HK1.out; have := HK2.out; have := HK3.out; omega
                      case rel => exact ⟨(t305), (wrap64 (x6_2 * 2)), (by first | rfl | (simp; done) | (simp [*]; done)), H', ⟨by have := HK1.out; have := HK2.out; have := HK3.out; omega⟩, ⟨by (try simp only [hl0_2]); (try simp only [hl0_3]); (with_reducible repeat (first | apply Kd.R_alloc | apply Kd.R_drewN | apply Kd.R_drew)); exact HO_0.out⟩, ⟨by repeat (first | (with_reducible first | exact HK.out | apply Kept.alloc | apply Kept.drewN | apply Kept.drew) | exact HK.out)⟩, ⟨by repeat (first | (with_reducible first | exact HB.out | apply below_alloc | apply pw_below_drewN | apply below_drew1) | exact HB.out)⟩⟩
                    · rw [if_neg c15] at H
                      have c15b0 : decide ((wrap64 (x7_3 + x6_2)) < a1) = false := decide_eq_false c15
                      clear c15
                      have H' := Aside0.mk H
                      clear H
                      go_wp2
                      (try simp only [← hl0_3]); (try simp only [← hl0_2])
                      go_roundg k3
                      case measure => have := HK1.out; have := HK2.out; have := HK3.out; omega
                      case rel => exact ⟨(x0_3), (wrap64 (x6_2 * 2)), (by first | rfl | (simp; done) | (simp [*]; done)), H', ⟨by have := HK1.out; have := HK2.out; have := HK3.out; omega⟩, ⟨by (try simp only [hl0_2]); (try simp only [hl0_3]); (with_reducible repeat (first | apply Kd.R_alloc | apply Kd.R_drewN | apply Kd.R_drew)); exact HO_0.out⟩, ⟨by repeat (first | (with_reducible first | exact HK.out | apply Kept.alloc | apply Kept.drewN | apply Kept.drew) | exact HK.out)⟩, ⟨by repeat (first | (with_reducible first | exact HB.out | apply below_alloc | apply pw_below_drewN | apply below_drew1) | exact HB.out)⟩⟩
            · rw [if_neg c11] at H
              have c11b0 : decide (x6_2 < a1) = false := decide_eq_false c11
              clear c11
              obtain rfl := Option.some.inj H
              go_wp2
              first | go_end0 | ((try simp only [Exit.inBlock, Exit.then]); refine bodyPost_ret (results_none rfl _ _ _) rfl ?_)
              exact ⟨by first | rfl | (simp [errW_none, errW_some] <;> rfl) | (simp [*, errW_none, errW_some] <;> rfl), (by first | exact (by (with_reducible repeat (first | apply Kd.R_alloc | apply Kd.R_drewN | apply Kd.R_drew)); exact HO_0.out) | (simp only [hl0_2]; exact (by (with_reducible repeat (first | apply Kd.R_alloc | apply Kd.R_drewN | apply Kd.R_drew)); exact HO_0.out))), by repeat (first | (with_reducible first | exact HB.out | apply below_alloc | apply pw_below_drewN | apply below_drew1) | exact HB.out), by repeat (first | (with_reducible first | exact HK.out | apply Kept.alloc | apply Kept.drewN | apply Kept.drew) | exact HK.out)⟩

end Go.Proofs.Ytkhfgflcanmefaa.PAll
end
section
namespace Go.Proofs.Ytkhfgflcanmefaa.PAll
open Go.RowKit Go.Proofs.YtkhfgflcanmefaaW.PrintWords Go.Proofs.YtkhfgflcanmefaaW.PrintLast Go.Proofs.YtkhfgflcanmefaaW.PrintMore
attribute [local go_sem] max2_int min2_int max_two min_two max_three min_three max_four min_four   -- for this text's walks alone
set_option linter.unusedVariables false
set_option linter.unusedSimpArgs false

def slices_SortStableFunc_Job__job_Due_1.f (k : Nat) (l0 : List (S32))  : Option ((List (S32))) := (slices_stableCmpFunc_Job__job_Due_1.f k l0 (l0.length : Int)).bind fun t306 => (some t306)
theorem slices_SortStableFunc_Job__job_Due_1.mono : ∀ a0 k, LeO (slices_SortStableFunc_Job__job_Due_1.f k a0) (slices_SortStableFunc_Job__job_Due_1.f (k + 1) a0) := by
  intro a0 k
  unfold slices_SortStableFunc_Job__job_Due_1.f
  repeat' first
      | (with_reducible exact slices_stableCmpFunc_Job__job_Due_1.mono _ _ _)
      | (with_reducible exact LeO.refl _)
      | (with_reducible exact LeO.none _)
      | (with_reducible refine LeO.ite ?_ ?_)
      | (with_reducible refine LeO.bind ?_ (fun _ => ?_))
      | exact slices_stableCmpFunc_Job__job_Due_1.mono _ _ _
      | exact LeO.none _
      | refine LeO.ite ?_ ?_
      | refine LeO.bind ?_ (fun _ => ?_)
set_option maxHeartbeats 8000000 in
set_option maxRecDepth 100000 in
theorem slices_SortStableFunc_Job__job_Due_1.calls (k : Nat) (P0_ : Nat → Prop) (u9000_ : Value) (l0 : List (S32))  (r : List (S32)) (w0 w : World) (hB : Below w0.heap.size w0 w) (ho0 : Kd.R k32 32 w w0.heap.size P0_ u9000_ l0) (h : slices_SortStableFunc_Job__job_Due_1.f k l0 = some r) :
    Calls Try.prog 46 #[u9000_, .func (.func 47) #[] #[]] w fun e w' => e = .returned (.tuple #[]) ∧ Kd.R k32 32 w' w0.heap.size (fun k_ => (P0_ k_ ∨ w.heap.size ≤ k_)) u9000_ r ∧ Below w0.heap.size w0 w' ∧ Kept w w' (fun k_ => P0_ k_) := by
  have HO0 := Aside0.mk (show Kd.R k32 32 w w0.heap.size (fun k_ => (P0_ k_ ∨ w.heap.size ≤ k_)) u9000_ l0 from Kd.R_mono ho0 (fun k_ hk => (.inl hk)))
  have HK := Aside0.mk (Kept.refl w (fun k_ => P0_ k_))
  have HW0 := Aside0.mk hB.size
  have HB := Aside0.mk hB
  clear hB
  have H : ((slices_stableCmpFunc_Job__job_Due_1.f k l0 (l0.length : Int)).bind fun t306 => (some t306)) = some r := h
  clear h
  replace H := Option.bind_eq_some_iff.mp H
  obtain ⟨t306, A30, H⟩ := H
  replace H : (some t306) = some r := H
  have A3 := Aside0.mk A30
  clear A30
  obtain rfl := Option.some.inj H
  obtain ⟨Ao4, co4, eo4⟩ := Kd.R_slice HO0.out
  subst eo4
  go_enter Try.func46, Try.ntmps46
  go_wp2_with (first | ((with_reducible refine gate_callee (f := 59) rfl ?_); refine goesL_ (some 8) rfl rfl Try.func59 (by kernel_rfl) rfl #[.slice Ao4 l0.length co4, .int .i64 (l0.length : Int), .func (.func 47) #[] #[]] rfl (by (try simp only [List.map_toArray, List.map_cons, List.map_nil]); first | done | rfl | (simp only [List.length_drop, List.length_take]; rfl)) ?_; (with_reducible refine (slices_stableCmpFunc_Job__job_Due_1.calls k (fun k_ => some k_ = (.slice Ao4 l0.length co4 : Value).ownBlock) (.slice Ao4 l0.length co4) l0 (l0.length : Int)  t306 w0 _ ?side1 ?side2 A3.out).mono ?_); (case side1 => repeat (first | (with_reducible first | exact HB.out | apply below_alloc | apply pw_below_drewN | apply below_drew1) | exact HB.out)); (case side2 => exact Kd.R_tight rfl HO0.out); rintro e w5 ⟨rfl, hy0, hb, hkp⟩; refine ⟨_, rfl, ?_⟩; have n0_ := Aside0.mk (Kd.R_reok rfl hy0 (fun k_ e_ => HO0.out.1 k_ e_)); have n1_ := Aside0.mk (Kept.then_ (S := (fun k_ => P0_ k_)) (by repeat (first | (with_reducible first | exact HK.out | apply Kept.alloc | apply Kept.drewN | apply Kept.drew) | exact HK.out)) hkp (fun k_ hs_ => (fun e_ => (HO0.out.1 k_ e_.symm)) hs_)); have n2_ := Aside0.mk (hb); clear HO0; clear HK; clear HB; have HO0 := n0_; have HK := n1_; have HB := n2_; clear n0_ n1_ n2_; (try clear hb); (try clear hkp); (try clear hy0)))
  first | go_end0 | ((try simp only [Exit.inBlock, Exit.then]); refine bodyPost_ret (results_none rfl _ _ _) rfl ?_)
  exact ⟨by first | rfl | (simp [errW_none, errW_some] <;> rfl) | (simp [*, errW_none, errW_some] <;> rfl), by (with_reducible repeat (first | apply Kd.R_alloc | apply Kd.R_drewN | apply Kd.R_drew)); exact HO0.out, by repeat (first | (with_reducible first | exact HB.out | apply below_alloc | apply pw_below_drewN | apply below_drew1) | exact HB.out), by repeat (first | (with_reducible first | exact HK.out | apply Kept.alloc | apply Kept.drewN | apply Kept.drew) | exact HK.out)⟩

end Go.Proofs.Ytkhfgflcanmefaa.PAll
end
section
namespace Go.Proofs.Ytkhfgflcanmefaa.PAll
open Go.RowKit Go.Proofs.YtkhfgflcanmefaaW.PrintWords Go.Proofs.YtkhfgflcanmefaaW.PrintLast Go.Proofs.YtkhfgflcanmefaaW.PrintMore
attribute [local go_sem] max2_int min2_int max_two min_two max_three min_three max_four min_four   -- for this text's walks alone
set_option linter.unusedVariables false
set_option linter.unusedSimpArgs false

def job_Due.l0 : Nat → Int → List Int → List (S32) → Int → Int → Option (List Int)
 | 0, _, _, _, _, _ => none
 | k + 1, x1, x6, x13, x14, x15 => if x15 < x14 then (if 0 ≤ x15 then (if x15 < (x13.length : Int) then (if (wrap64 (((rd_T32 x13 x15).f8) + ((rd_T32 x13 x15).f3))) ≤ x1 then (if x6.length < 17592186044416 then (job_Due.l0 k x1 (x6 ++ [(rd_T32 x13 x15).f0]) x13 x14 (wrap64 (x15 + 1))) else (none)) else (job_Due.l0 k x1 x6 x13 x14 (wrap64 (x15 + 1)))) else (none)) else (none)) else ((slices_Clip_int.f x6).bind fun t316 => (some t316))
def job_Due.f (k : Nat) (l0 : List (S32)) (a1 : Int) : Option (List Int) := (job_running.f k l0).bind fun t307 => ((slices_SortStableFunc_Job__job_Due_1.f k t307).bind fun t310 => (job_Due.l0 k a1 ([] : List Int) t310 (t307.length : Int) 0))
theorem job_Due.mono_l : ∀ k, (∀ y0 y1 y2 y3 y4, LeO (job_Due.l0 k y0 y1 y2 y3 y4) (job_Due.l0 (k + 1) y0 y1 y2 y3 y4))
 | 0 => fun _ _ _ _ _ r h => by simp [job_Due.l0] at h
 | k + 1 => by
  have ih0 := job_Due.mono_l k
  ·intro y0 y1 y2 y3 y4
   unfold job_Due.l0
   repeat' first
   | (with_reducible exact ih0 _ _ _ _ _)
   | (with_reducible exact job_running.mono _ _)
   | (with_reducible exact slices_SortStableFunc_Job__job_Due_1.mono _ _)
   | (with_reducible exact LeO.refl _)
   | (with_reducible exact LeO.none _)
   | (with_reducible refine LeO.ite ?_ ?_)
   | (with_reducible refine LeO.bind ?_ (fun _ => ?_))
   | exact ih0 _ _ _ _ _
   | exact job_running.mono _ _
   | exact slices_SortStableFunc_Job__job_Due_1.mono _ _
   | exact LeO.none _
   | refine LeO.ite ?_ ?_
   | refine LeO.bind ?_ (fun _ => ?_)
theorem job_Due.mono : ∀ a0 a1 k, LeO (job_Due.f k a0 a1) (job_Due.f (k + 1) a0 a1) := by
 intro a0 a1 k
 have ih0 := job_Due.mono_l k
 unfold job_Due.f
 repeat' first
   | (with_reducible exact ih0 _ _ _ _ _)
   | (with_reducible exact job_running.mono _ _)
   | (with_reducible exact slices_SortStableFunc_Job__job_Due_1.mono _ _)
   | (with_reducible exact LeO.refl _)
   | (with_reducible exact LeO.none _)
   | (with_reducible refine LeO.ite ?_ ?_)
   | (with_reducible refine LeO.bind ?_ (fun _ => ?_))
   | exact ih0 _ _ _ _ _
   | exact job_running.mono _ _
   | exact slices_SortStableFunc_Job__job_Due_1.mono _ _
   | exact LeO.none _
   | refine LeO.ite ?_ ?_
   | refine LeO.bind ?_ (fun _ => ?_)
set_option maxHeartbeats 8000000 in
set_option maxRecDepth 100000 in
theorem job_Due.calls (k : Nat) (A0 : Option Addr) (c0 : Nat) (l0 : List (S32)) (a1 : Int) (r : List Int) (w : World) (hr0 : Kd.C k32 w A0 l0.length l0) (hc0 : l0.length ≤ c0) (h : job_Due.f k l0 a1 = some r) :
  Calls Try.prog 27 #[.slice A0 l0.length c0, .int .i64 a1] w fun e w' => ∃ v0_ : Value, e = .returned (v0_) ∧ Kd.V (Kd.int .i64) 3 w' w.heap.size (fun k_ => (w.heap.size ≤ k_)) v0_ r ∧ Below w.heap.size w w' := by
 have hu32 := Try.underlying32
 have HR0 := Aside0.mk hr0
 have HC0 := Aside0.mk hc0
 clear hr0; clear hc0
 have HB := Aside0.mk (Below.refl w.heap.size w)
 have H : ((job_running.f k l0).bind fun t307 => ((slices_SortStableFunc_Job__job_Due_1.f k t307).bind fun t310 => (job_Due.l0 k a1 ([] : List Int) t310 (t307.length : Int) 0))) = some r := h
 clear h
 replace H := Option.bind_eq_some_iff.mp H
 obtain ⟨t307, A30, H⟩ := H
 replace H : ((slices_SortStableFunc_Job__job_Due_1.f k t307).bind fun t310 => (job_Due.l0 k a1 ([] : List Int) t310 (t307.length : Int) 0)) = some r := H
 have A3 := Aside0.mk A30
 clear A30
 replace H := Option.bind_eq_some_iff.mp H
 obtain ⟨t310, A40, H⟩ := H
 replace H : (job_Due.l0 k a1 ([] : List Int) t310 (t307.length : Int) 0) = some r := H
 have A4 := Aside0.mk A40
 clear A40
 have H' := Aside0.mk H
 clear H
 go_enter Try.func27, Try.ntmps27
 go_wp2_with (first | ((with_reducible refine gate_callee (f := 41) rfl ?_); refine goesL_ (some 10) rfl rfl Try.func41 (by kernel_rfl) rfl #[.slice A0 l0.length c0] rfl mt ?_; (with_reducible refine (job_running.calls k _ _ l0 t307 _ ?side1 ?side2 A3.out).mono ?_); (case side1 => exact mC HR0.out); (case side2 => exact HC0.out); rintro e w5 ⟨v308, rfl, ho0, hb⟩; refine ⟨_, rfl, ?_⟩; have n0_ := Aside0.mk (Kd.R_lower (Kd.R_newM (M := fun k_ => (w.heap.size ≤ k_)) ho0 (below_size (mB HB.out)) (fun k_ h_ => h_)) (below_size (mB HB.out))); have n1_ := Aside0.mk (below_step (mB HB.out) hb); clear HB; have HO309 := n0_; have HB := n1_; clear n0_ n1_; (try clear hb); (try clear hb2); (try clear hk); (try clear hi); (try clear ho0); obtain ⟨Ao6, co6, eo6⟩ := Kd.R_slice HO309.out; subst eo6) | ((with_reducible refine gate_callee (f := 46) rfl ?_); refine goesL_ (some 12) rfl rfl Try.func46 (by kernel_rfl) rfl #[.slice Ao6 t307.length co6, .func (.func 47) #[] #[]] rfl mt ?_; (with_reducible refine (slices_SortStableFunc_Job__job_Due_1.calls k (fun k_ => some k_ = (.slice Ao6 t307.length co6 : Value).ownBlock) (.slice Ao6 t307.length co6) t307  t310 w _ ?side1 ?side2 A4.out).mono ?_); (case side1 => repeat (first | (with_reducible first | exact HB.out | apply below_alloc | apply pw_below_drewN | apply below_drew1) | exact HB.out)); (case side2 => exact Kd.R_tight rfl HO309.out); rintro e w7 ⟨rfl, hy0, hb, hkp⟩; refine ⟨_, rfl, ?_⟩; have n0_ := Aside0.mk (Kd.R_reok rfl hy0 (fun k_ e_ => HO309.out.1 k_ e_)); have n1_ := Aside0.mk (hb); clear HO309; clear HB; have HO309 := n0_; have HB := n1_; clear n0_ n1_; (try clear hb); (try clear hkp); (try clear hy0)))
 go_loopg [6, 15] k (fun kq v6 v15 w' => ∃ (x6_1 : List Int) (x15_1 : Int), v15 = .int .i64 x15_1 ∧ Aside0 (job_Due.l0 kq a1 x6_1 t310 (t307.length : Int) x15_1 = some r) ∧ Aside0 (kq ≤ k) ∧ Aside0 (Kd.R (Kd.int .i64) 3 w' w.heap.size (fun k_ => (w.heap.size ≤ k_)) v6 x6_1) ∧ Aside0 (Kd.R k32 32 w' w.heap.size (fun k_ => (w.heap.size ≤ k_)) (.slice Ao6 t307.length co6) t310) ∧ Aside0 (Below w.heap.size w w'))
 case atStart => exact ⟨(([] : List Int)), (0), ez, H', ⟨Nat.le_refl _⟩, ⟨by first | exact Kd.R_nil _ _ _ _ _ | exact Kd.N_nil _ _ _ _ _ | exact Kd.V_nil _ _ _ _ _ | exact Kd.Q_nil _ _ _ _ _ | exact Kd.S_nil _ _ _ _ _⟩, ⟨by (with_reducible repeat (first | apply Kd.R_alloc | apply Kd.R_drewN | apply Kd.R_drew)); exact Kd.R_mono HO309.out (fun _ hk => hk.1)⟩, ⟨mB HB.out⟩⟩
 case round =>
  clear H'
  (try clear c2); (try clear p2); (try clear c4); (try clear c7)
  obtain ⟨x6_1, x15_1, rfl, HA, HK1, HO_6, HO_13, HB⟩ := hrel
  have hl13_1 := (Kd.R_reads' HO_13.out).1
  rw [hl13_1] at HO_13
  (try simp only [hl13_1])
  (try simp only [hl13_1] at HO_6)
  cases gk with
  | zero => exact absurd HA.out (by simp [job_Due.l0])
  | succ k1 =>
   have H := HA.out
   clear HA
   simp only [job_Due.l0] at H
   by_cases c8 : x15_1 < (t307.length : Int)
   ·rw [if_pos c8] at H
    have c8b0 : decide (x15_1 < (t307.length : Int)) = true := decide_eq_true c8
    clear c8
    by_cases c9 : 0 ≤ x15_1
    ·rw [if_pos c9] at H
     have c9b0 : decide (0 ≤ x15_1) = true := decide_eq_true c9
     clear c9
     by_cases c10 : x15_1 < (t310.length : Int)
     ·rw [if_pos c10] at H
      have c10b0 : decide (x15_1 < (t310.length : Int)) = true := decide_eq_true c10
      clear c10
      by_cases c11 : (wrap64 (((rd_T32 t310 x15_1).f8) + ((rd_T32 t310 x15_1).f3))) ≤ a1
      ·rw [if_pos c11] at H
       have c11b0 : decide ((wrap64 (((rd_T32 t310 x15_1).f8) + ((rd_T32 t310 x15_1).f3))) ≤ a1) = true := decide_eq_true c11
       clear c11
       by_cases c12 : x6_1.length < 17592186044416
       ·rw [if_pos c12] at H
        have LMc12 := Aside0.mk c12
        clear c12
        obtain ⟨y313, hy313⟩ : ∃ y_ : List Int, y_ = (x6_1 ++ [(rd_T32 t310 x15_1).f0]) := ⟨_, rfl⟩
        replace H : (job_Due.l0 k1 a1 y313 t310 (t307.length : Int) (wrap64 (x15_1 + 1))) = some r := mH hy313 H
        have Ny313 := Aside0.mk hy313
        clear hy313
        have H' := Aside0.mk H
        clear H
        have p311 : 0 ≤ (x15_1 : Int) := oda
        have q311 : x15_1 < (t310.length : Int) := oda
        obtain ⟨ad311, e311, hx311_0, hx311_1, hx311_2, hx311_3, hx311_4, hx311_5, hx311_6, hx311_7, hx311_8, hx311_9, hx311_10, hx311_11⟩ := at_T32 (Kd.R_reads' HO_13.out).2.2 x15_1 p311 q311
        cases e311
        replace p311 := eq_true p311
        replace q311 := eq_true q311
        go_wp2_with (first | ((with_reducible refine gate_dst (N := 8) rfl ?_); refine box_event ?hg (N := 8) ?hd (cs := #[.int .i64 0, .int .i64 0, .int .i64 0, .int .i64 0, .int .i64 0, .int .i64 0, .int .i64 0, .int .i64 0, .int .i64 0, .int .i64 0, .int .i64 0, .slice none 0 0]) (t := 32) ?hr ?_; (case hd => rfl); (case hg => rfl); (case hr => first | (go_simp; done) | (go_simp; rfl)); intro gb312 hg w13 hbox hb; have n0_ := Aside0.mk (Kd.R_below (mR HO_6.out) hb); have n1_ := Aside0.mk (Kd.R_below (Kd.R_elderB (mR HO_13.out) gb312 (Nat.le_of_eq hg.symm)) hb); have n2_ := Aside0.mk (below_step (mB HB.out) hb); have n3_ := Aside0.mk (hbox); have n4_ := Aside0.mk ((by rw [hg]; exact (below_size (mB HB.out)) : w.heap.size ≤ gb312)); have n5_ := Aside0.mk ((by rw [hg]; exact (below_size (mB HB.out)) : w.heap.size ≤ gb312)); clear HO_6; clear HO_13; clear HB; have HO_6 := n0_; have HO_13 := n1_; have HB := n2_; have BK312 := n3_; have GW312 := n4_; have GE312 := n5_; clear n0_ n1_ n2_ n3_ n4_ n5_; clear hb hbox hg; have hcz14_0 : w13.cell? ⟨gb312, 0, none⟩ = some (.int .i64 0) := (blk_cell BK312.out 0).trans rfl; have hcz14_1 : w13.cell? ⟨gb312, 1, none⟩ = some (.int .i64 0) := (blk_cell BK312.out 1).trans rfl; have hcz14_2 : w13.cell? ⟨gb312, 2, none⟩ = some (.int .i64 0) := (blk_cell BK312.out 2).trans rfl; have hcz14_3 : w13.cell? ⟨gb312, 3, none⟩ = some (.int .i64 0) := (blk_cell BK312.out 3).trans rfl; have hcz14_4 : w13.cell? ⟨gb312, 4, none⟩ = some (.int .i64 0) := (blk_cell BK312.out 4).trans rfl; have hcz14_5 : w13.cell? ⟨gb312, 5, none⟩ = some (.int .i64 0) := (blk_cell BK312.out 5).trans rfl; have hcz14_6 : w13.cell? ⟨gb312, 6, none⟩ = some (.int .i64 0) := (blk_cell BK312.out 6).trans rfl; have hcz14_7 : w13.cell? ⟨gb312, 7, none⟩ = some (.int .i64 0) := (blk_cell BK312.out 7).trans rfl; have hcz14_8 : w13.cell? ⟨gb312, 8, none⟩ = some (.int .i64 0) := (blk_cell BK312.out 8).trans rfl; have hcz14_9 : w13.cell? ⟨gb312, 9, none⟩ = some (.int .i64 0) := (blk_cell BK312.out 9).trans rfl; have hcz14_10 : w13.cell? ⟨gb312, 10, none⟩ = some (.int .i64 0) := (blk_cell BK312.out 10).trans rfl; have hcz14_11 : w13.cell? ⟨gb312, 11, none⟩ = some (.slice none 0 0) := (blk_cell BK312.out 11).trans rfl; have hfz14_0 := blk_frozen BK312.out 0; have hfz14_1 := blk_frozen BK312.out 1; have hfz14_2 := blk_frozen BK312.out 2; have hfz14_3 := blk_frozen BK312.out 3; have hfz14_4 := blk_frozen BK312.out 4; have hfz14_5 := blk_frozen BK312.out 5; have hfz14_6 := blk_frozen BK312.out 6; have hfz14_7 := blk_frozen BK312.out 7; have hfz14_8 := blk_frozen BK312.out 8; have hfz14_9 := blk_frozen BK312.out 9; have hfz14_10 := blk_frozen BK312.out 10; have hfz14_11 := blk_frozen BK312.out 11) | ((with_reducible refine gate_builtin (b := .append) (xs := #[.tmp 26, .tmp 29]) rfl ?_); at_builtin; refine Kd.R_append (Kd.int .i64) (w0 := w) w.heap.size rfl (.tmp 26) (.tmp 29) 24 3 (.int .i64 0) 8 rfl Try.underlying24 info3 rfl (by decide) (by omega) u6 x6_1 ((rd_T32 t310 x15_1).f0) [.int .i64 ((rd_T32 t310 x15_1).f0)] (fun k_ => (w.heap.size ≤ k_)) (fun _ => False) rfl (by first | (go_simp; done) | (go_simp; rfl)) ?aP (fun _ hk => hk.elim) ?aF ?aO ?aB ?aS ?aL ?_; (case aP => exact rfl); (case aB => exact (mBs HB.out)); (case aF => exact (fun k_ hk => (Nat.le_trans (below_size (mBs HB.out)) hk))); (case aO => exact (by (with_reducible repeat (first | apply Kd.R_alloc | apply Kd.R_drewN | apply Kd.R_drew)); exact Kd.R_mono (Kd.R_fa gb312 11 (Kd.R_fa gb312 10 (Kd.R_fa gb312 9 (Kd.R_fa gb312 8 (Kd.R_fa gb312 7 (Kd.R_fa gb312 6 (Kd.R_fa gb312 5 (Kd.R_fa gb312 4 (Kd.R_fa gb312 3 (Kd.R_fa gb312 2 (Kd.R_fa gb312 1 (Kd.R_fa gb312 0 (Kd.R_types HO_6.out BK312.out (by decide)) (.int .i64 ((rd_T32 t310 x15_1).f0))) (.int .i64 ((rd_T32 t310 x15_1).f1))) (.int .i64 ((rd_T32 t310 x15_1).f2))) (.int .i64 ((rd_T32 t310 x15_1).f3))) (.int .i64 ((rd_T32 t310 x15_1).f4))) (.int .i64 ((rd_T32 t310 x15_1).f5))) (.int .i64 ((rd_T32 t310 x15_1).f6))) (.int .i64 ((rd_T32 t310 x15_1).f7))) (.int .i64 ((rd_T32 t310 x15_1).f8))) (.int .i64 ((rd_T32 t310 x15_1).f9))) (.int .i64 ((rd_T32 t310 x15_1).f10))) (.slice ((rd_T32 t310 x15_1).f11).A ((rd_T32 t310 x15_1).f11).n ((rd_T32 t310 x15_1).f11).c)) (fun _ hk => hk.1))); (case aS => exact (below_size (mBs HB.out))); (case aL => have := LMc12.out; omega); intro v314 w15 ho hb hg hat; rw [← Ny313.out] at ho; have n0_ := Aside0.mk (Kd.R_over' (by (with_reducible repeat (first | apply Kd.R_alloc | apply Kd.R_drewN | apply Kd.R_drew)); exact (Kd.R_mono (Kd.R_fa gb312 11 (Kd.R_fa gb312 10 (Kd.R_fa gb312 9 (Kd.R_fa gb312 8 (Kd.R_fa gb312 7 (Kd.R_fa gb312 6 (Kd.R_fa gb312 5 (Kd.R_fa gb312 4 (Kd.R_fa gb312 3 (Kd.R_fa gb312 2 (Kd.R_fa gb312 1 (Kd.R_fa gb312 0 (Kd.R_mono HO_13.out (fun k_ hk => (⟨hk, hk.2⟩ : _ ∧ k_ ≠ gb312))) (.int .i64 ((rd_T32 t310 x15_1).f0))) (.int .i64 ((rd_T32 t310 x15_1).f1))) (.int .i64 ((rd_T32 t310 x15_1).f2))) (.int .i64 ((rd_T32 t310 x15_1).f3))) (.int .i64 ((rd_T32 t310 x15_1).f4))) (.int .i64 ((rd_T32 t310 x15_1).f5))) (.int .i64 ((rd_T32 t310 x15_1).f6))) (.int .i64 ((rd_T32 t310 x15_1).f7))) (.int .i64 ((rd_T32 t310 x15_1).f8))) (.int .i64 ((rd_T32 t310 x15_1).f9))) (.int .i64 ((rd_T32 t310 x15_1).f10))) (.slice ((rd_T32 t310 x15_1).f11).A ((rd_T32 t310 x15_1).f11).n ((rd_T32 t310 x15_1).f11).c)) (fun _ h_ => h_.1))) (Kd.R_typed (by (with_reducible repeat (first | apply Kd.R_alloc | apply Kd.R_drewN | apply Kd.R_drew)); exact (Kd.R_mono (Kd.R_fa gb312 11 (Kd.R_fa gb312 10 (Kd.R_fa gb312 9 (Kd.R_fa gb312 8 (Kd.R_fa gb312 7 (Kd.R_fa gb312 6 (Kd.R_fa gb312 5 (Kd.R_fa gb312 4 (Kd.R_fa gb312 3 (Kd.R_fa gb312 2 (Kd.R_fa gb312 1 (Kd.R_fa gb312 0 (Kd.R_types HO_6.out BK312.out (by decide)) (.int .i64 ((rd_T32 t310 x15_1).f0))) (.int .i64 ((rd_T32 t310 x15_1).f1))) (.int .i64 ((rd_T32 t310 x15_1).f2))) (.int .i64 ((rd_T32 t310 x15_1).f3))) (.int .i64 ((rd_T32 t310 x15_1).f4))) (.int .i64 ((rd_T32 t310 x15_1).f5))) (.int .i64 ((rd_T32 t310 x15_1).f6))) (.int .i64 ((rd_T32 t310 x15_1).f7))) (.int .i64 ((rd_T32 t310 x15_1).f8))) (.int .i64 ((rd_T32 t310 x15_1).f9))) (.int .i64 ((rd_T32 t310 x15_1).f10))) (.slice ((rd_T32 t310 x15_1).f11).A ((rd_T32 t310 x15_1).f11).n ((rd_T32 t310 x15_1).f11).c)) (fun _ h_ => h_.1)))) (by decide) hg); have n1_ := Aside0.mk (blk_grown (g := gb312) (o := .cells #[.int .i64 ((rd_T32 t310 x15_1).f0), .int .i64 ((rd_T32 t310 x15_1).f1), .int .i64 ((rd_T32 t310 x15_1).f2), .int .i64 ((rd_T32 t310 x15_1).f3), .int .i64 ((rd_T32 t310 x15_1).f4), .int .i64 ((rd_T32 t310 x15_1).f5), .int .i64 ((rd_T32 t310 x15_1).f6), .int .i64 ((rd_T32 t310 x15_1).f7), .int .i64 ((rd_T32 t310 x15_1).f8), .int .i64 ((rd_T32 t310 x15_1).f9), .int .i64 ((rd_T32 t310 x15_1).f10), .slice ((rd_T32 t310 x15_1).f11).A ((rd_T32 t310 x15_1).f11).n ((rd_T32 t310 x15_1).f11).c] 32 (0, 0)) (by (with_reducible repeat first | apply blk_drewN | apply blk_drew | apply blk_alloc); refine blk_put (cs := #[.int .i64 ((rd_T32 t310 x15_1).f0), .int .i64 ((rd_T32 t310 x15_1).f1), .int .i64 ((rd_T32 t310 x15_1).f2), .int .i64 ((rd_T32 t310 x15_1).f3), .int .i64 ((rd_T32 t310 x15_1).f4), .int .i64 ((rd_T32 t310 x15_1).f5), .int .i64 ((rd_T32 t310 x15_1).f6), .int .i64 ((rd_T32 t310 x15_1).f7), .int .i64 ((rd_T32 t310 x15_1).f8), .int .i64 ((rd_T32 t310 x15_1).f9), .int .i64 ((rd_T32 t310 x15_1).f10), .slice none 0 0]) ?_ 11 _ rfl; (with_reducible repeat first | apply blk_drewN | apply blk_drew | apply blk_alloc); refine blk_put (cs := #[.int .i64 ((rd_T32 t310 x15_1).f0), .int .i64 ((rd_T32 t310 x15_1).f1), .int .i64 ((rd_T32 t310 x15_1).f2), .int .i64 ((rd_T32 t310 x15_1).f3), .int .i64 ((rd_T32 t310 x15_1).f4), .int .i64 ((rd_T32 t310 x15_1).f5), .int .i64 ((rd_T32 t310 x15_1).f6), .int .i64 ((rd_T32 t310 x15_1).f7), .int .i64 ((rd_T32 t310 x15_1).f8), .int .i64 ((rd_T32 t310 x15_1).f9), .int .i64 0, .slice none 0 0]) ?_ 10 _ rfl; (with_reducible repeat first | apply blk_drewN | apply blk_drew | apply blk_alloc); refine blk_put (cs := #[.int .i64 ((rd_T32 t310 x15_1).f0), .int .i64 ((rd_T32 t310 x15_1).f1), .int .i64 ((rd_T32 t310 x15_1).f2), .int .i64 ((rd_T32 t310 x15_1).f3), .int .i64 ((rd_T32 t310 x15_1).f4), .int .i64 ((rd_T32 t310 x15_1).f5), .int .i64 ((rd_T32 t310 x15_1).f6), .int .i64 ((rd_T32 t310 x15_1).f7), .int .i64 ((rd_T32 t310 x15_1).f8), .int .i64 0, .int .i64 0, .slice none 0 0]) ?_ 9 _ rfl; (with_reducible repeat first | apply blk_drewN | apply blk_drew | apply blk_alloc); refine blk_put (cs := #[.int .i64 ((rd_T32 t310 x15_1).f0), .int .i64 ((rd_T32 t310 x15_1).f1), .int .i64 ((rd_T32 t310 x15_1).f2), .int .i64 ((rd_T32 t310 x15_1).f3), .int .i64 ((rd_T32 t310 x15_1).f4), .int .i64 ((rd_T32 t310 x15_1).f5), .int .i64 ((rd_T32 t310 x15_1).f6), .int .i64 ((rd_T32 t310 x15_1).f7), .int .i64 0, .int .i64 0, .int .i64 0, .slice none 0 0]) ?_ 8 _ rfl; (with_reducible repeat first | apply blk_drewN | apply blk_drew | apply blk_alloc); refine blk_put (cs := #[.int .i64 ((rd_T32 t310 x15_1).f0), .int .i64 ((rd_T32 t310 x15_1).f1), .int .i64 ((rd_T32 t310 x15_1).f2), .int .i64 ((rd_T32 t310 x15_1).f3), .int .i64 ((rd_T32 t310 x15_1).f4), .int .i64 ((rd_T32 t310 x15_1).f5), .int .i64 ((rd_T32 t310 x15_1).f6), .int .i64 0, .int .i64 0, .int .i64 0, .int .i64 0, .slice none 0 0]) ?_ 7 _ rfl; (with_reducible repeat first | apply blk_drewN | apply blk_drew | apply blk_alloc); refine blk_put (cs := #[.int .i64 ((rd_T32 t310 x15_1).f0), .int .i64 ((rd_T32 t310 x15_1).f1), .int .i64 ((rd_T32 t310 x15_1).f2), .int .i64 ((rd_T32 t310 x15_1).f3), .int .i64 ((rd_T32 t310 x15_1).f4), .int .i64 ((rd_T32 t310 x15_1).f5), .int .i64 0, .int .i64 0, .int .i64 0, .int .i64 0, .int .i64 0, .slice none 0 0]) ?_ 6 _ rfl; (with_reducible repeat first | apply blk_drewN | apply blk_drew | apply blk_alloc); refine blk_put (cs := #[.int .i64 ((rd_T32 t310 x15_1).f0), .int .i64 ((rd_T32 t310 x15_1).f1), .int .i64 ((rd_T32 t310 x15_1).f2), .int .i64 ((rd_T32 t310 x15_1).f3), .int .i64 ((rd_T32 t310 x15_1).f4), .int .i64 0, .int .i64 0, .int .i64 0, .int .i64 0, .int .i64 0, .int .i64 0, .slice none 0 0]) ?_ 5 _ rfl; (with_reducible repeat first | apply blk_drewN | apply blk_drew | apply blk_alloc); refine blk_put (cs := #[.int .i64 ((rd_T32 t310 x15_1).f0), .int .i64 ((rd_T32 t310 x15_1).f1), .int .i64 ((rd_T32 t310 x15_1).f2), .int .i64 ((rd_T32 t310 x15_1).f3), .int .i64 0, .int .i64 0, .int .i64 0, .int .i64 0, .int .i64 0, .int .i64 0, .int .i64 0, .slice none 0 0]) ?_ 4 _ rfl; (with_reducible repeat first | apply blk_drewN | apply blk_drew | apply blk_alloc); refine blk_put (cs := #[.int .i64 ((rd_T32 t310 x15_1).f0), .int .i64 ((rd_T32 t310 x15_1).f1), .int .i64 ((rd_T32 t310 x15_1).f2), .int .i64 0, .int .i64 0, .int .i64 0, .int .i64 0, .int .i64 0, .int .i64 0, .int .i64 0, .int .i64 0, .slice none 0 0]) ?_ 3 _ rfl; (with_reducible repeat first | apply blk_drewN | apply blk_drew | apply blk_alloc); refine blk_put (cs := #[.int .i64 ((rd_T32 t310 x15_1).f0), .int .i64 ((rd_T32 t310 x15_1).f1), .int .i64 0, .int .i64 0, .int .i64 0, .int .i64 0, .int .i64 0, .int .i64 0, .int .i64 0, .int .i64 0, .int .i64 0, .slice none 0 0]) ?_ 2 _ rfl; (with_reducible repeat first | apply blk_drewN | apply blk_drew | apply blk_alloc); refine blk_put (cs := #[.int .i64 ((rd_T32 t310 x15_1).f0), .int .i64 0, .int .i64 0, .int .i64 0, .int .i64 0, .int .i64 0, .int .i64 0, .int .i64 0, .int .i64 0, .int .i64 0, .int .i64 0, .slice none 0 0]) ?_ 1 _ rfl; (with_reducible repeat first | apply blk_drewN | apply blk_drew | apply blk_alloc); refine blk_put (cs := #[.int .i64 0, .int .i64 0, .int .i64 0, .int .i64 0, .int .i64 0, .int .i64 0, .int .i64 0, .int .i64 0, .int .i64 0, .int .i64 0, .int .i64 0, .slice none 0 0]) ?_ 0 _ rfl; (with_reducible repeat first | apply blk_drewN | apply blk_drew | apply blk_alloc); exact BK312.out) hg (Kd.R_ne HO_6.out BK312.out (by decide))); have n2_ := Aside0.mk (hb); have n3_ := Aside0.mk (ho); clear HO_13; clear BK312; clear HB; clear HO_6; have HO_13 := n0_; have BK312 := n1_; have HB := n2_; have HO315 := n3_; clear n0_ n1_ n2_ n3_; clear ho hb hg hat))
        (try simp only [← hl13_1])
        go_roundg k1
        case measure => have := HK1.out; omega
        case rel => exact ⟨(y313), (wrap64 (x15_1 + 1)), ez, H', ⟨by have := HK1.out; omega⟩, ⟨by (try simp only [hl13_1]); (with_reducible repeat (first | apply Kd.R_alloc | apply Kd.R_drewN | apply Kd.R_drew)); exact HO315.out⟩, ⟨by (try simp only [hl13_1]); (with_reducible repeat (first | apply Kd.R_alloc | apply Kd.R_drewN | apply Kd.R_drew)); exact Kd.R_mono HO_13.out (fun _ hk => hk.1)⟩, ⟨mBs HB.out⟩⟩
       ·rw [if_neg c12] at H
        exact absurd H (by simp)
      ·rw [if_neg c11] at H
       have c11b0 : decide ((wrap64 (((rd_T32 t310 x15_1).f8) + ((rd_T32 t310 x15_1).f3))) ≤ a1) = false := decide_eq_false c11
       clear c11
       have H' := Aside0.mk H
       clear H
       have p311 : 0 ≤ (x15_1 : Int) := oda
       have q311 : x15_1 < (t310.length : Int) := oda
       obtain ⟨ad311, e311, hx311_0, hx311_1, hx311_2, hx311_3, hx311_4, hx311_5, hx311_6, hx311_7, hx311_8, hx311_9, hx311_10, hx311_11⟩ := at_T32 (Kd.R_reads' HO_13.out).2.2 x15_1 p311 q311
       cases e311
       replace p311 := eq_true p311
       replace q311 := eq_true q311
       go_wp2_with (first | ((with_reducible refine gate_dst (N := 8) rfl ?_); refine box_event ?hg (N := 8) ?hd (cs := #[.int .i64 0, .int .i64 0, .int .i64 0, .int .i64 0, .int .i64 0, .int .i64 0, .int .i64 0, .int .i64 0, .int .i64 0, .int .i64 0, .int .i64 0, .slice none 0 0]) (t := 32) ?hr ?_; (case hd => rfl); (case hg => rfl); (case hr => first | (go_simp; done) | (go_simp; rfl)); intro gb312 hg w16 hbox hb; have n0_ := Aside0.mk (Kd.R_below (mR HO_6.out) hb); have n1_ := Aside0.mk (Kd.R_below (Kd.R_elderB (mR HO_13.out) gb312 (Nat.le_of_eq hg.symm)) hb); have n2_ := Aside0.mk (below_step (mB HB.out) hb); have n3_ := Aside0.mk (hbox); have n4_ := Aside0.mk ((by rw [hg]; exact (below_size (mB HB.out)) : w.heap.size ≤ gb312)); have n5_ := Aside0.mk ((by rw [hg]; exact (below_size (mB HB.out)) : w.heap.size ≤ gb312)); clear HO_6; clear HO_13; clear HB; have HO_6 := n0_; have HO_13 := n1_; have HB := n2_; have BK312 := n3_; have GW312 := n4_; have GE312 := n5_; clear n0_ n1_ n2_ n3_ n4_ n5_; clear hb hbox hg; have hcz17_0 : w16.cell? ⟨gb312, 0, none⟩ = some (.int .i64 0) := (blk_cell BK312.out 0).trans rfl; have hcz17_1 : w16.cell? ⟨gb312, 1, none⟩ = some (.int .i64 0) := (blk_cell BK312.out 1).trans rfl; have hcz17_2 : w16.cell? ⟨gb312, 2, none⟩ = some (.int .i64 0) := (blk_cell BK312.out 2).trans rfl; have hcz17_3 : w16.cell? ⟨gb312, 3, none⟩ = some (.int .i64 0) := (blk_cell BK312.out 3).trans rfl; have hcz17_4 : w16.cell? ⟨gb312, 4, none⟩ = some (.int .i64 0) := (blk_cell BK312.out 4).trans rfl; have hcz17_5 : w16.cell? ⟨gb312, 5, none⟩ = some (.int .i64 0) := (blk_cell BK312.out 5).trans rfl; have hcz17_6 : w16.cell? ⟨gb312, 6, none⟩ = some (.int .i64 0) := (blk_cell BK312.out 6).trans rfl; have hcz17_7 : w16.cell? ⟨gb312, 7, none⟩ = some (.int .i64 0) := (blk_cell BK312.out 7).trans rfl; have hcz17_8 : w16.cell? ⟨gb312, 8, none⟩ = some (.int .i64 0) := (blk_cell BK312.out 8).trans rfl; have hcz17_9 : w16.cell? ⟨gb312, 9, none⟩ = some (.int .i64 0) := (blk_cell BK312.out 9).trans rfl; have hcz17_10 : w16.cell? ⟨gb312, 10, none⟩ = some (.int .i64 0) := (blk_cell BK312.out 10).trans rfl; have hcz17_11 : w16.cell? ⟨gb312, 11, none⟩ = some (.slice none 0 0) := (blk_cell BK312.out 11).trans rfl; have hfz17_0 := blk_frozen BK312.out 0; have hfz17_1 := blk_frozen BK312.out 1; have hfz17_2 := blk_frozen BK312.out 2; have hfz17_3 := blk_frozen BK312.out 3; have hfz17_4 := blk_frozen BK312.out 4; have hfz17_5 := blk_frozen BK312.out 5; have hfz17_6 := blk_frozen BK312.out 6; have hfz17_7 := blk_frozen BK312.out 7; have hfz17_8 := blk_frozen BK312.out 8; have hfz17_9 := blk_frozen BK312.out 9; have hfz17_10 := blk_frozen BK312.out 10; have hfz17_11 := blk_frozen BK312.out 11))
       (try simp only [← hl13_1])
       go_roundg k1
       case measure => have := HK1.out; omega
       case rel => exact ⟨(x6_1), (wrap64 (x15_1 + 1)), ez, H', ⟨by have := HK1.out; omega⟩, ⟨by (try simp only [hl13_1]); (with_reducible repeat (first | apply Kd.R_alloc | apply Kd.R_drewN | apply Kd.R_drew)); exact Kd.R_mono (Kd.R_fa gb312 11 (Kd.R_fa gb312 10 (Kd.R_fa gb312 9 (Kd.R_fa gb312 8 (Kd.R_fa gb312 7 (Kd.R_fa gb312 6 (Kd.R_fa gb312 5 (Kd.R_fa gb312 4 (Kd.R_fa gb312 3 (Kd.R_fa gb312 2 (Kd.R_fa gb312 1 (Kd.R_fa gb312 0 (Kd.R_types HO_6.out BK312.out (by decide)) (.int .i64 ((rd_T32 t310 x15_1).f0))) (.int .i64 ((rd_T32 t310 x15_1).f1))) (.int .i64 ((rd_T32 t310 x15_1).f2))) (.int .i64 ((rd_T32 t310 x15_1).f3))) (.int .i64 ((rd_T32 t310 x15_1).f4))) (.int .i64 ((rd_T32 t310 x15_1).f5))) (.int .i64 ((rd_T32 t310 x15_1).f6))) (.int .i64 ((rd_T32 t310 x15_1).f7))) (.int .i64 ((rd_T32 t310 x15_1).f8))) (.int .i64 ((rd_T32 t310 x15_1).f9))) (.int .i64 ((rd_T32 t310 x15_1).f10))) (.slice ((rd_T32 t310 x15_1).f11).A ((rd_T32 t310 x15_1).f11).n ((rd_T32 t310 x15_1).f11).c)) (fun _ hk => hk.1)⟩, ⟨by (try simp only [hl13_1]); (with_reducible repeat (first | apply Kd.R_alloc | apply Kd.R_drewN | apply Kd.R_drew)); exact Kd.R_mono (Kd.R_fa gb312 11 (Kd.R_fa gb312 10 (Kd.R_fa gb312 9 (Kd.R_fa gb312 8 (Kd.R_fa gb312 7 (Kd.R_fa gb312 6 (Kd.R_fa gb312 5 (Kd.R_fa gb312 4 (Kd.R_fa gb312 3 (Kd.R_fa gb312 2 (Kd.R_fa gb312 1 (Kd.R_fa gb312 0 (Kd.R_mono HO_13.out (fun k_ hk => (⟨hk, hk.2⟩ : _ ∧ k_ ≠ gb312))) (.int .i64 ((rd_T32 t310 x15_1).f0))) (.int .i64 ((rd_T32 t310 x15_1).f1))) (.int .i64 ((rd_T32 t310 x15_1).f2))) (.int .i64 ((rd_T32 t310 x15_1).f3))) (.int .i64 ((rd_T32 t310 x15_1).f4))) (.int .i64 ((rd_T32 t310 x15_1).f5))) (.int .i64 ((rd_T32 t310 x15_1).f6))) (.int .i64 ((rd_T32 t310 x15_1).f7))) (.int .i64 ((rd_T32 t310 x15_1).f8))) (.int .i64 ((rd_T32 t310 x15_1).f9))) (.int .i64 ((rd_T32 t310 x15_1).f10))) (.slice ((rd_T32 t310 x15_1).f11).A ((rd_T32 t310 x15_1).f11).n ((rd_T32 t310 x15_1).f11).c)) (fun _ hk => hk.1.1)⟩, ⟨mBs HB.out⟩⟩
     ·rw [if_neg c10] at H
      exact absurd H (by simp)
    ·rw [if_neg c9] at H
     exact absurd H (by simp)
   ·rw [if_neg c8] at H
    have c8b0 : decide (x15_1 < (t307.length : Int)) = false := decide_eq_false c8
    clear c8
    replace H := Option.bind_eq_some_iff.mp H
    obtain ⟨t316, A180, H⟩ := H
    replace H : (some t316) = some r := H
    have A18 := Aside0.mk A180
    clear A180
    obtain rfl := Option.some.inj H
    obtain ⟨Ao19, co19, eo19⟩ := Kd.R_slice HO_6.out
    subst eo19
    (try simp only [hl13_1] at c8b0)
    go_wp2_with (first | ((with_reducible refine gate_callee (f := 37) rfl ?_); refine goesL_ (some 33) rfl rfl Try.func37 (by kernel_rfl) rfl #[.slice Ao19 x6_1.length co19] rfl mt ?_; (with_reducible refine (slices_Clip_int.calls (fun k_ => some k_ = (.slice Ao19 x6_1.length co19 : Value).ownBlock) _ _ x6_1 t316 _ ?side1 A18.out).mono ?_); (case side1 => exact Kd.R_V (Kd.R_tight rfl (Kd.R_apart' (HO_6.out) (Kd.R_typed HO_13.out) (by decide)))); rintro e w20 ⟨v317, rfl, ho0, hb⟩; refine ⟨_, rfl, ?_⟩; have n0_ := Aside0.mk (Kd.R_below (mR HO_6.out) hb); have n1_ := Aside0.mk (Kd.R_below (mR HO_13.out) hb); have n2_ := Aside0.mk (Kd.V_lower (Kd.V_mono (ok' := fun k_ => (w.heap.size ≤ k_) ∧ some k_ ≠ (.slice Ao6 t310.length co6 : Value).ownBlock) ho0 (fun k_ hk_ => ⟨Or.elim hk_ (fun hs_ => ((Kd.R_apart' (HO_6.out) (Kd.R_typed HO_13.out) (by decide)).1 k_ hs_.symm).1) (fun hn_ => (Nat.le_trans (below_size (mB HB.out)) hn_)), Or.elim hk_ (fun hs_ => ((Kd.R_apart' (HO_6.out) (Kd.R_typed HO_13.out) (by decide)).1 k_ hs_.symm).2) (fun hn_ => (by have h_ := (Kd.fresh' (Kd.R_lt (mR HO_13.out)) k_ hn_); first | exact h_ | (simp only [hl13_1]; exact h_) | (simp only [hl13_1] at h_ ⊢; exact h_)))⟩)) (below_size (mB HB.out))); have n3_ := Aside0.mk (below_step (mB HB.out) hb); clear HO_6; clear HO_13; clear HB; have HO_6 := n0_; have HO_13 := n1_; have HO318 := n2_; have HB := n3_; clear n0_ n1_ n2_ n3_; (try clear hb); (try clear hb2); (try clear hk); (try clear hi); (try clear ho0)))
    go_ret
    exact ⟨_, by first | rfl | (simp [errW_none, errW_some] <;> rfl) | (simp [*, errW_none, errW_some] <;> rfl), by (with_reducible repeat (first | apply Kd.V_alloc | apply Kd.V_drewN | apply Kd.V_drew)); exact Kd.V_mono HO318.out (fun _ hk => hk.1), by repeat (first | (with_reducible first | exact HB.out | apply below_alloc | apply pw_below_drewN | apply below_drew1) | exact HB.out)⟩

end Go.Proofs.Ytkhfgflcanmefaa.PAll
end
section
namespace Go.Proofs.Ytkhfgflcanmefaa.PAll
open Go.RowKit Go.Proofs.YtkhfgflcanmefaaW.PrintWords Go.Proofs.YtkhfgflcanmefaaW.PrintLast Go.Proofs.YtkhfgflcanmefaaW.PrintMore
attribute [local go_sem] max2_int min2_int max_two min_two max_three min_three max_four min_four   -- for this text's walks alone
set_option linter.unusedVariables false
set_option linter.unusedSimpArgs false

def prebendref01_Ints.l0 : Nat → List Int → List Int → Int → Option (Bool)
  | 0, _, _, _ => none
  | k + 1, x0, x1, x5 => if x5 < (x0.length : Int) then (if 0 ≤ x5 then (if x5 < (x1.length : Int) then (if (rd x0 x5) = (rd x1 x5) then (prebendref01_Ints.l0 k x0 x1 (wrap64 (x5 + 1))) else (some false)) else (none)) else (none)) else (some true)
def prebendref01_Ints.f (k : Nat) (l0 : List Int) (l1 : List Int) : Option (Bool) := if (l0.length : Int) = (l1.length : Int) then (prebendref01_Ints.l0 k l0 l1 0) else (some false)
theorem prebendref01_Ints.mono_l : ∀ k, (∀ y0 y1 y2, LeO (prebendref01_Ints.l0 k y0 y1 y2) (prebendref01_Ints.l0 (k + 1) y0 y1 y2))
  | 0 => fun _ _ _ r h => by simp [prebendref01_Ints.l0] at h
  | k + 1 => by
    have ih0 := prebendref01_Ints.mono_l k
    · intro y0 y1 y2
      unfold prebendref01_Ints.l0
      repeat' first
      | (with_reducible exact ih0 _ _ _)
      | (with_reducible exact LeO.refl _)
      | (with_reducible exact LeO.none _)
      | (with_reducible refine LeO.ite ?_ ?_)
      | (with_reducible refine LeO.bind ?_ (fun _ => ?_))
      | exact ih0 _ _ _
      | exact LeO.none _
      | refine LeO.ite ?_ ?_
      | refine LeO.bind ?_ (fun _ => ?_)
theorem prebendref01_Ints.mono : ∀ a0 a1 k, LeO (prebendref01_Ints.f k a0 a1) (prebendref01_Ints.f (k + 1) a0 a1) := by
  intro a0 a1 k
  have ih0 := prebendref01_Ints.mono_l k
  unfold prebendref01_Ints.f
  repeat' first
      | (with_reducible exact ih0 _ _ _)
      | (with_reducible exact LeO.refl _)
      | (with_reducible exact LeO.none _)
      | (with_reducible refine LeO.ite ?_ ?_)
      | (with_reducible refine LeO.bind ?_ (fun _ => ?_))
      | exact ih0 _ _ _
      | exact LeO.none _
      | refine LeO.ite ?_ ?_
      | refine LeO.bind ?_ (fun _ => ?_)
set_option maxHeartbeats 8000000 in
set_option maxRecDepth 100000 in
theorem prebendref01_Ints.calls (k : Nat) (A0 : Option Addr) (c0 : Nat) (l0 : List Int) (A1 : Option Addr) (c1 : Nat) (l1 : List Int) (r : Bool) (w : World) (hr0 : Kd.C (Kd.int .i64) w A0 l0.length l0) (hc0 : l0.length ≤ c0) (hr1 : Kd.C (Kd.int .i64) w A1 l1.length l1) (hc1 : l1.length ≤ c1) (h : prebendref01_Ints.f k l0 l1 = some r) :
    Calls Try.prog 13 #[.slice A0 l0.length c0, .slice A1 l1.length c1] w fun e w' => e = .returned (.bool r) ∧ Drawn0 w w' := by
  have HR0 := Aside0.mk hr0
  have HC0 := Aside0.mk hc0
  clear hr0 hc0
  have HR1 := Aside0.mk hr1
  have HC1 := Aside0.mk hc1
  clear hr1 hc1
  have H : (if (l0.length : Int) = (l1.length : Int) then (prebendref01_Ints.l0 k l0 l1 0) else (some false)) = some r := h
  clear h
  by_cases c3 : (l0.length : Int) = (l1.length : Int)
  · rw [if_pos c3] at H
    have c3b0 : ((l0.length : Int) == (l1.length : Int)) = true := beq_iff_eq.mpr c3
    have c3b1 : ((l0.length : Int) != (l1.length : Int)) = false := bne_eq_false_iff_eq.mpr c3
    have c3b2 : (l0.length == l1.length) = true := by first | simpa using c3 | (simp at c3 ⊢; omega)
    clear c3
    have H' := Aside0.mk H
    clear H
    go_enter Try.func13, Try.ntmps13
    go_wp2
    repeat (go_quiet (fail); try go_wp2)
    go_loopg [5] k (fun kq v5 w' => ∃ (x5_1 : Int), v5 = .int .i64 x5_1 ∧ Aside0 (prebendref01_Ints.l0 kq l0 l1 x5_1 = some r) ∧ Aside0 (kq ≤ k) ∧ Drawn0 w w')
    case atStart => exact ⟨(0), (by first | rfl | (simp; done) | (simp [*]; done)), H', ⟨Nat.le_refl _⟩, by repeat (first | exact Drawn0.refl _ | apply Drawn0.step)⟩
    case round =>
      clear H'
      try clear c1
      try clear p2
      try clear c3
      try clear c3b0
      try clear c3b1
      try clear c3b2
      obtain ⟨x5_1, rfl, HA, HK1, ⟨m1, rfl⟩⟩ := hrel
      cases gk with
      | zero => exact absurd HA.out (by simp [prebendref01_Ints.l0])
      | succ k1 =>
        have H := HA.out
        clear HA
        simp only [prebendref01_Ints.l0] at H
        by_cases c4 : x5_1 < (l0.length : Int)
        · rw [if_pos c4] at H
          have c4b0 : decide (x5_1 < (l0.length : Int)) = true := decide_eq_true c4
          clear c4
          by_cases c5 : 0 ≤ x5_1
          · rw [if_pos c5] at H
            have c5b0 : decide (0 ≤ x5_1) = true := decide_eq_true c5
            clear c5
            by_cases c6 : x5_1 < (l1.length : Int)
            · rw [if_pos c6] at H
              have c6b0 : decide (x5_1 < (l1.length : Int)) = true := decide_eq_true c6
              clear c6
              by_cases c7 : (rd l0 x5_1) = (rd l1 x5_1)
              · rw [if_pos c7] at H
                have c7b0 : ((rd l0 x5_1) == (rd l1 x5_1)) = true := beq_iff_eq.mpr c7
                have c7b1 : ((rd l0 x5_1) != (rd l1 x5_1)) = false := bne_eq_false_iff_eq.mpr c7
                clear c7
                have H' := Aside0.mk H
                clear H
                have p167 : 0 ≤ (x5_1 : Int) := of_decide_eq_true (by first | (with_reducible assumption) | assumption)
                have q167 : x5_1 < (l0.length : Int) := of_decide_eq_true (by first | (with_reducible assumption) | assumption)
                obtain ⟨ad167, e167, hx167_0⟩ := Kd.at_int HR0.out x5_1 p167 q167
                cases e167
                replace p167 := eq_true p167
                replace q167 := eq_true q167
                have p168 : 0 ≤ (x5_1 : Int) := of_decide_eq_true (by first | (with_reducible assumption) | assumption)
                have q168 : x5_1 < (l1.length : Int) := of_decide_eq_true (by first | (with_reducible assumption) | assumption)
                obtain ⟨ad168, e168, hx168_0⟩ := Kd.at_int HR1.out x5_1 p168 q168
                cases e168
                replace p168 := eq_true p168
                replace q168 := eq_true q168
                go_wp2
                repeat (go_quiet (fail); try go_wp2)
                go_roundg k1
                case measure => have := HK1.out; omega
                case rel => exact ⟨(wrap64 (x5_1 + 1)), (by first | rfl | (simp; done) | (simp [*]; done)), H', ⟨by have := HK1.out; omega⟩, by repeat (first | exact Drawn0.refl _ | apply Drawn0.step)⟩
              · rw [if_neg c7] at H
                have c7b0 : ((rd l0 x5_1) == (rd l1 x5_1)) = false := beq_eq_false_iff_ne.mpr c7
                have c7b1 : ((rd l0 x5_1) != (rd l1 x5_1)) = true := bne_iff_ne.mpr c7
                obtain rfl := Option.some.inj H
                have p167 : 0 ≤ (x5_1 : Int) := of_decide_eq_true (by first | (with_reducible assumption) | assumption)
                have q167 : x5_1 < (l0.length : Int) := of_decide_eq_true (by first | (with_reducible assumption) | assumption)
                obtain ⟨ad167, e167, hx167_0⟩ := Kd.at_int HR0.out x5_1 p167 q167
                cases e167
                replace p167 := eq_true p167
                replace q167 := eq_true q167
                have p168 : 0 ≤ (x5_1 : Int) := of_decide_eq_true (by first | (with_reducible assumption) | assumption)
                have q168 : x5_1 < (l1.length : Int) := of_decide_eq_true (by first | (with_reducible assumption) | assumption)
                obtain ⟨ad168, e168, hx168_0⟩ := Kd.at_int HR1.out x5_1 p168 q168
                cases e168
                replace p168 := eq_true p168
                replace q168 := eq_true q168
                go_wp2
                repeat (go_quiet (fail); try go_wp2)
                go_ret
                exact ⟨by first | rfl | (simp; done) | (simp [*]; done), by repeat (first | exact Drawn0.refl _ | apply Drawn0.step)⟩
            · rw [if_neg c6] at H
              exact absurd H (by simp)
          · rw [if_neg c5] at H
            exact absurd H (by simp)
        · rw [if_neg c4] at H
          have c4b0 : decide (x5_1 < (l0.length : Int)) = false := decide_eq_false c4
          clear c4
          obtain rfl := Option.some.inj H
          go_wp2
          repeat (go_quiet (fail); try go_wp2)
          go_ret
          exact ⟨by first | rfl | (simp; done) | (simp [*]; done), by repeat (first | exact Drawn0.refl _ | apply Drawn0.step)⟩
  · rw [if_neg c3] at H
    have c3b0 : ((l0.length : Int) == (l1.length : Int)) = false := beq_eq_false_iff_ne.mpr c3
    have c3b1 : ((l0.length : Int) != (l1.length : Int)) = true := bne_iff_ne.mpr c3
    have c3b2 : (l0.length == l1.length) = false := by first | simpa using c3 | (simp at c3 ⊢; omega)
    obtain rfl := Option.some.inj H
    go_enter Try.func13, Try.ntmps13
    go_wp2
    repeat (go_quiet (fail); try go_wp2)
    go_ret
    exact ⟨by first | rfl | (simp; done) | (simp [*]; done), by repeat (first | exact Drawn0.refl _ | apply Drawn0.step)⟩

end Go.Proofs.Ytkhfgflcanmefaa.PAll
end
section
namespace Go.Proofs.Ytkhfgflcanmefaa.PAll
open Go.RowKit Go.Proofs.YtkhfgflcanmefaaW.PrintWords Go.Proofs.YtkhfgflcanmefaaW.PrintLast Go.Proofs.YtkhfgflcanmefaaW.PrintMore
attribute [local go_sem] max2_int min2_int max_two min_two max_three min_three max_four min_four   -- for this text's walks alone
set_option linter.unusedVariables false
set_option linter.unusedSimpArgs false

class CapI where
  id : Int
structure CapIAt [CapI] (g : Nat) (w : World) : Prop where
  hg : w.cell? ⟨g, 0, none⟩ = some (.int .i64 CapI.id)
theorem CapIAt.of [CapI] {g : Nat} {w0 w : World} (h : CapIAt g w0) (hb : Below w0.heap.size w0 w) : CapIAt g w := ⟨(hb.cell (World.block_lt_of_cell? _ _ h.hg)).trans h.hg⟩
def job_Find_1.f [CapI] (a0_0 : Int) (a0_1 : Int) (a0_2 : Int) (a0_3 : Int) (a0_4 : Int) (a0_5 : Int) (a0_6 : Int) (a0_7 : Int) (a0_8 : Int) (a0_9 : Int) (a0_10 : Int) (a0_11 : SH) : Option (Bool) := some (a0_0 == CapI.id)
set_option maxRecDepth 100000 in
theorem job_Find_1.calls [CapI] (a0_0 : Int) (a0_1 : Int) (a0_2 : Int) (a0_3 : Int) (a0_4 : Int) (a0_5 : Int) (a0_6 : Int) (a0_7 : Int) (a0_8 : Int) (a0_9 : Int) (a0_10 : Int) (a0_11 : SH) (r : Bool) {g_ : Nat} (w : World) (hc : CapIAt g_ w) (h : job_Find_1.f a0_0 a0_1 a0_2 a0_3 a0_4 a0_5 a0_6 a0_7 a0_8 a0_9 a0_10 a0_11 = some r) :
    Calls Try.prog 40 #[.agg #[.int .i64 a0_0, .int .i64 a0_1, .int .i64 a0_2, .int .i64 a0_3, .int .i64 a0_4, .int .i64 a0_5, .int .i64 a0_6, .int .i64 a0_7, .int .i64 a0_8, .int .i64 a0_9, .int .i64 a0_10, .slice a0_11.A a0_11.n a0_11.c], .pointer (some ⟨g_, 0, none⟩)] w fun e w' => e = .returned (.bool r) ∧ Below w.heap.size w w' := by
  obtain rfl : (a0_0 == CapI.id) = r := by simpa [job_Find_1.f] using h
  have hb : Below w.heap.size w (w.alloc (.cells #[.int .i64 a0_0, .int .i64 a0_1, .int .i64 a0_2, .int .i64 a0_3, .int .i64 a0_4, .int .i64 a0_5, .int .i64 a0_6, .int .i64 a0_7, .int .i64 a0_8, .int .i64 a0_9, .int .i64 a0_10, .slice a0_11.A a0_11.n a0_11.c] 32 (0, 0))) := below_alloc (Below.refl _ _) _
  have h1 := (hc.of hb).hg
  have h2 : (w.alloc (.cells #[.int .i64 a0_0, .int .i64 a0_1, .int .i64 a0_2, .int .i64 a0_3, .int .i64 a0_4, .int .i64 a0_5, .int .i64 a0_6, .int .i64 a0_7, .int .i64 a0_8, .int .i64 a0_9, .int .i64 a0_10, .slice a0_11.A a0_11.n a0_11.c] 32 (0, 0))).cell? ⟨w.heap.size, 0, none⟩ = some (.int .i64 a0_0) := (blk_cell (heap_alloc_new w _) 0).trans rfl
  have HB := Aside0.mk hb
  clear hb hc h
  go_enter Try.func40, Try.ntmps40
  go_wp2
  go_ret
  exact ⟨rfl, HB.out⟩

end Go.Proofs.Ytkhfgflcanmefaa.PAll
end
section
namespace Go.Proofs.Ytkhfgflcanmefaa.PAll
open Go.RowKit Go.Proofs.YtkhfgflcanmefaaW.PrintWords Go.Proofs.YtkhfgflcanmefaaW.PrintLast Go.Proofs.YtkhfgflcanmefaaW.PrintMore
attribute [local go_sem] max2_int min2_int max_two min_two max_three min_three max_four min_four   -- for this text's walks alone
set_option linter.unusedVariables false
set_option linter.unusedSimpArgs false

def slices_IndexFunc_Job__job_Find_1.l0 [CapI] : Nat → List (S32) → Int → Int → Option (Int)
  | 0, _, _, _ => none
  | k + 1, x0, x7, x8 => if x8 < x7 then (if 0 ≤ x8 then (if x8 < (x0.length : Int) then ((job_Find_1.f ((rd_T32 x0 x8).f0) ((rd_T32 x0 x8).f1) ((rd_T32 x0 x8).f2) ((rd_T32 x0 x8).f3) ((rd_T32 x0 x8).f4) ((rd_T32 x0 x8).f5) ((rd_T32 x0 x8).f6) ((rd_T32 x0 x8).f7) ((rd_T32 x0 x8).f8) ((rd_T32 x0 x8).f9) ((rd_T32 x0 x8).f10) ((rd_T32 x0 x8).f11)).bind fun t201 => (if t201 = true then (some x8) else (slices_IndexFunc_Job__job_Find_1.l0 k x0 x7 (wrap64 (x8 + 1))))) else (none)) else (none)) else (some (-1))
def slices_IndexFunc_Job__job_Find_1.f [CapI] (k : Nat) (l0 : List (S32))  : Option (Int) := slices_IndexFunc_Job__job_Find_1.l0 k l0 (l0.length : Int) 0
theorem slices_IndexFunc_Job__job_Find_1.mono_l [CapI] : ∀ k, (∀ y0 y1 y2, LeO (slices_IndexFunc_Job__job_Find_1.l0 k y0 y1 y2) (slices_IndexFunc_Job__job_Find_1.l0 (k + 1) y0 y1 y2))
  | 0 => fun _ _ _ r h => by simp [slices_IndexFunc_Job__job_Find_1.l0] at h
  | k + 1 => by
    have ih0 := slices_IndexFunc_Job__job_Find_1.mono_l k
    · intro y0 y1 y2
      unfold slices_IndexFunc_Job__job_Find_1.l0
      repeat' first
      | (with_reducible exact ih0 _ _ _)
      | (with_reducible exact LeO.refl _)
      | (with_reducible exact LeO.none _)
      | (with_reducible refine LeO.ite ?_ ?_)
      | (with_reducible refine LeO.bind ?_ (fun _ => ?_))
      | exact ih0 _ _ _
      | exact LeO.none _
      | refine LeO.ite ?_ ?_
      | refine LeO.bind ?_ (fun _ => ?_)
theorem slices_IndexFunc_Job__job_Find_1.mono [CapI] : ∀ a0 k, LeO (slices_IndexFunc_Job__job_Find_1.f k a0) (slices_IndexFunc_Job__job_Find_1.f (k + 1) a0) := by
  intro a0 k
  have ih0 := slices_IndexFunc_Job__job_Find_1.mono_l k
  unfold slices_IndexFunc_Job__job_Find_1.f
  repeat' first
      | (with_reducible exact ih0 _ _ _)
      | (with_reducible exact LeO.refl _)
      | (with_reducible exact LeO.none _)
      | (with_reducible refine LeO.ite ?_ ?_)
      | (with_reducible refine LeO.bind ?_ (fun _ => ?_))
      | exact ih0 _ _ _
      | exact LeO.none _
      | refine LeO.ite ?_ ?_
      | refine LeO.bind ?_ (fun _ => ?_)
set_option maxHeartbeats 8000000 in
set_option maxRecDepth 100000 in
theorem slices_IndexFunc_Job__job_Find_1.calls [CapI] (k : Nat) (A0 : Option Addr) (c0 : Nat) (l0 : List (S32))  (r : Int) {g_ : Nat} (w : World) (hcap : CapIAt g_ w) (hr0 : Kd.C k32 w A0 l0.length l0) (hc0 : l0.length ≤ c0) (h : slices_IndexFunc_Job__job_Find_1.f k l0 = some r) :
    Calls Try.prog 39 #[.slice A0 l0.length c0, .func (.func 40) #[] #[.pointer (some ⟨g_, 0, none⟩)]] w fun e w' => e = .returned (.int .i64 r) ∧ Below w.heap.size w w' := by
  have hu32 := Try.underlying32
  have HR0 := Aside0.mk hr0
  have HC0 := Aside0.mk hc0
  clear hr0 hc0
  have HB := Aside0.mk (Below.refl w.heap.size w)
  have H : (slices_IndexFunc_Job__job_Find_1.l0 k l0 (l0.length : Int) 0) = some r := h
  clear h
  have H' := Aside0.mk H
  clear H
  go_enter Try.func39, Try.ntmps39
  go_wp2
  go_loopg [8] k (fun kq v8 w' => ∃ (x8_1 : Int), v8 = .int .i64 x8_1 ∧ Aside0 (slices_IndexFunc_Job__job_Find_1.l0 kq l0 (l0.length : Int) x8_1 = some r) ∧ Aside0 (kq ≤ k) ∧ Aside0 (Below w.heap.size w w'))
  case atStart => exact ⟨(0), (by first | rfl | (simp; done) | (simp [*]; done)), H', ⟨Nat.le_refl _⟩, ⟨by repeat (first | (with_reducible first | exact HB.out | apply below_alloc | apply pw_below_drewN | apply below_drew1) | exact HB.out)⟩⟩
  case round =>
    clear H'
    try clear p2
    obtain ⟨x8_1, rfl, HA, HK1, HB⟩ := hrel
    cases gk with
    | zero => exact absurd HA.out (by simp [slices_IndexFunc_Job__job_Find_1.l0])
    | succ k1 =>
      have H := HA.out
      clear HA
      simp only [slices_IndexFunc_Job__job_Find_1.l0] at H
      by_cases c3 : x8_1 < (l0.length : Int)
      · rw [if_pos c3] at H
        have c3b0 : decide (x8_1 < (l0.length : Int)) = true := decide_eq_true c3
        clear c3
        by_cases c4 : 0 ≤ x8_1
        · rw [if_pos c4] at H
          have c4b0 : decide (0 ≤ x8_1) = true := decide_eq_true c4
          clear c4
          by_cases c5 : x8_1 < (l0.length : Int)
          · rw [if_pos c5] at H
            have c5b0 : decide (x8_1 < (l0.length : Int)) = true := decide_eq_true c5
            clear c5
            replace H := Option.bind_eq_some_iff.mp H
            obtain ⟨t201, A60, H⟩ := H
            replace H : (if t201 = true then (some x8_1) else (slices_IndexFunc_Job__job_Find_1.l0 k1 l0 (l0.length : Int) (wrap64 (x8_1 + 1)))) = some r := H
            have A6 := Aside0.mk A60
            clear A60
            by_cases c7 : t201 = true
            · subst c7
              have H1 : (some x8_1) = some r := by rw [if_pos rfl] at H; exact H
              clear H
              have H := H1
              clear H1
              obtain rfl := Option.some.inj H
              have p200 : 0 ≤ (x8_1 : Int) := of_decide_eq_true (by first | (with_reducible assumption) | assumption)
              have q200 : x8_1 < (l0.length : Int) := of_decide_eq_true (by first | (with_reducible assumption) | assumption)
              obtain ⟨ad200, e200, hx200_0, hx200_1, hx200_2, hx200_3, hx200_4, hx200_5, hx200_6, hx200_7, hx200_8, hx200_9, hx200_10, hx200_11⟩ := at_T32 HR0.out x8_1 p200 q200
              cases e200
              replace hx200_0 := (HB.out.cell (World.block_lt_of_cell? w _ hx200_0)).trans hx200_0
              replace hx200_1 := (HB.out.cell (World.block_lt_of_cell? w _ hx200_1)).trans hx200_1
              replace hx200_2 := (HB.out.cell (World.block_lt_of_cell? w _ hx200_2)).trans hx200_2
              replace hx200_3 := (HB.out.cell (World.block_lt_of_cell? w _ hx200_3)).trans hx200_3
              replace hx200_4 := (HB.out.cell (World.block_lt_of_cell? w _ hx200_4)).trans hx200_4
              replace hx200_5 := (HB.out.cell (World.block_lt_of_cell? w _ hx200_5)).trans hx200_5
              replace hx200_6 := (HB.out.cell (World.block_lt_of_cell? w _ hx200_6)).trans hx200_6
              replace hx200_7 := (HB.out.cell (World.block_lt_of_cell? w _ hx200_7)).trans hx200_7
              replace hx200_8 := (HB.out.cell (World.block_lt_of_cell? w _ hx200_8)).trans hx200_8
              replace hx200_9 := (HB.out.cell (World.block_lt_of_cell? w _ hx200_9)).trans hx200_9
              replace hx200_10 := (HB.out.cell (World.block_lt_of_cell? w _ hx200_10)).trans hx200_10
              replace hx200_11 := (HB.out.cell (World.block_lt_of_cell? w _ hx200_11)).trans hx200_11
              replace p200 := eq_true p200
              replace q200 := eq_true q200
              go_wp2_with (first | (go_at_call 40; (with_reducible refine (job_Find_1.calls ((rd_T32 l0 x8_1).f0) ((rd_T32 l0 x8_1).f1) ((rd_T32 l0 x8_1).f2) ((rd_T32 l0 x8_1).f3) ((rd_T32 l0 x8_1).f4) ((rd_T32 l0 x8_1).f5) ((rd_T32 l0 x8_1).f6) ((rd_T32 l0 x8_1).f7) ((rd_T32 l0 x8_1).f8) ((rd_T32 l0 x8_1).f9) ((rd_T32 l0 x8_1).f10) ((rd_T32 l0 x8_1).f11) true _ (CapIAt.of hcap (by repeat (first | (with_reducible first | exact HB.out | apply below_alloc | apply pw_below_drewN | apply below_drew1) | exact HB.out))) A6.out).mono ?_); rintro e w8 ⟨rfl, hb⟩; have n0_ := Aside0.mk (below_step (by repeat (first | (with_reducible first | exact HB.out | apply below_alloc | apply pw_below_drewN | apply below_drew1) | exact HB.out)) hb); clear HB; have HB := n0_; clear n0_; (try clear hb); (try clear hb2); (try clear hk); (try clear hi)))
              go_ret
              exact ⟨by first | rfl | (simp [errW_none, errW_some] <;> rfl) | (simp [*, errW_none, errW_some] <;> rfl), by repeat (first | (with_reducible first | exact HB.out | apply below_alloc | apply pw_below_drewN | apply below_drew1) | exact HB.out)⟩
            · replace c7 := Bool.eq_false_iff.mpr c7
              subst c7
              have H1 : (slices_IndexFunc_Job__job_Find_1.l0 k1 l0 (l0.length : Int) (wrap64 (x8_1 + 1))) = some r := by rw [if_neg (show ¬ (false = true) by decide)] at H; exact H
              clear H
              have H := H1
              clear H1
              have H' := Aside0.mk H
              clear H
              have p200 : 0 ≤ (x8_1 : Int) := of_decide_eq_true (by first | (with_reducible assumption) | assumption)
              have q200 : x8_1 < (l0.length : Int) := of_decide_eq_true (by first | (with_reducible assumption) | assumption)
              obtain ⟨ad200, e200, hx200_0, hx200_1, hx200_2, hx200_3, hx200_4, hx200_5, hx200_6, hx200_7, hx200_8, hx200_9, hx200_10, hx200_11⟩ := at_T32 HR0.out x8_1 p200 q200
              cases e200
              replace hx200_0 := (HB.out.cell (World.block_lt_of_cell? w _ hx200_0)).trans hx200_0
              replace hx200_1 := (HB.out.cell (World.block_lt_of_cell? w _ hx200_1)).trans hx200_1
              replace hx200_2 := (HB.out.cell (World.block_lt_of_cell? w _ hx200_2)).trans hx200_2
              replace hx200_3 := (HB.out.cell (World.block_lt_of_cell? w _ hx200_3)).trans hx200_3
              replace hx200_4 := (HB.out.cell (World.block_lt_of_cell? w _ hx200_4)).trans hx200_4
              replace hx200_5 := (HB.out.cell (World.block_lt_of_cell? w _ hx200_5)).trans hx200_5
              replace hx200_6 := (HB.out.cell (World.block_lt_of_cell? w _ hx200_6)).trans hx200_6
              replace hx200_7 := (HB.out.cell (World.block_lt_of_cell? w _ hx200_7)).trans hx200_7
              replace hx200_8 := (HB.out.cell (World.block_lt_of_cell? w _ hx200_8)).trans hx200_8
              replace hx200_9 := (HB.out.cell (World.block_lt_of_cell? w _ hx200_9)).trans hx200_9
              replace hx200_10 := (HB.out.cell (World.block_lt_of_cell? w _ hx200_10)).trans hx200_10
              replace hx200_11 := (HB.out.cell (World.block_lt_of_cell? w _ hx200_11)).trans hx200_11
              replace p200 := eq_true p200
              replace q200 := eq_true q200
              go_wp2_with (first | (go_at_call 40; (with_reducible refine (job_Find_1.calls ((rd_T32 l0 x8_1).f0) ((rd_T32 l0 x8_1).f1) ((rd_T32 l0 x8_1).f2) ((rd_T32 l0 x8_1).f3) ((rd_T32 l0 x8_1).f4) ((rd_T32 l0 x8_1).f5) ((rd_T32 l0 x8_1).f6) ((rd_T32 l0 x8_1).f7) ((rd_T32 l0 x8_1).f8) ((rd_T32 l0 x8_1).f9) ((rd_T32 l0 x8_1).f10) ((rd_T32 l0 x8_1).f11) false _ (CapIAt.of hcap (by repeat (first | (with_reducible first | exact HB.out | apply below_alloc | apply pw_below_drewN | apply below_drew1) | exact HB.out))) A6.out).mono ?_); rintro e w9 ⟨rfl, hb⟩; have n0_ := Aside0.mk (below_step (by repeat (first | (with_reducible first | exact HB.out | apply below_alloc | apply pw_below_drewN | apply below_drew1) | exact HB.out)) hb); clear HB; have HB := n0_; clear n0_; (try clear hb); (try clear hb2); (try clear hk); (try clear hi)))
              go_roundg k1
              case measure => have := HK1.out; omega
              case rel => exact ⟨(wrap64 (x8_1 + 1)), (by first | rfl | (simp; done) | (simp [*]; done)), H', ⟨by have := HK1.out; omega⟩, ⟨by repeat (first | (with_reducible first | exact HB.out | apply below_alloc | apply pw_below_drewN | apply below_drew1) | exact HB.out)⟩⟩
          · rw [if_neg c5] at H
            exact absurd H (by simp)
        · rw [if_neg c4] at H
          exact absurd H (by simp)
      · rw [if_neg c3] at H
        have c3b0 : decide (x8_1 < (l0.length : Int)) = false := decide_eq_false c3
        clear c3
        obtain rfl := Option.some.inj H
        go_wp2
        go_ret
        exact ⟨by first | rfl | (simp [errW_none, errW_some] <;> rfl) | (simp [*, errW_none, errW_some] <;> rfl), by repeat (first | (with_reducible first | exact HB.out | apply below_alloc | apply pw_below_drewN | apply below_drew1) | exact HB.out)⟩

end Go.Proofs.Ytkhfgflcanmefaa.PAll
end
section
namespace Go.Proofs.Ytkhfgflcanmefaa.PAll
open Go.RowKit Go.Proofs.YtkhfgflcanmefaaW.PrintWords Go.Proofs.YtkhfgflcanmefaaW.PrintLast Go.Proofs.YtkhfgflcanmefaaW.PrintMore
attribute [local go_sem] max2_int min2_int max_two min_two max_three min_three max_four min_four   -- for this text's walks alone
set_option linter.unusedVariables false
set_option linter.unusedSimpArgs false

def job_Find.f (k : Nat) (l0 : List (S32)) (a1 : Int) : Option (Int) := (@slices_IndexFunc_Job__job_Find_1.f ⟨a1⟩ k l0).bind fun t202 => (some t202)
theorem job_Find.mono : ∀ a0 a1 k, LeO (job_Find.f k a0 a1) (job_Find.f (k + 1) a0 a1) := by
  intro a0 a1 k
  unfold job_Find.f
  repeat' first
      | (with_reducible exact @slices_IndexFunc_Job__job_Find_1.mono ⟨a1⟩ _ _)
      | (with_reducible exact LeO.refl _)
      | (with_reducible exact LeO.none _)
      | (with_reducible refine LeO.ite ?_ ?_)
      | (with_reducible refine LeO.bind ?_ (fun _ => ?_))
      | exact @slices_IndexFunc_Job__job_Find_1.mono ⟨a1⟩ _ _
      | exact LeO.none _
      | refine LeO.ite ?_ ?_
      | refine LeO.bind ?_ (fun _ => ?_)
set_option maxHeartbeats 8000000 in
set_option maxRecDepth 100000 in
theorem job_Find.calls (k : Nat) (A0 : Option Addr) (c0 : Nat) (l0 : List (S32)) (a1 : Int) (r : Int) (w : World) (hr0 : Kd.C k32 w A0 l0.length l0) (hc0 : l0.length ≤ c0) (h : job_Find.f k l0 a1 = some r) :
    Calls Try.prog 17 #[.slice A0 l0.length c0, .int .i64 a1] w fun e w' => e = .returned (.int .i64 r) ∧ Below w.heap.size w w' := by
  have HR0 := Aside0.mk hr0
  have HC0 := Aside0.mk hc0
  clear hr0 hc0
  have HB := Aside0.mk (Below.refl w.heap.size w)
  have H : ((@slices_IndexFunc_Job__job_Find_1.f ⟨a1⟩ k l0).bind fun t202 => (some t202)) = some r := h
  clear h
  replace H := Option.bind_eq_some_iff.mp H
  obtain ⟨t202, A30, H⟩ := H
  replace H : (some t202) = some r := H
  have A3 := Aside0.mk A30
  clear A30
  obtain rfl := Option.some.inj H
  go_enter Try.func17, Try.ntmps17
  letI : CapI := ⟨a1⟩
  have HCAP : Aside0 (CapIAt w.heap.size (w.alloc (.cells #[.int .i64 a1] 3 (0, 0)))) := ⟨⟨(blk_cell (heap_alloc_new w _) 0).trans rfl⟩⟩
  go_wp2_with (first | ((with_reducible refine gate_callee (f := 39) rfl ?_); refine goesL_ (some 7) rfl rfl Try.func39 (by kernel_rfl) rfl #[.slice A0 l0.length c0, .func (.func 40) #[] #[.pointer (some ⟨w.heap.size, 0, none⟩)]] rfl (by (try simp only [List.map_toArray, List.map_cons, List.map_nil]); first | done | rfl | (simp only [List.length_drop, List.length_take]; rfl)) ?_; (with_reducible refine (slices_IndexFunc_Job__job_Find_1.calls k _ _ l0  t202 _ HCAP.out ?side1 ?side2 A3.out).mono ?_); (case side1 => repeat (first | exact HR0.out | (with_reducible refine Kd.C_alloc ?_ _) | (with_reducible refine Kd.C_drewN ?_ _) | (with_reducible refine Kd.C_drew ?_))); (case side2 => exact HC0.out); rintro e w4 ⟨rfl, hb⟩; refine ⟨_, rfl, ?_⟩; have n0_ := Aside0.mk (below_step (by repeat (first | (with_reducible first | exact HB.out | apply below_alloc | apply pw_below_drewN | apply below_drew1) | exact HB.out)) hb); clear HB; have HB := n0_; clear n0_; (try clear hb); (try clear hb2); (try clear hk); (try clear hi)))
  go_ret
  exact ⟨by first | rfl | (simp [errW_none, errW_some] <;> rfl) | (simp [*, errW_none, errW_some] <;> rfl), by repeat (first | (with_reducible first | exact HB.out | apply below_alloc | apply pw_below_drewN | apply below_drew1) | exact HB.out)⟩

end Go.Proofs.Ytkhfgflcanmefaa.PAll
end
section
namespace Go.Proofs.Ytkhfgflcanmefaa.PAll
open Go.RowKit Go.Proofs.YtkhfgflcanmefaaW.PrintWords Go.Proofs.YtkhfgflcanmefaaW.PrintLast Go.Proofs.YtkhfgflcanmefaaW.PrintMore
attribute [local go_sem] max2_int min2_int max_two min_two max_three min_three max_four min_four   -- for this text's walks alone
set_option linter.unusedVariables false
set_option linter.unusedSimpArgs false

def job_Mask.l0 : Nat → Int → List (S32) → Int → Int → Option (Int)
  | 0, _, _, _, _ => none
  | k + 1, x3, x7, x8, x9 => if x9 < x8 then (if 0 ≤ x9 then (if x9 < (x7.length : Int) then (job_Mask.l0 k (Go.bits .or .i64 x3 ((rd_T32 x7 x9).f9)) x7 x8 (wrap64 (x9 + 1))) else (none)) else (none)) else (some x3)
def job_Mask.f (k : Nat) (l0 : List (S32)) : Option (Int) := (job_running.f k l0).bind fun t230 => (job_Mask.l0 k 0 t230 (t230.length : Int) 0)
theorem job_Mask.mono_l : ∀ k, (∀ y0 y1 y2 y3, LeO (job_Mask.l0 k y0 y1 y2 y3) (job_Mask.l0 (k + 1) y0 y1 y2 y3))
  | 0 => fun _ _ _ _ r h => by simp [job_Mask.l0] at h
  | k + 1 => by
    have ih0 := job_Mask.mono_l k
    · intro y0 y1 y2 y3
      unfold job_Mask.l0
      repeat' first
      | (with_reducible exact ih0 _ _ _ _)
      | (with_reducible exact job_running.mono _ _)
      | (with_reducible exact LeO.refl _)
      | (with_reducible exact LeO.none _)
      | (with_reducible refine LeO.ite ?_ ?_)
      | (with_reducible refine LeO.bind ?_ (fun _ => ?_))
      | exact ih0 _ _ _ _
      | exact job_running.mono _ _
      | exact LeO.none _
      | refine LeO.ite ?_ ?_
      | refine LeO.bind ?_ (fun _ => ?_)
theorem job_Mask.mono : ∀ a0 k, LeO (job_Mask.f k a0) (job_Mask.f (k + 1) a0) := by
  intro a0 k
  have ih0 := job_Mask.mono_l k
  unfold job_Mask.f
  repeat' first
      | (with_reducible exact ih0 _ _ _ _)
      | (with_reducible exact job_running.mono _ _)
      | (with_reducible exact LeO.refl _)
      | (with_reducible exact LeO.none _)
      | (with_reducible refine LeO.ite ?_ ?_)
      | (with_reducible refine LeO.bind ?_ (fun _ => ?_))
      | exact ih0 _ _ _ _
      | exact job_running.mono _ _
      | exact LeO.none _
      | refine LeO.ite ?_ ?_
      | refine LeO.bind ?_ (fun _ => ?_)
set_option maxHeartbeats 8000000 in
set_option maxRecDepth 100000 in
theorem job_Mask.calls (k : Nat) (A0 : Option Addr) (c0 : Nat) (l0 : List (S32)) (r : Int) (w : World) (hr0 : Kd.C k32 w A0 l0.length l0) (hc0 : l0.length ≤ c0) (h : job_Mask.f k l0 = some r) :
    Calls Try.prog 19 #[.slice A0 l0.length c0] w fun e w' => e = .returned (.int .i64 r) ∧ Below w.heap.size w w' := by
  have hu32 := Try.underlying32
  have HR0 := Aside0.mk hr0
  have HC0 := Aside0.mk hc0
  clear hr0 hc0
  have HB := Aside0.mk (Below.refl w.heap.size w)
  have H : ((job_running.f k l0).bind fun t230 => (job_Mask.l0 k 0 t230 (t230.length : Int) 0)) = some r := h
  clear h
  replace H := Option.bind_eq_some_iff.mp H
  obtain ⟨t230, A20, H⟩ := H
  replace H : (job_Mask.l0 k 0 t230 (t230.length : Int) 0) = some r := H
  have A2 := Aside0.mk A20
  clear A20
  have H' := Aside0.mk H
  clear H
  go_enter Try.func19, Try.ntmps19
  go_wp2_with (first | ((with_reducible refine gate_callee (f := 41) rfl ?_); refine goesL_ (some 7) rfl rfl Try.func41 (by kernel_rfl) rfl #[.slice A0 l0.length c0] rfl (by (try simp only [List.map_toArray, List.map_cons, List.map_nil]); first | done | rfl | (simp only [List.length_drop, List.length_take]; rfl)) ?_; (with_reducible refine (job_running.calls k _ _ l0 t230 _ ?side1 ?side2 A2.out).mono ?_); (case side1 => repeat (first | exact HR0.out | (with_reducible refine Kd.C_alloc ?_ _) | (with_reducible refine Kd.C_drewN ?_ _) | (with_reducible refine Kd.C_drew ?_))); (case side2 => exact HC0.out); rintro e w3 ⟨v231, rfl, ho0, hb⟩; refine ⟨_, rfl, ?_⟩; have n0_ := Aside0.mk (Kd.R_lower ho0 (below_size (by repeat (first | (with_reducible first | exact HB.out | apply below_alloc | apply pw_below_drewN | apply below_drew1) | exact HB.out)))); have n1_ := Aside0.mk (below_step (by repeat (first | (with_reducible first | exact HB.out | apply below_alloc | apply pw_below_drewN | apply below_drew1) | exact HB.out)) hb); clear HB; have HO232 := n0_; have HB := n1_; clear n0_ n1_; (try clear hb); (try clear hb2); (try clear hk); (try clear hi); (try clear ho0); obtain ⟨Ao4, co4, eo4⟩ := Kd.R_slice HO232.out; subst eo4))
  go_loopg [3, 9] k (fun kq v3 v9 w' => ∃ (x3_1 : Int) (x9_1 : Int), v3 = .int .i64 x3_1 ∧ v9 = .int .i64 x9_1 ∧ Aside0 (job_Mask.l0 kq x3_1 t230 (t230.length : Int) x9_1 = some r) ∧ Aside0 (kq ≤ k) ∧ Aside0 (Kd.R k32 32 w' w.heap.size (fun _ => True) (.slice Ao4 t230.length co4) t230) ∧ Aside0 (Below w.heap.size w w'))
  case atStart => exact ⟨(0), (0), (by first | rfl | (simp; done) | (simp [*]; done)), (by first | rfl | (simp; done) | (simp [*]; done)), H', ⟨Nat.le_refl _⟩, ⟨by (with_reducible repeat (first | apply Kd.R_alloc | apply Kd.R_drewN | apply Kd.R_drew)); exact HO232.out⟩, ⟨by repeat (first | (with_reducible first | exact HB.out | apply below_alloc | apply pw_below_drewN | apply below_drew1) | exact HB.out)⟩⟩
  case round =>
    clear H'
    try clear c1
    try clear p2
    try clear c4
    obtain ⟨x3_1, x9_1, rfl, rfl, HA, HK1, HO_7, HB⟩ := hrel
    cases gk with
    | zero => exact absurd HA.out (by simp [job_Mask.l0])
    | succ k1 =>
      have H := HA.out
      clear HA
      simp only [job_Mask.l0] at H
      by_cases c5 : x9_1 < (t230.length : Int)
      · rw [if_pos c5] at H
        have c5b0 : decide (x9_1 < (t230.length : Int)) = true := decide_eq_true c5
        clear c5
        by_cases c6 : 0 ≤ x9_1
        · rw [if_pos c6] at H
          have c6b0 : decide (0 ≤ x9_1) = true := decide_eq_true c6
          clear c6
          by_cases c7 : x9_1 < (t230.length : Int)
          · rw [if_pos c7] at H
            have c7b0 : decide (x9_1 < (t230.length : Int)) = true := decide_eq_true c7
            clear c7
            have H' := Aside0.mk H
            clear H
            have p233 : 0 ≤ (x9_1 : Int) := of_decide_eq_true (by first | (with_reducible assumption) | assumption)
            have q233 : x9_1 < (t230.length : Int) := of_decide_eq_true (by first | (with_reducible assumption) | assumption)
            obtain ⟨ad233, e233, hx233_0, hx233_1, hx233_2, hx233_3, hx233_4, hx233_5, hx233_6, hx233_7, hx233_8, hx233_9, hx233_10, hx233_11⟩ := at_T32 (Kd.R_reads' HO_7.out).2.2 x9_1 p233 q233
            cases e233
            replace p233 := eq_true p233
            replace q233 := eq_true q233
            go_wp2_with (first | ((with_reducible refine gate_dst (N := 5) rfl ?_); refine box_event ?hg (N := 5) ?hd (cs := #[.int .i64 0, .int .i64 0, .int .i64 0, .int .i64 0, .int .i64 0, .int .i64 0, .int .i64 0, .int .i64 0, .int .i64 0, .int .i64 0, .int .i64 0, .slice none 0 0]) (t := 32) ?hr ?_; (case hd => rfl); (case hg => rfl); (case hr => first | (go_simp; done) | (go_simp; rfl)); intro gb234 hg w8 hbox hb; have n0_ := Aside0.mk (Kd.R_below (Kd.R_elderB (by (with_reducible repeat (first | apply Kd.R_alloc | apply Kd.R_drewN | apply Kd.R_drew)); exact HO_7.out) gb234 (Nat.le_of_eq hg.symm)) hb); have n1_ := Aside0.mk (below_step (by repeat (first | (with_reducible first | exact HB.out | apply below_alloc | apply pw_below_drewN | apply below_drew1) | exact HB.out)) hb); have n2_ := Aside0.mk (hbox); have n3_ := Aside0.mk ((by rw [hg]; exact (below_size (by repeat (first | (with_reducible first | exact HB.out | apply below_alloc | apply pw_below_drewN | apply below_drew1) | exact HB.out))) : w.heap.size ≤ gb234)); have n4_ := Aside0.mk ((by rw [hg]; exact (below_size (by repeat (first | (with_reducible first | exact HB.out | apply below_alloc | apply pw_below_drewN | apply below_drew1) | exact HB.out))) : w.heap.size ≤ gb234)); clear HO_7; clear HB; have HO_7 := n0_; have HB := n1_; have BK234 := n2_; have GW234 := n3_; have GE234 := n4_; clear n0_ n1_ n2_ n3_ n4_; clear hb hbox hg; have hcz9_0 : w8.cell? ⟨gb234, 0, none⟩ = some (.int .i64 0) := (blk_cell BK234.out 0).trans rfl; have hcz9_1 : w8.cell? ⟨gb234, 1, none⟩ = some (.int .i64 0) := (blk_cell BK234.out 1).trans rfl; have hcz9_2 : w8.cell? ⟨gb234, 2, none⟩ = some (.int .i64 0) := (blk_cell BK234.out 2).trans rfl; have hcz9_3 : w8.cell? ⟨gb234, 3, none⟩ = some (.int .i64 0) := (blk_cell BK234.out 3).trans rfl; have hcz9_4 : w8.cell? ⟨gb234, 4, none⟩ = some (.int .i64 0) := (blk_cell BK234.out 4).trans rfl; have hcz9_5 : w8.cell? ⟨gb234, 5, none⟩ = some (.int .i64 0) := (blk_cell BK234.out 5).trans rfl; have hcz9_6 : w8.cell? ⟨gb234, 6, none⟩ = some (.int .i64 0) := (blk_cell BK234.out 6).trans rfl; have hcz9_7 : w8.cell? ⟨gb234, 7, none⟩ = some (.int .i64 0) := (blk_cell BK234.out 7).trans rfl; have hcz9_8 : w8.cell? ⟨gb234, 8, none⟩ = some (.int .i64 0) := (blk_cell BK234.out 8).trans rfl; have hcz9_9 : w8.cell? ⟨gb234, 9, none⟩ = some (.int .i64 0) := (blk_cell BK234.out 9).trans rfl; have hcz9_10 : w8.cell? ⟨gb234, 10, none⟩ = some (.int .i64 0) := (blk_cell BK234.out 10).trans rfl; have hcz9_11 : w8.cell? ⟨gb234, 11, none⟩ = some (.slice none 0 0) := (blk_cell BK234.out 11).trans rfl; have hfz9_0 := blk_frozen BK234.out 0; have hfz9_1 := blk_frozen BK234.out 1; have hfz9_2 := blk_frozen BK234.out 2; have hfz9_3 := blk_frozen BK234.out 3; have hfz9_4 := blk_frozen BK234.out 4; have hfz9_5 := blk_frozen BK234.out 5; have hfz9_6 := blk_frozen BK234.out 6; have hfz9_7 := blk_frozen BK234.out 7; have hfz9_8 := blk_frozen BK234.out 8; have hfz9_9 := blk_frozen BK234.out 9; have hfz9_10 := blk_frozen BK234.out 10; have hfz9_11 := blk_frozen BK234.out 11))
            go_roundg k1
            case measure => have := HK1.out; omega
            case rel => exact ⟨(Go.bits .or .i64 x3_1 ((rd_T32 t230 x9_1).f9)), (wrap64 (x9_1 + 1)), (by first | rfl | (simp; done) | (simp [*]; done)), (by first | rfl | (simp; done) | (simp [*]; done)), H', ⟨by have := HK1.out; omega⟩, ⟨by (with_reducible repeat (first | apply Kd.R_alloc | apply Kd.R_drewN | apply Kd.R_drew)); exact Kd.R_mono (Kd.R_fa gb234 11 (Kd.R_fa gb234 10 (Kd.R_fa gb234 9 (Kd.R_fa gb234 8 (Kd.R_fa gb234 7 (Kd.R_fa gb234 6 (Kd.R_fa gb234 5 (Kd.R_fa gb234 4 (Kd.R_fa gb234 3 (Kd.R_fa gb234 2 (Kd.R_fa gb234 1 (Kd.R_fa gb234 0 (Kd.R_mono HO_7.out (fun k_ hk => (⟨hk, hk.2⟩ : _ ∧ k_ ≠ gb234))) (.int .i64 ((rd_T32 t230 x9_1).f0))) (.int .i64 ((rd_T32 t230 x9_1).f1))) (.int .i64 ((rd_T32 t230 x9_1).f2))) (.int .i64 ((rd_T32 t230 x9_1).f3))) (.int .i64 ((rd_T32 t230 x9_1).f4))) (.int .i64 ((rd_T32 t230 x9_1).f5))) (.int .i64 ((rd_T32 t230 x9_1).f6))) (.int .i64 ((rd_T32 t230 x9_1).f7))) (.int .i64 ((rd_T32 t230 x9_1).f8))) (.int .i64 ((rd_T32 t230 x9_1).f9))) (.int .i64 ((rd_T32 t230 x9_1).f10))) (.slice ((rd_T32 t230 x9_1).f11).A ((rd_T32 t230 x9_1).f11).n ((rd_T32 t230 x9_1).f11).c)) (fun _ hk => trivial)⟩, ⟨by repeat (first | (with_reducible first | exact HB.out | apply below_alloc | apply pw_below_drewN | apply below_drew1 | refine below_set ?_ GE234.out) | exact HB.out)⟩⟩
          · rw [if_neg c7] at H
            exact absurd H (by simp)
        · rw [if_neg c6] at H
          exact absurd H (by simp)
      · rw [if_neg c5] at H
        have c5b0 : decide (x9_1 < (t230.length : Int)) = false := decide_eq_false c5
        clear c5
        obtain rfl := Option.some.inj H
        go_wp2
        go_ret
        exact ⟨by first | rfl | (simp [errW_none, errW_some] <;> rfl) | (simp [*, errW_none, errW_some] <;> rfl), by repeat (first | (with_reducible first | exact HB.out | apply below_alloc | apply pw_below_drewN | apply below_drew1) | exact HB.out)⟩

end Go.Proofs.Ytkhfgflcanmefaa.PAll
end
section
namespace Go.Proofs.Ytkhfgflcanmefaa.PAll
open Go.RowKit Go.Proofs.YtkhfgflcanmefaaW.PrintWords Go.Proofs.YtkhfgflcanmefaaW.PrintLast Go.Proofs.YtkhfgflcanmefaaW.PrintMore
attribute [local go_sem] max2_int min2_int max_two min_two max_three min_three max_four min_four   -- for this text's walks alone
set_option linter.unusedVariables false
set_option linter.unusedSimpArgs false

theorem eqA59 (d : Nat) (w : World) (x0 y0 : Int) (x1 y1 : Int) :
    (Op.equalIn (d + 2) 59 (.agg #[.int .i64 x0, .int .i64 x1]) (.agg #[.int .i64 y0, .int .i64 y1])).run Try.prog w = .ok (x0 == y0 && (x1 == y1)) w := by
  refine eqA_of Try.underlying59 (by kernel_rfl) ?_
  refine eqf_cons (by rfl) (by go_simp; rfl) (by go_simp; rfl) (by go_simp) ?_
  exact eqf_last (by rfl) (by go_simp; rfl) (by go_simp; rfl) (by go_simp)
end Go.Proofs.Ytkhfgflcanmefaa.PAll
end
section
namespace Go.Proofs.Ytkhfgflcanmefaa.PAll
open Go.RowKit Go.Proofs.YtkhfgflcanmefaaW.PrintWords Go.Proofs.YtkhfgflcanmefaaW.PrintLast Go.Proofs.YtkhfgflcanmefaaW.PrintMore
attribute [local go_sem] max2_int min2_int max_two min_two max_three min_three max_four min_four   -- for this text's walks alone
set_option linter.unusedVariables false
set_option linter.unusedSimpArgs false

attribute [local go_sem high] eqA59
def prebendref19_SameBusy.l0 : Nat → List (S59) → List (S59) → Int → Option (Bool)
  | 0, _, _, _ => none
  | k + 1, x0, x1, x5 => if x5 < (x0.length : Int) then (if 0 ≤ x5 then (if x5 < (x1.length : Int) then (if (!(((rd_T59 x0 x5).f0) == ((rd_T59 x1 x5).f0)) || (!(((rd_T59 x0 x5).f1) == ((rd_T59 x1 x5).f1)))) = true then (some false) else (prebendref19_SameBusy.l0 k x0 x1 (wrap64 (x5 + 1)))) else (none)) else (none)) else (some true)
def prebendref19_SameBusy.f (k : Nat) (l0 : List (S59)) (l1 : List (S59)) : Option (Bool) := if (l0.length : Int) = (l1.length : Int) then (prebendref19_SameBusy.l0 k l0 l1 0) else (some false)
theorem prebendref19_SameBusy.mono_l : ∀ k, (∀ y0 y1 y2, LeO (prebendref19_SameBusy.l0 k y0 y1 y2) (prebendref19_SameBusy.l0 (k + 1) y0 y1 y2))
  | 0 => fun _ _ _ r h => by simp [prebendref19_SameBusy.l0] at h
  | k + 1 => by
    have ih0 := prebendref19_SameBusy.mono_l k
    · intro y0 y1 y2
      unfold prebendref19_SameBusy.l0
      repeat' first
      | (with_reducible exact ih0 _ _ _)
      | (with_reducible exact LeO.refl _)
      | (with_reducible exact LeO.none _)
      | (with_reducible refine LeO.ite ?_ ?_)
      | (with_reducible refine LeO.bind ?_ (fun _ => ?_))
      | exact ih0 _ _ _
      | exact LeO.none _
      | refine LeO.ite ?_ ?_
      | refine LeO.bind ?_ (fun _ => ?_)
theorem prebendref19_SameBusy.mono : ∀ a0 a1 k, LeO (prebendref19_SameBusy.f k a0 a1) (prebendref19_SameBusy.f (k + 1) a0 a1) := by
  intro a0 a1 k
  have ih0 := prebendref19_SameBusy.mono_l k
  unfold prebendref19_SameBusy.f
  repeat' first
      | (with_reducible exact ih0 _ _ _)
      | (with_reducible exact LeO.refl _)
      | (with_reducible exact LeO.none _)
      | (with_reducible refine LeO.ite ?_ ?_)
      | (with_reducible refine LeO.bind ?_ (fun _ => ?_))
      | exact ih0 _ _ _
      | exact LeO.none _
      | refine LeO.ite ?_ ?_
      | refine LeO.bind ?_ (fun _ => ?_)
set_option maxHeartbeats 8000000 in
set_option maxRecDepth 100000 in
theorem prebendref19_SameBusy.calls (k : Nat) (A0 : Option Addr) (c0 : Nat) (l0 : List (S59)) (A1 : Option Addr) (c1 : Nat) (l1 : List (S59)) (r : Bool) (w : World) (hr0 : Kd.C k59 w A0 l0.length l0) (hc0 : l0.length ≤ c0) (hr1 : Kd.C k59 w A1 l1.length l1) (hc1 : l1.length ≤ c1) (h : prebendref19_SameBusy.f k l0 l1 = some r) :
    Calls Try.prog 21 #[.slice A0 l0.length c0, .slice A1 l1.length c1] w fun e w' => e = .returned (.bool r) ∧ Drawn0 w w' := by
  have hu59 := Try.underlying59
  have HR0 := Aside0.mk hr0
  have HC0 := Aside0.mk hc0
  clear hr0 hc0
  have HR1 := Aside0.mk hr1
  have HC1 := Aside0.mk hc1
  clear hr1 hc1
  have H : (if (l0.length : Int) = (l1.length : Int) then (prebendref19_SameBusy.l0 k l0 l1 0) else (some false)) = some r := h
  clear h
  by_cases c3 : (l0.length : Int) = (l1.length : Int)
  · rw [if_pos c3] at H
    have c3b0 : ((l0.length : Int) == (l1.length : Int)) = true := beq_iff_eq.mpr c3
    have c3b1 : ((l0.length : Int) != (l1.length : Int)) = false := bne_eq_false_iff_eq.mpr c3
    have c3b2 : (l0.length == l1.length) = true := by first | simpa using c3 | (simp at c3 ⊢; omega)
    clear c3
    have H' := Aside0.mk H
    clear H
    go_enter Try.func21, Try.ntmps21
    go_wp2
    repeat (go_quiet (fail); try go_wp2)
    go_loopg [5] k (fun kq v5 w' => ∃ (x5_1 : Int), v5 = .int .i64 x5_1 ∧ Aside0 (prebendref19_SameBusy.l0 kq l0 l1 x5_1 = some r) ∧ Aside0 (kq ≤ k) ∧ Drawn0 w w')
    case atStart => exact ⟨(0), (by first | rfl | (simp; done) | (simp [*]; done)), H', ⟨Nat.le_refl _⟩, by repeat (first | exact Drawn0.refl _ | apply Drawn0.step)⟩
    case round =>
      clear H'
      try clear c1
      try clear c2
      try clear p2
      try clear c3
      try clear c3b0
      try clear c3b1
      try clear c3b2
      obtain ⟨x5_1, rfl, HA, HK1, ⟨m1, rfl⟩⟩ := hrel
      cases gk with
      | zero => exact absurd HA.out (by simp [prebendref19_SameBusy.l0])
      | succ k1 =>
        have H := HA.out
        clear HA
        simp only [prebendref19_SameBusy.l0] at H
        by_cases c4 : x5_1 < (l0.length : Int)
        · rw [if_pos c4] at H
          have c4b0 : decide (x5_1 < (l0.length : Int)) = true := decide_eq_true c4
          clear c4
          by_cases c5 : 0 ≤ x5_1
          · rw [if_pos c5] at H
            have c5b0 : decide (0 ≤ x5_1) = true := decide_eq_true c5
            clear c5
            by_cases c6 : x5_1 < (l1.length : Int)
            · rw [if_pos c6] at H
              have c6b0 : decide (x5_1 < (l1.length : Int)) = true := decide_eq_true c6
              clear c6
              by_cases c7 : (!(((rd_T59 l0 x5_1).f0) == ((rd_T59 l1 x5_1).f0)) || (!(((rd_T59 l0 x5_1).f1) == ((rd_T59 l1 x5_1).f1)))) = true
              · rw [if_pos c7] at H
                have c7b0 : (!(((rd_T59 l0 x5_1).f0) == ((rd_T59 l1 x5_1).f0)) || (!(((rd_T59 l0 x5_1).f1) == ((rd_T59 l1 x5_1).f1)))) = true := c7
                clear c7
                obtain rfl := Option.some.inj H
                have p235 : 0 ≤ (x5_1 : Int) := of_decide_eq_true (by first | (with_reducible assumption) | assumption)
                have q235 : x5_1 < (l0.length : Int) := of_decide_eq_true (by first | (with_reducible assumption) | assumption)
                obtain ⟨ad235, e235, hx235_0, hx235_1⟩ := at_T59 HR0.out x5_1 p235 q235
                cases e235
                replace p235 := eq_true p235
                replace q235 := eq_true q235
                have p236 : 0 ≤ (x5_1 : Int) := of_decide_eq_true (by first | (with_reducible assumption) | assumption)
                have q236 : x5_1 < (l1.length : Int) := of_decide_eq_true (by first | (with_reducible assumption) | assumption)
                obtain ⟨ad236, e236, hx236_0, hx236_1⟩ := at_T59 HR1.out x5_1 p236 q236
                cases e236
                replace p236 := eq_true p236
                replace q236 := eq_true q236
                go_wp2
                repeat (go_quiet (fail); try go_wp2)
                go_ret
                exact ⟨by first | rfl | (simp; done) | (simp [*]; done), by repeat (first | exact Drawn0.refl _ | apply Drawn0.step)⟩
              · rw [if_neg c7] at H
                have c7b0 : (!(((rd_T59 l0 x5_1).f0) == ((rd_T59 l1 x5_1).f0)) || (!(((rd_T59 l0 x5_1).f1) == ((rd_T59 l1 x5_1).f1)))) = false := by simpa using c7
                clear c7
                have H' := Aside0.mk H
                clear H
                have p235 : 0 ≤ (x5_1 : Int) := of_decide_eq_true (by first | (with_reducible assumption) | assumption)
                have q235 : x5_1 < (l0.length : Int) := of_decide_eq_true (by first | (with_reducible assumption) | assumption)
                obtain ⟨ad235, e235, hx235_0, hx235_1⟩ := at_T59 HR0.out x5_1 p235 q235
                cases e235
                replace p235 := eq_true p235
                replace q235 := eq_true q235
                have p236 : 0 ≤ (x5_1 : Int) := of_decide_eq_true (by first | (with_reducible assumption) | assumption)
                have q236 : x5_1 < (l1.length : Int) := of_decide_eq_true (by first | (with_reducible assumption) | assumption)
                obtain ⟨ad236, e236, hx236_0, hx236_1⟩ := at_T59 HR1.out x5_1 p236 q236
                cases e236
                replace p236 := eq_true p236
                replace q236 := eq_true q236
                go_wp2
                repeat (go_quiet (fail); try go_wp2)
                go_roundg k1
                case measure => have := HK1.out; omega
                case rel => exact ⟨(wrap64 (x5_1 + 1)), (by first | rfl | (simp; done) | (simp [*]; done)), H', ⟨by have := HK1.out; omega⟩, by repeat (first | exact Drawn0.refl _ | apply Drawn0.step)⟩
            · rw [if_neg c6] at H
              exact absurd H (by simp)
          · rw [if_neg c5] at H
            exact absurd H (by simp)
        · rw [if_neg c4] at H
          have c4b0 : decide (x5_1 < (l0.length : Int)) = false := decide_eq_false c4
          clear c4
          obtain rfl := Option.some.inj H
          go_wp2
          repeat (go_quiet (fail); try go_wp2)
          go_ret
          exact ⟨by first | rfl | (simp; done) | (simp [*]; done), by repeat (first | exact Drawn0.refl _ | apply Drawn0.step)⟩
  · rw [if_neg c3] at H
    have c3b0 : ((l0.length : Int) == (l1.length : Int)) = false := beq_eq_false_iff_ne.mpr c3
    have c3b1 : ((l0.length : Int) != (l1.length : Int)) = true := bne_iff_ne.mpr c3
    have c3b2 : (l0.length == l1.length) = false := by first | simpa using c3 | (simp at c3 ⊢; omega)
    obtain rfl := Option.some.inj H
    go_enter Try.func21, Try.ntmps21
    go_wp2
    repeat (go_quiet (fail); try go_wp2)
    go_ret
    exact ⟨by first | rfl | (simp; done) | (simp [*]; done), by repeat (first | exact Drawn0.refl _ | apply Drawn0.step)⟩

end Go.Proofs.Ytkhfgflcanmefaa.PAll
end
section
namespace Go.Proofs.Ytkhfgflcanmefaa.PAll
open Go.RowKit Go.Proofs.YtkhfgflcanmefaaW.PrintWords Go.Proofs.YtkhfgflcanmefaaW.PrintLast Go.Proofs.YtkhfgflcanmefaaW.PrintMore
attribute [local go_sem] max2_int min2_int max_two min_two max_three min_three max_four min_four   -- for this text's walks alone
set_option linter.unusedVariables false
set_option linter.unusedSimpArgs false

def slices_Clip_Busy.f (l0 : List (S59)) : Option (List (S59)) := some l0
theorem slices_Clip_Busy.cut (A : Option Addr) (n c : Nat) (hm : n ≤ c) : ∀ W : World, (Instr.slice 40 (.slice A n c) none (some (.int .i64 (n : Int))) (some (.int .i64 (n : Int)))).run Try.prog W = .ok (.slice A n n) W := by
  intro W
  obtain ⟨i0, hi, _, hsz, _⟩ := info_parts info59
  have ha : (A.map fun x => x.add 0) = A := by cases A <;> simp [Addr.add]
  have hn : (n : Int) ≤ (c : Int) := by omega
  simp [Instr.slice, run_underlying Try.underlying40, Instr.sliceBounds, run_sliceBound, sizeOf, typeInfo, hi, Result.andThen, ha, hn]
set_option maxHeartbeats 8000000 in
set_option maxRecDepth 100000 in
theorem slices_Clip_Busy.calls (P0_ : Nat → Prop) (A0 : Option Addr) (c0 : Nat) (l0 : List (S59)) (r : List (S59)) (w : World) (hs0 : Kd.V k59 59 w w.heap.size (fun k_ => P0_ k_) (.slice A0 l0.length c0) l0) (h : slices_Clip_Busy.f l0 = some r) :
    Calls Try.prog 42 #[.slice A0 l0.length c0] w fun e w' => ∃ v0_ : Value, e = .returned (v0_) ∧ Kd.V k59 59 w' w.heap.size (fun k_ => (P0_ k_ ∨ w.heap.size ≤ k_)) v0_ r ∧ Below w.heap.size w w' := by
  obtain rfl := Option.some.inj h
  have HO0 := Aside0.mk (show Kd.V k59 59 w w.heap.size (fun k_ => (P0_ k_ ∨ w.heap.size ≤ k_)) (.slice A0 l0.length l0.length) l0 from Kd.V_mk (Nat.le_refl _) (Kd.F_mono (Kd.V_F hs0) (fun k_ hk => .inl hk)))
  have hc := (Kd.V_reads' hs0).2.1
  have hcut := slices_Clip_Busy.cut A0 l0.length c0 hc
  clear hs0 hc
  go_enter Try.func42, Try.ntmps42
  go_wp2
  go_ret
  exact ⟨_, rfl, HO0.out, Below.refl _ _⟩
end Go.Proofs.Ytkhfgflcanmefaa.PAll
end
section
namespace Go.Proofs.Ytkhfgflcanmefaa.PAll
open Go.RowKit Go.Proofs.YtkhfgflcanmefaaW.PrintWords Go.Proofs.YtkhfgflcanmefaaW.PrintLast Go.Proofs.YtkhfgflcanmefaaW.PrintMore
attribute [local go_sem] max2_int min2_int max_two min_two max_three min_three max_four min_four   -- for this text's walks alone
set_option linter.unusedVariables false
set_option linter.unusedSimpArgs false

def job_Busy.l0 : Nat → List (S59) → List (S32) → Int → Int → Option ((List (S59)))
 | 0, _, _, _, _ => none
 | k + 1, x3, x7, x8, x9 => if x9 < x8 then (if 0 ≤ x9 then (if x9 < (x7.length : Int) then (if x3.length < 8796093022208 then (job_Busy.l0 k (x3 ++ [(⟨wrap64 (((rd_T32 x7 x9).f8) + ((rd_T32 x7 x9).f3)), (rd_T32 x7 x9).f2⟩ : S59)]) x7 x8 (wrap64 (x9 + 1))) else (none)) else (none)) else (none)) else ((slices_Clip_Busy.f x3).bind fun t245 => (some t245))
def job_Busy.f (k : Nat) (l0 : List (S32)) : Option ((List (S59))) := (job_running.f k l0).bind fun t237 => (job_Busy.l0 k ([] : List (S59)) t237 (t237.length : Int) 0)
theorem job_Busy.mono_l : ∀ k, (∀ y0 y1 y2 y3, LeO (job_Busy.l0 k y0 y1 y2 y3) (job_Busy.l0 (k + 1) y0 y1 y2 y3))
 | 0 => fun _ _ _ _ r h => by simp [job_Busy.l0] at h
 | k + 1 => by
  have ih0 := job_Busy.mono_l k
  ·intro y0 y1 y2 y3
   unfold job_Busy.l0
   repeat' first
   | (with_reducible exact ih0 _ _ _ _)
   | (with_reducible exact job_running.mono _ _)
   | (with_reducible exact LeO.refl _)
   | (with_reducible exact LeO.none _)
   | (with_reducible refine LeO.ite ?_ ?_)
   | (with_reducible refine LeO.bind ?_ (fun _ => ?_))
   | exact ih0 _ _ _ _
   | exact job_running.mono _ _
   | exact LeO.none _
   | refine LeO.ite ?_ ?_
   | refine LeO.bind ?_ (fun _ => ?_)
theorem job_Busy.mono : ∀ a0 k, LeO (job_Busy.f k a0) (job_Busy.f (k + 1) a0) := by
 intro a0 k
 have ih0 := job_Busy.mono_l k
 unfold job_Busy.f
 repeat' first
   | (with_reducible exact ih0 _ _ _ _)
   | (with_reducible exact job_running.mono _ _)
   | (with_reducible exact LeO.refl _)
   | (with_reducible exact LeO.none _)
   | (with_reducible refine LeO.ite ?_ ?_)
   | (with_reducible refine LeO.bind ?_ (fun _ => ?_))
   | exact ih0 _ _ _ _
   | exact job_running.mono _ _
   | exact LeO.none _
   | refine LeO.ite ?_ ?_
   | refine LeO.bind ?_ (fun _ => ?_)
set_option maxHeartbeats 8000000 in
set_option maxRecDepth 100000 in
theorem job_Busy.calls (k : Nat) (A0 : Option Addr) (c0 : Nat) (l0 : List (S32)) (r : List (S59)) (w : World) (hr0 : Kd.C k32 w A0 l0.length l0) (hc0 : l0.length ≤ c0) (h : job_Busy.f k l0 = some r) :
  Calls Try.prog 22 #[.slice A0 l0.length c0] w fun e w' => ∃ v0_ : Value, e = .returned (v0_) ∧ Kd.V k59 59 w' w.heap.size (fun k_ => (w.heap.size ≤ k_)) v0_ r ∧ Below w.heap.size w w' := by
 have hu32 := Try.underlying32
 have hu59 := Try.underlying59
 have HR0 := Aside0.mk hr0
 have HC0 := Aside0.mk hc0
 clear hr0; clear hc0
 have HB := Aside0.mk (Below.refl w.heap.size w)
 have H : ((job_running.f k l0).bind fun t237 => (job_Busy.l0 k ([] : List (S59)) t237 (t237.length : Int) 0)) = some r := h
 clear h
 replace H := Option.bind_eq_some_iff.mp H
 obtain ⟨t237, A20, H⟩ := H
 replace H : (job_Busy.l0 k ([] : List (S59)) t237 (t237.length : Int) 0) = some r := H
 have A2 := Aside0.mk A20
 clear A20
 have H' := Aside0.mk H
 clear H
 go_enter Try.func22, Try.ntmps22
 go_wp2_with (first | ((with_reducible refine gate_callee (f := 41) rfl ?_); refine goesL_ (some 7) rfl rfl Try.func41 (by kernel_rfl) rfl #[.slice A0 l0.length c0] rfl mt ?_; (with_reducible refine (job_running.calls k _ _ l0 t237 _ ?side1 ?side2 A2.out).mono ?_); (case side1 => exact mC HR0.out); (case side2 => exact HC0.out); rintro e w3 ⟨v238, rfl, ho0, hb⟩; refine ⟨_, rfl, ?_⟩; have n0_ := Aside0.mk (Kd.R_lower (Kd.R_newM (M := fun k_ => (w.heap.size ≤ k_)) ho0 (below_size (mB HB.out)) (fun k_ h_ => h_)) (below_size (mB HB.out))); have n1_ := Aside0.mk (below_step (mB HB.out) hb); clear HB; have HO239 := n0_; have HB := n1_; clear n0_ n1_; (try clear hb); (try clear hb2); (try clear hk); (try clear hi); (try clear ho0); obtain ⟨Ao4, co4, eo4⟩ := Kd.R_slice HO239.out; subst eo4))
 go_loopg [3, 9] k (fun kq v3 v9 w' => ∃ (x3_1 : List (S59)) (x9_1 : Int), v9 = .int .i64 x9_1 ∧ Aside0 (job_Busy.l0 kq x3_1 t237 (t237.length : Int) x9_1 = some r) ∧ Aside0 (kq ≤ k) ∧ Aside0 (Kd.R k59 59 w' w.heap.size (fun k_ => (w.heap.size ≤ k_)) v3 x3_1) ∧ Aside0 (Kd.R k32 32 w' w.heap.size (fun k_ => (w.heap.size ≤ k_)) (.slice Ao4 t237.length co4) t237) ∧ Aside0 (Below w.heap.size w w'))
 case atStart => exact ⟨(([] : List (S59))), (0), ez, H', ⟨Nat.le_refl _⟩, ⟨by first | exact Kd.R_nil _ _ _ _ _ | exact Kd.N_nil _ _ _ _ _ | exact Kd.V_nil _ _ _ _ _ | exact Kd.Q_nil _ _ _ _ _ | exact Kd.S_nil _ _ _ _ _⟩, ⟨by (with_reducible repeat (first | apply Kd.R_alloc | apply Kd.R_drewN | apply Kd.R_drew)); exact Kd.R_mono HO239.out (fun _ hk => hk.1)⟩, ⟨mB HB.out⟩⟩
 case round =>
  clear H'
  (try clear c2); (try clear p2); (try clear c4)
  obtain ⟨x3_1, x9_1, rfl, HA, HK1, HO_3, HO_7, HB⟩ := hrel
  cases gk with
  | zero => exact absurd HA.out (by simp [job_Busy.l0])
  | succ k1 =>
   have H := HA.out
   clear HA
   simp only [job_Busy.l0] at H
   by_cases c5 : x9_1 < (t237.length : Int)
   ·rw [if_pos c5] at H
    have c5b0 : decide (x9_1 < (t237.length : Int)) = true := decide_eq_true c5
    clear c5
    by_cases c6 : 0 ≤ x9_1
    ·rw [if_pos c6] at H
     have c6b0 : decide (0 ≤ x9_1) = true := decide_eq_true c6
     clear c6
     by_cases c7 : x9_1 < (t237.length : Int)
     ·rw [if_pos c7] at H
      have c7b0 : decide (x9_1 < (t237.length : Int)) = true := decide_eq_true c7
      clear c7
      by_cases c8 : x3_1.length < 8796093022208
      ·rw [if_pos c8] at H
       have LMc8 := Aside0.mk c8
       clear c8
       obtain ⟨y242, hy242⟩ : ∃ y_ : List (S59), y_ = (x3_1 ++ [(⟨wrap64 (((rd_T32 t237 x9_1).f8) + ((rd_T32 t237 x9_1).f3)), (rd_T32 t237 x9_1).f2⟩ : S59)]) := ⟨_, rfl⟩
       replace H : (job_Busy.l0 k1 y242 t237 (t237.length : Int) (wrap64 (x9_1 + 1))) = some r := mH hy242 H
       have Ny242 := Aside0.mk hy242
       clear hy242
       have H' := Aside0.mk H
       clear H
       have p240 : 0 ≤ (x9_1 : Int) := oda
       have q240 : x9_1 < (t237.length : Int) := oda
       obtain ⟨ad240, e240, hx240_0, hx240_1, hx240_2, hx240_3, hx240_4, hx240_5, hx240_6, hx240_7, hx240_8, hx240_9, hx240_10, hx240_11⟩ := at_T32 (Kd.R_reads' HO_7.out).2.2 x9_1 p240 q240
       cases e240
       replace p240 := eq_true p240
       replace q240 := eq_true q240
       go_wp2_with (first | ((with_reducible refine gate_dst (N := 5) rfl ?_); refine box_event ?hg (N := 5) ?hd (cs := #[.int .i64 0, .int .i64 0, .int .i64 0, .int .i64 0, .int .i64 0, .int .i64 0, .int .i64 0, .int .i64 0, .int .i64 0, .int .i64 0, .int .i64 0, .slice none 0 0]) (t := 32) ?hr ?_; (case hd => rfl); (case hg => rfl); (case hr => first | (go_simp; done) | (go_simp; rfl)); intro gb241 hg w9 hbox hb; have n0_ := Aside0.mk (Kd.R_below (mR HO_3.out) hb); have n1_ := Aside0.mk (Kd.R_below (Kd.R_elderB (mR HO_7.out) gb241 (Nat.le_of_eq hg.symm)) hb); have n2_ := Aside0.mk (below_step (mB HB.out) hb); have n3_ := Aside0.mk (hbox); have n4_ := Aside0.mk ((by rw [hg]; exact (below_size (mB HB.out)) : w.heap.size ≤ gb241)); have n5_ := Aside0.mk ((by rw [hg]; exact (below_size (mB HB.out)) : w.heap.size ≤ gb241)); clear HO_3; clear HO_7; clear HB; have HO_3 := n0_; have HO_7 := n1_; have HB := n2_; have BK241 := n3_; have GW241 := n4_; have GE241 := n5_; clear n0_ n1_ n2_ n3_ n4_ n5_; clear hb hbox hg; have hcz10_0 : w9.cell? ⟨gb241, 0, none⟩ = some (.int .i64 0) := (blk_cell BK241.out 0).trans rfl; have hcz10_1 : w9.cell? ⟨gb241, 1, none⟩ = some (.int .i64 0) := (blk_cell BK241.out 1).trans rfl; have hcz10_2 : w9.cell? ⟨gb241, 2, none⟩ = some (.int .i64 0) := (blk_cell BK241.out 2).trans rfl; have hcz10_3 : w9.cell? ⟨gb241, 3, none⟩ = some (.int .i64 0) := (blk_cell BK241.out 3).trans rfl; have hcz10_4 : w9.cell? ⟨gb241, 4, none⟩ = some (.int .i64 0) := (blk_cell BK241.out 4).trans rfl; have hcz10_5 : w9.cell? ⟨gb241, 5, none⟩ = some (.int .i64 0) := (blk_cell BK241.out 5).trans rfl; have hcz10_6 : w9.cell? ⟨gb241, 6, none⟩ = some (.int .i64 0) := (blk_cell BK241.out 6).trans rfl; have hcz10_7 : w9.cell? ⟨gb241, 7, none⟩ = some (.int .i64 0) := (blk_cell BK241.out 7).trans rfl; have hcz10_8 : w9.cell? ⟨gb241, 8, none⟩ = some (.int .i64 0) := (blk_cell BK241.out 8).trans rfl; have hcz10_9 : w9.cell? ⟨gb241, 9, none⟩ = some (.int .i64 0) := (blk_cell BK241.out 9).trans rfl; have hcz10_10 : w9.cell? ⟨gb241, 10, none⟩ = some (.int .i64 0) := (blk_cell BK241.out 10).trans rfl; have hcz10_11 : w9.cell? ⟨gb241, 11, none⟩ = some (.slice none 0 0) := (blk_cell BK241.out 11).trans rfl; have hfz10_0 := blk_frozen BK241.out 0; have hfz10_1 := blk_frozen BK241.out 1; have hfz10_2 := blk_frozen BK241.out 2; have hfz10_3 := blk_frozen BK241.out 3; have hfz10_4 := blk_frozen BK241.out 4; have hfz10_5 := blk_frozen BK241.out 5; have hfz10_6 := blk_frozen BK241.out 6; have hfz10_7 := blk_frozen BK241.out 7; have hfz10_8 := blk_frozen BK241.out 8; have hfz10_9 := blk_frozen BK241.out 9; have hfz10_10 := blk_frozen BK241.out 10; have hfz10_11 := blk_frozen BK241.out 11) | ((with_reducible refine gate_builtin (b := .append) (xs := #[.tmp 13, .tmp 22]) rfl ?_); at_builtin; refine Kd.R_append k59 (w0 := w) w.heap.size rfl (.tmp 13) (.tmp 22) 40 59 (.agg #[(.int .i64 0), (.int .i64 0)]) 16 rfl Try.underlying40 info59 rfl (by decide) (by omega) u3 x3_1 (⟨wrap64 (((rd_T32 t237 x9_1).f8) + ((rd_T32 t237 x9_1).f3)), (rd_T32 t237 x9_1).f2⟩ : S59) [.int .i64 (wrap64 (((rd_T32 t237 x9_1).f8) + ((rd_T32 t237 x9_1).f3))), .int .i64 ((rd_T32 t237 x9_1).f2)] (fun k_ => (w.heap.size ≤ k_)) (fun _ => False) rfl (by first | (go_simp; done) | (go_simp; rfl)) ?aP (fun _ hk => hk.elim) ?aF ?aO ?aB ?aS ?aL ?_; (case aP => exact k59_mkM _ _ _ (⟨wrap64 (((rd_T32 t237 x9_1).f8) + ((rd_T32 t237 x9_1).f3)), (rd_T32 t237 x9_1).f2⟩ : S59)); (case aB => exact (mBs HB.out)); (case aF => exact (fun k_ hk => (Nat.le_trans (below_size (mBs HB.out)) hk))); (case aO => exact (by (with_reducible repeat (first | apply Kd.R_alloc | apply Kd.R_drewN | apply Kd.R_drew)); exact Kd.R_mono (Kd.R_fa gb241 11 (Kd.R_fa gb241 10 (Kd.R_fa gb241 9 (Kd.R_fa gb241 8 (Kd.R_fa gb241 7 (Kd.R_fa gb241 6 (Kd.R_fa gb241 5 (Kd.R_fa gb241 4 (Kd.R_fa gb241 3 (Kd.R_fa gb241 2 (Kd.R_fa gb241 1 (Kd.R_fa gb241 0 (Kd.R_types HO_3.out BK241.out (by decide)) (.int .i64 ((rd_T32 t237 x9_1).f0))) (.int .i64 ((rd_T32 t237 x9_1).f1))) (.int .i64 ((rd_T32 t237 x9_1).f2))) (.int .i64 ((rd_T32 t237 x9_1).f3))) (.int .i64 ((rd_T32 t237 x9_1).f4))) (.int .i64 ((rd_T32 t237 x9_1).f5))) (.int .i64 ((rd_T32 t237 x9_1).f6))) (.int .i64 ((rd_T32 t237 x9_1).f7))) (.int .i64 ((rd_T32 t237 x9_1).f8))) (.int .i64 ((rd_T32 t237 x9_1).f9))) (.int .i64 ((rd_T32 t237 x9_1).f10))) (.slice ((rd_T32 t237 x9_1).f11).A ((rd_T32 t237 x9_1).f11).n ((rd_T32 t237 x9_1).f11).c)) (fun _ hk => hk.1))); (case aS => exact (below_size (mBs HB.out))); (case aL => have := LMc8.out; omega); intro v243 w11 ho hb hg hat; rw [← Ny242.out] at ho; have n0_ := Aside0.mk (Kd.R_over' (by (with_reducible repeat (first | apply Kd.R_alloc | apply Kd.R_drewN | apply Kd.R_drew)); exact (Kd.R_mono (Kd.R_fa gb241 11 (Kd.R_fa gb241 10 (Kd.R_fa gb241 9 (Kd.R_fa gb241 8 (Kd.R_fa gb241 7 (Kd.R_fa gb241 6 (Kd.R_fa gb241 5 (Kd.R_fa gb241 4 (Kd.R_fa gb241 3 (Kd.R_fa gb241 2 (Kd.R_fa gb241 1 (Kd.R_fa gb241 0 (Kd.R_mono HO_7.out (fun k_ hk => (⟨hk, hk.2⟩ : _ ∧ k_ ≠ gb241))) (.int .i64 ((rd_T32 t237 x9_1).f0))) (.int .i64 ((rd_T32 t237 x9_1).f1))) (.int .i64 ((rd_T32 t237 x9_1).f2))) (.int .i64 ((rd_T32 t237 x9_1).f3))) (.int .i64 ((rd_T32 t237 x9_1).f4))) (.int .i64 ((rd_T32 t237 x9_1).f5))) (.int .i64 ((rd_T32 t237 x9_1).f6))) (.int .i64 ((rd_T32 t237 x9_1).f7))) (.int .i64 ((rd_T32 t237 x9_1).f8))) (.int .i64 ((rd_T32 t237 x9_1).f9))) (.int .i64 ((rd_T32 t237 x9_1).f10))) (.slice ((rd_T32 t237 x9_1).f11).A ((rd_T32 t237 x9_1).f11).n ((rd_T32 t237 x9_1).f11).c)) (fun _ h_ => h_.1))) (Kd.R_typed (by (with_reducible repeat (first | apply Kd.R_alloc | apply Kd.R_drewN | apply Kd.R_drew)); exact (Kd.R_mono (Kd.R_fa gb241 11 (Kd.R_fa gb241 10 (Kd.R_fa gb241 9 (Kd.R_fa gb241 8 (Kd.R_fa gb241 7 (Kd.R_fa gb241 6 (Kd.R_fa gb241 5 (Kd.R_fa gb241 4 (Kd.R_fa gb241 3 (Kd.R_fa gb241 2 (Kd.R_fa gb241 1 (Kd.R_fa gb241 0 (Kd.R_types HO_3.out BK241.out (by decide)) (.int .i64 ((rd_T32 t237 x9_1).f0))) (.int .i64 ((rd_T32 t237 x9_1).f1))) (.int .i64 ((rd_T32 t237 x9_1).f2))) (.int .i64 ((rd_T32 t237 x9_1).f3))) (.int .i64 ((rd_T32 t237 x9_1).f4))) (.int .i64 ((rd_T32 t237 x9_1).f5))) (.int .i64 ((rd_T32 t237 x9_1).f6))) (.int .i64 ((rd_T32 t237 x9_1).f7))) (.int .i64 ((rd_T32 t237 x9_1).f8))) (.int .i64 ((rd_T32 t237 x9_1).f9))) (.int .i64 ((rd_T32 t237 x9_1).f10))) (.slice ((rd_T32 t237 x9_1).f11).A ((rd_T32 t237 x9_1).f11).n ((rd_T32 t237 x9_1).f11).c)) (fun _ h_ => h_.1)))) (by decide) hg); have n1_ := Aside0.mk (blk_grown (g := gb241) (o := .cells #[.int .i64 ((rd_T32 t237 x9_1).f0), .int .i64 ((rd_T32 t237 x9_1).f1), .int .i64 ((rd_T32 t237 x9_1).f2), .int .i64 ((rd_T32 t237 x9_1).f3), .int .i64 ((rd_T32 t237 x9_1).f4), .int .i64 ((rd_T32 t237 x9_1).f5), .int .i64 ((rd_T32 t237 x9_1).f6), .int .i64 ((rd_T32 t237 x9_1).f7), .int .i64 ((rd_T32 t237 x9_1).f8), .int .i64 ((rd_T32 t237 x9_1).f9), .int .i64 ((rd_T32 t237 x9_1).f10), .slice ((rd_T32 t237 x9_1).f11).A ((rd_T32 t237 x9_1).f11).n ((rd_T32 t237 x9_1).f11).c] 32 (0, 0)) (by (with_reducible repeat first | apply blk_drewN | apply blk_drew | apply blk_alloc); refine blk_put (cs := #[.int .i64 ((rd_T32 t237 x9_1).f0), .int .i64 ((rd_T32 t237 x9_1).f1), .int .i64 ((rd_T32 t237 x9_1).f2), .int .i64 ((rd_T32 t237 x9_1).f3), .int .i64 ((rd_T32 t237 x9_1).f4), .int .i64 ((rd_T32 t237 x9_1).f5), .int .i64 ((rd_T32 t237 x9_1).f6), .int .i64 ((rd_T32 t237 x9_1).f7), .int .i64 ((rd_T32 t237 x9_1).f8), .int .i64 ((rd_T32 t237 x9_1).f9), .int .i64 ((rd_T32 t237 x9_1).f10), .slice none 0 0]) ?_ 11 _ rfl; (with_reducible repeat first | apply blk_drewN | apply blk_drew | apply blk_alloc); refine blk_put (cs := #[.int .i64 ((rd_T32 t237 x9_1).f0), .int .i64 ((rd_T32 t237 x9_1).f1), .int .i64 ((rd_T32 t237 x9_1).f2), .int .i64 ((rd_T32 t237 x9_1).f3), .int .i64 ((rd_T32 t237 x9_1).f4), .int .i64 ((rd_T32 t237 x9_1).f5), .int .i64 ((rd_T32 t237 x9_1).f6), .int .i64 ((rd_T32 t237 x9_1).f7), .int .i64 ((rd_T32 t237 x9_1).f8), .int .i64 ((rd_T32 t237 x9_1).f9), .int .i64 0, .slice none 0 0]) ?_ 10 _ rfl; (with_reducible repeat first | apply blk_drewN | apply blk_drew | apply blk_alloc); refine blk_put (cs := #[.int .i64 ((rd_T32 t237 x9_1).f0), .int .i64 ((rd_T32 t237 x9_1).f1), .int .i64 ((rd_T32 t237 x9_1).f2), .int .i64 ((rd_T32 t237 x9_1).f3), .int .i64 ((rd_T32 t237 x9_1).f4), .int .i64 ((rd_T32 t237 x9_1).f5), .int .i64 ((rd_T32 t237 x9_1).f6), .int .i64 ((rd_T32 t237 x9_1).f7), .int .i64 ((rd_T32 t237 x9_1).f8), .int .i64 0, .int .i64 0, .slice none 0 0]) ?_ 9 _ rfl; (with_reducible repeat first | apply blk_drewN | apply blk_drew | apply blk_alloc); refine blk_put (cs := #[.int .i64 ((rd_T32 t237 x9_1).f0), .int .i64 ((rd_T32 t237 x9_1).f1), .int .i64 ((rd_T32 t237 x9_1).f2), .int .i64 ((rd_T32 t237 x9_1).f3), .int .i64 ((rd_T32 t237 x9_1).f4), .int .i64 ((rd_T32 t237 x9_1).f5), .int .i64 ((rd_T32 t237 x9_1).f6), .int .i64 ((rd_T32 t237 x9_1).f7), .int .i64 0, .int .i64 0, .int .i64 0, .slice none 0 0]) ?_ 8 _ rfl; (with_reducible repeat first | apply blk_drewN | apply blk_drew | apply blk_alloc); refine blk_put (cs := #[.int .i64 ((rd_T32 t237 x9_1).f0), .int .i64 ((rd_T32 t237 x9_1).f1), .int .i64 ((rd_T32 t237 x9_1).f2), .int .i64 ((rd_T32 t237 x9_1).f3), .int .i64 ((rd_T32 t237 x9_1).f4), .int .i64 ((rd_T32 t237 x9_1).f5), .int .i64 ((rd_T32 t237 x9_1).f6), .int .i64 0, .int .i64 0, .int .i64 0, .int .i64 0, .slice none 0 0]) ?_ 7 _ rfl; (with_reducible repeat first | apply blk_drewN | apply blk_drew | apply blk_alloc); refine blk_put (cs := #[.int .i64 ((rd_T32 t237 x9_1).f0), .int .i64 ((rd_T32 t237 x9_1).f1), .int .i64 ((rd_T32 t237 x9_1).f2), .int .i64 ((rd_T32 t237 x9_1).f3), .int .i64 ((rd_T32 t237 x9_1).f4), .int .i64 ((rd_T32 t237 x9_1).f5), .int .i64 0, .int .i64 0, .int .i64 0, .int .i64 0, .int .i64 0, .slice none 0 0]) ?_ 6 _ rfl; (with_reducible repeat first | apply blk_drewN | apply blk_drew | apply blk_alloc); refine blk_put (cs := #[.int .i64 ((rd_T32 t237 x9_1).f0), .int .i64 ((rd_T32 t237 x9_1).f1), .int .i64 ((rd_T32 t237 x9_1).f2), .int .i64 ((rd_T32 t237 x9_1).f3), .int .i64 ((rd_T32 t237 x9_1).f4), .int .i64 0, .int .i64 0, .int .i64 0, .int .i64 0, .int .i64 0, .int .i64 0, .slice none 0 0]) ?_ 5 _ rfl; (with_reducible repeat first | apply blk_drewN | apply blk_drew | apply blk_alloc); refine blk_put (cs := #[.int .i64 ((rd_T32 t237 x9_1).f0), .int .i64 ((rd_T32 t237 x9_1).f1), .int .i64 ((rd_T32 t237 x9_1).f2), .int .i64 ((rd_T32 t237 x9_1).f3), .int .i64 0, .int .i64 0, .int .i64 0, .int .i64 0, .int .i64 0, .int .i64 0, .int .i64 0, .slice none 0 0]) ?_ 4 _ rfl; (with_reducible repeat first | apply blk_drewN | apply blk_drew | apply blk_alloc); refine blk_put (cs := #[.int .i64 ((rd_T32 t237 x9_1).f0), .int .i64 ((rd_T32 t237 x9_1).f1), .int .i64 ((rd_T32 t237 x9_1).f2), .int .i64 0, .int .i64 0, .int .i64 0, .int .i64 0, .int .i64 0, .int .i64 0, .int .i64 0, .int .i64 0, .slice none 0 0]) ?_ 3 _ rfl; (with_reducible repeat first | apply blk_drewN | apply blk_drew | apply blk_alloc); refine blk_put (cs := #[.int .i64 ((rd_T32 t237 x9_1).f0), .int .i64 ((rd_T32 t237 x9_1).f1), .int .i64 0, .int .i64 0, .int .i64 0, .int .i64 0, .int .i64 0, .int .i64 0, .int .i64 0, .int .i64 0, .int .i64 0, .slice none 0 0]) ?_ 2 _ rfl; (with_reducible repeat first | apply blk_drewN | apply blk_drew | apply blk_alloc); refine blk_put (cs := #[.int .i64 ((rd_T32 t237 x9_1).f0), .int .i64 0, .int .i64 0, .int .i64 0, .int .i64 0, .int .i64 0, .int .i64 0, .int .i64 0, .int .i64 0, .int .i64 0, .int .i64 0, .slice none 0 0]) ?_ 1 _ rfl; (with_reducible repeat first | apply blk_drewN | apply blk_drew | apply blk_alloc); refine blk_put (cs := #[.int .i64 0, .int .i64 0, .int .i64 0, .int .i64 0, .int .i64 0, .int .i64 0, .int .i64 0, .int .i64 0, .int .i64 0, .int .i64 0, .int .i64 0, .slice none 0 0]) ?_ 0 _ rfl; (with_reducible repeat first | apply blk_drewN | apply blk_drew | apply blk_alloc); exact BK241.out) hg (Kd.R_ne HO_3.out BK241.out (by decide))); have n2_ := Aside0.mk (hb); have n3_ := Aside0.mk (ho); clear HO_7; clear BK241; clear HB; clear HO_3; have HO_7 := n0_; have BK241 := n1_; have HB := n2_; have HO244 := n3_; clear n0_ n1_ n2_ n3_; clear ho hb hg hat))
       go_roundg k1
       case measure => have := HK1.out; omega
       case rel => exact ⟨(y242), (wrap64 (x9_1 + 1)), ez, H', ⟨by have := HK1.out; omega⟩, ⟨mR HO244.out⟩, ⟨by (with_reducible repeat (first | apply Kd.R_alloc | apply Kd.R_drewN | apply Kd.R_drew)); exact Kd.R_mono HO_7.out (fun _ hk => hk.1)⟩, ⟨mBs HB.out⟩⟩
      ·rw [if_neg c8] at H
       exact absurd H (by simp)
     ·rw [if_neg c7] at H
      exact absurd H (by simp)
    ·rw [if_neg c6] at H
     exact absurd H (by simp)
   ·rw [if_neg c5] at H
    have c5b0 : decide (x9_1 < (t237.length : Int)) = false := decide_eq_false c5
    clear c5
    replace H := Option.bind_eq_some_iff.mp H
    obtain ⟨t245, A120, H⟩ := H
    replace H : (some t245) = some r := H
    have A12 := Aside0.mk A120
    clear A120
    obtain rfl := Option.some.inj H
    obtain ⟨Ao13, co13, eo13⟩ := Kd.R_slice HO_3.out
    subst eo13
    go_wp2_with (first | ((with_reducible refine gate_callee (f := 42) rfl ?_); refine goesL_ (some 26) rfl rfl Try.func42 (by kernel_rfl) rfl #[.slice Ao13 x3_1.length co13] rfl mt ?_; (with_reducible refine (slices_Clip_Busy.calls (fun k_ => some k_ = (.slice Ao13 x3_1.length co13 : Value).ownBlock) _ _ x3_1 t245 _ ?side1 A12.out).mono ?_); (case side1 => exact Kd.R_V (Kd.R_tight rfl (Kd.R_apart' (HO_3.out) (Kd.R_typed HO_7.out) (by decide)))); rintro e w14 ⟨v246, rfl, ho0, hb⟩; refine ⟨_, rfl, ?_⟩; have n0_ := Aside0.mk (Kd.R_below (mR HO_3.out) hb); have n1_ := Aside0.mk (Kd.R_below (mR HO_7.out) hb); have n2_ := Aside0.mk (Kd.V_lower (Kd.V_mono (ok' := fun k_ => (w.heap.size ≤ k_) ∧ some k_ ≠ (.slice Ao4 t237.length co4 : Value).ownBlock) ho0 (fun k_ hk_ => ⟨Or.elim hk_ (fun hs_ => ((Kd.R_apart' (HO_3.out) (Kd.R_typed HO_7.out) (by decide)).1 k_ hs_.symm).1) (fun hn_ => (Nat.le_trans (below_size (mB HB.out)) hn_)), Or.elim hk_ (fun hs_ => ((Kd.R_apart' (HO_3.out) (Kd.R_typed HO_7.out) (by decide)).1 k_ hs_.symm).2) (fun hn_ => (Kd.fresh' (Kd.R_lt (mR HO_7.out)) k_ hn_))⟩)) (below_size (mB HB.out))); have n3_ := Aside0.mk (below_step (mB HB.out) hb); clear HO_3; clear HO_7; clear HB; have HO_3 := n0_; have HO_7 := n1_; have HO247 := n2_; have HB := n3_; clear n0_ n1_ n2_ n3_; (try clear hb); (try clear hb2); (try clear hk); (try clear hi); (try clear ho0)))
    go_ret
    exact ⟨_, by first | rfl | (simp [errW_none, errW_some] <;> rfl) | (simp [*, errW_none, errW_some] <;> rfl), by (with_reducible repeat (first | apply Kd.V_alloc | apply Kd.V_drewN | apply Kd.V_drew)); exact Kd.V_mono HO247.out (fun _ hk => hk.1), by repeat (first | (with_reducible first | exact HB.out | apply below_alloc | apply pw_below_drewN | apply below_drew1) | exact HB.out)⟩

end Go.Proofs.Ytkhfgflcanmefaa.PAll
end
section
namespace Go.Proofs.Ytkhfgflcanmefaa.PAll
open Go.RowKit Go.Proofs.YtkhfgflcanmefaaW.PrintWords Go.Proofs.YtkhfgflcanmefaaW.PrintLast Go.Proofs.YtkhfgflcanmefaaW.PrintMore
attribute [local go_sem] max2_int min2_int max_two min_two max_three min_three max_four min_four   -- for this text's walks alone
set_option linter.unusedVariables false
set_option linter.unusedSimpArgs false

def plane_within.f (a0 : Int) (a1 : Int) (a2 : Int) : Option (Bool) := if a0 ≥ a1 then (some (decide (a0 ≤ a2))) else (some false)
set_option maxHeartbeats 8000000 in
set_option maxRecDepth 100000 in
theorem plane_within.calls (a0 : Int) (a1 : Int) (a2 : Int) (r : Bool) (w : World) (h : plane_within.f a0 a1 a2 = some r) :
    Calls Try.prog 61 #[.int .i64 a0, .int .i64 a1, .int .i64 a2] w fun e w' => e = .returned (.bool r) ∧ Drawn0 w w' := by
  have H : (if a0 ≥ a1 then (some (decide (a0 ≤ a2))) else (some false)) = some r := h
  clear h
  by_cases c4 : a0 ≥ a1
  · rw [if_pos c4] at H
    have c4b0 : decide (a1 ≤ a0) = true := decide_eq_true c4
    clear c4
    obtain rfl := Option.some.inj H
    go_enter Try.func61, Try.ntmps61
    go_wp2
    go_ret
    exact ⟨by first | rfl | (simp; done) | (simp [*]; done), by repeat (first | exact Drawn0.refl _ | apply Drawn0.step)⟩
  · rw [if_neg c4] at H
    have c4b0 : decide (a1 ≤ a0) = false := decide_eq_false c4
    clear c4
    obtain rfl := Option.some.inj H
    go_enter Try.func61, Try.ntmps61
    go_wp2
    go_ret
    exact ⟨by first | rfl | (simp; done) | (simp [*]; done), by repeat (first | exact Drawn0.refl _ | apply Drawn0.step)⟩

end Go.Proofs.Ytkhfgflcanmefaa.PAll
end
section
namespace Go.Proofs.Ytkhfgflcanmefaa.PAll
open Go.RowKit Go.Proofs.YtkhfgflcanmefaaW.PrintWords Go.Proofs.YtkhfgflcanmefaaW.PrintLast Go.Proofs.YtkhfgflcanmefaaW.PrintMore
attribute [local go_sem] max2_int min2_int max_two min_two max_three min_three max_four min_four   -- for this text's walks alone
set_option linter.unusedVariables false
set_option linter.unusedSimpArgs false

def plane_Good.f (a0_0 : Int) (a0_1 : Int) (a0_2 : Int) (a0_3 : Int) : Option (Bool) := (plane_within.f a0_0 0 1099511627776).bind fun t249 => (if t249 = true then ((plane_within.f a0_2 1 1048576).bind fun t250 => (if t250 = true then ((plane_within.f a0_1 0 31).bind fun t251 => (if t251 = true then ((plane_within.f a0_3 1 (wrap64 (32 - a0_1))).bind fun t252 => (some t252)) else (some false))) else (some false))) else (some false))
set_option maxHeartbeats 8000000 in
set_option maxRecDepth 100000 in
theorem plane_Good.calls (a0_0 : Int) (a0_1 : Int) (a0_2 : Int) (a0_3 : Int) (r : Bool) (w : World) (h : plane_Good.f a0_0 a0_1 a0_2 a0_3 = some r) :
    Calls Try.prog 51 #[.agg #[.int .i64 a0_0, .int .i64 a0_1, .int .i64 a0_2, .int .i64 a0_3]] w fun e w' => e = .returned (.bool r) ∧ Below w.heap.size w w' := by
  have hu63 := Try.underlying63
  have HB := Aside0.mk (Below.refl w.heap.size w)
  have H : ((plane_within.f a0_0 0 1099511627776).bind fun t249 => (if t249 = true then ((plane_within.f a0_2 1 1048576).bind fun t250 => (if t250 = true then ((plane_within.f a0_1 0 31).bind fun t251 => (if t251 = true then ((plane_within.f a0_3 1 (wrap64 (32 - a0_1))).bind fun t252 => (some t252)) else (some false))) else (some false))) else (some false))) = some r := h
  clear h
  replace H := Option.bind_eq_some_iff.mp H
  obtain ⟨t249, A20, H⟩ := H
  replace H : (if t249 = true then ((plane_within.f a0_2 1 1048576).bind fun t250 => (if t250 = true then ((plane_within.f a0_1 0 31).bind fun t251 => (if t251 = true then ((plane_within.f a0_3 1 (wrap64 (32 - a0_1))).bind fun t252 => (some t252)) else (some false))) else (some false))) else (some false)) = some r := H
  have A2 := Aside0.mk A20
  clear A20
  by_cases c3 : t249 = true
  · subst c3
    have H1 : ((plane_within.f a0_2 1 1048576).bind fun t250 => (if t250 = true then ((plane_within.f a0_1 0 31).bind fun t251 => (if t251 = true then ((plane_within.f a0_3 1 (wrap64 (32 - a0_1))).bind fun t252 => (some t252)) else (some false))) else (some false))) = some r := by rw [if_pos rfl] at H; exact H
    clear H
    have H := H1
    clear H1
    replace H := Option.bind_eq_some_iff.mp H
    obtain ⟨t250, A40, H⟩ := H
    replace H : (if t250 = true then ((plane_within.f a0_1 0 31).bind fun t251 => (if t251 = true then ((plane_within.f a0_3 1 (wrap64 (32 - a0_1))).bind fun t252 => (some t252)) else (some false))) else (some false)) = some r := H
    have A4 := Aside0.mk A40
    clear A40
    by_cases c5 : t250 = true
    · subst c5
      have H1 : ((plane_within.f a0_1 0 31).bind fun t251 => (if t251 = true then ((plane_within.f a0_3 1 (wrap64 (32 - a0_1))).bind fun t252 => (some t252)) else (some false))) = some r := by rw [if_pos rfl] at H; exact H
      clear H
      have H := H1
      clear H1
      replace H := Option.bind_eq_some_iff.mp H
      obtain ⟨t251, A60, H⟩ := H
      replace H : (if t251 = true then ((plane_within.f a0_3 1 (wrap64 (32 - a0_1))).bind fun t252 => (some t252)) else (some false)) = some r := H
      have A6 := Aside0.mk A60
      clear A60
      by_cases c7 : t251 = true
      · subst c7
        have H1 : ((plane_within.f a0_3 1 (wrap64 (32 - a0_1))).bind fun t252 => (some t252)) = some r := by rw [if_pos rfl] at H; exact H
        clear H
        have H := H1
        clear H1
        replace H := Option.bind_eq_some_iff.mp H
        obtain ⟨t252, A80, H⟩ := H
        replace H : (some t252) = some r := H
        have A8 := Aside0.mk A80
        clear A80
        obtain rfl := Option.some.inj H
        go_enter Try.func51, Try.ntmps51
        go_wp2_with (first | ((with_reducible refine gate_dst (N := 1) rfl ?_); refine box_event ?hg (N := 1) ?hd (cs := #[.int .i64 a0_0, .int .i64 a0_1, .int .i64 a0_2, .int .i64 a0_3]) (t := 63) ?hr ?_; (case hd => rfl); (case hg => rfl); (case hr => first | (go_simp; done) | (go_simp; rfl)); intro gb248 hg w9 hbox hb; have n0_ := Aside0.mk (below_step (by repeat (first | (with_reducible first | exact HB.out | apply below_alloc | apply pw_below_drewN | apply below_drew1) | exact HB.out)) hb); have n1_ := Aside0.mk (hbox); have n2_ := Aside0.mk ((by rw [hg]; exact (below_size (by repeat (first | (with_reducible first | exact HB.out | apply below_alloc | apply pw_below_drewN | apply below_drew1) | exact HB.out))) : w.heap.size ≤ gb248)); have n3_ := Aside0.mk ((by rw [hg]; exact (below_size (by repeat (first | (with_reducible first | exact HB.out | apply below_alloc | apply pw_below_drewN | apply below_drew1) | exact HB.out))) : w.heap.size ≤ gb248)); clear HB; have HB := n0_; have BK248 := n1_; have GW248 := n2_; have GE248 := n3_; clear n0_ n1_ n2_ n3_; clear hb hbox hg; have hcz10_0 : w9.cell? ⟨gb248, 0, none⟩ = some (.int .i64 a0_0) := (blk_cell BK248.out 0).trans rfl; have hcz10_1 : w9.cell? ⟨gb248, 1, none⟩ = some (.int .i64 a0_1) := (blk_cell BK248.out 1).trans rfl; have hcz10_2 : w9.cell? ⟨gb248, 2, none⟩ = some (.int .i64 a0_2) := (blk_cell BK248.out 2).trans rfl; have hcz10_3 : w9.cell? ⟨gb248, 3, none⟩ = some (.int .i64 a0_3) := (blk_cell BK248.out 3).trans rfl; have hfz10_0 := blk_frozen BK248.out 0; have hfz10_1 := blk_frozen BK248.out 1; have hfz10_2 := blk_frozen BK248.out 2; have hfz10_3 := blk_frozen BK248.out 3) | ((with_reducible refine gate_callee (f := 61) rfl ?_); refine goesL_ (some 5) rfl rfl Try.func61 (by kernel_rfl) rfl #[.int .i64 a0_0, .int .i64 0, .int .i64 1099511627776] rfl (by (try simp only [List.map_toArray, List.map_cons, List.map_nil]); first | done | rfl | (simp only [List.length_drop, List.length_take]; rfl)) ?_; (with_reducible refine (plane_within.calls a0_0 0 1099511627776 true _ A2.out).mono ?_); rintro e w' ⟨rfl, ⟨nd, rfl⟩⟩; refine ⟨_, rfl, ?_⟩) | (go_at_call 61; (with_reducible refine (plane_within.calls a0_2 1 1048576 true _ A4.out).mono ?_); rintro e w' ⟨rfl, ⟨nd, rfl⟩⟩) | (go_at_call 61; (with_reducible refine (plane_within.calls a0_1 0 31 true _ A6.out).mono ?_); rintro e w' ⟨rfl, ⟨nd, rfl⟩⟩) | (go_at_call 61; (with_reducible refine (plane_within.calls a0_3 1 (wrap64 (32 - a0_1)) t252 _ A8.out).mono ?_); rintro e w' ⟨rfl, ⟨nd, rfl⟩⟩))
        go_ret
        exact ⟨by first | rfl | (simp [errW_none, errW_some] <;> rfl) | (simp [*, errW_none, errW_some] <;> rfl), by repeat (first | (with_reducible first | exact HB.out | apply below_alloc | apply pw_below_drewN | apply below_drew1 | refine below_set ?_ GE248.out) | exact HB.out)⟩
      · replace c7 := Bool.eq_false_iff.mpr c7
        subst c7
        have H1 : (some false) = some r := by rw [if_neg (show ¬ (false = true) by decide)] at H; exact H
        clear H
        have H := H1
        clear H1
        obtain rfl := Option.some.inj H
        go_enter Try.func51, Try.ntmps51
        go_wp2_with (first | ((with_reducible refine gate_dst (N := 1) rfl ?_); refine box_event ?hg (N := 1) ?hd (cs := #[.int .i64 a0_0, .int .i64 a0_1, .int .i64 a0_2, .int .i64 a0_3]) (t := 63) ?hr ?_; (case hd => rfl); (case hg => rfl); (case hr => first | (go_simp; done) | (go_simp; rfl)); intro gb248 hg w11 hbox hb; have n0_ := Aside0.mk (below_step (by repeat (first | (with_reducible first | exact HB.out | apply below_alloc | apply pw_below_drewN | apply below_drew1) | exact HB.out)) hb); have n1_ := Aside0.mk (hbox); have n2_ := Aside0.mk ((by rw [hg]; exact (below_size (by repeat (first | (with_reducible first | exact HB.out | apply below_alloc | apply pw_below_drewN | apply below_drew1) | exact HB.out))) : w.heap.size ≤ gb248)); have n3_ := Aside0.mk ((by rw [hg]; exact (below_size (by repeat (first | (with_reducible first | exact HB.out | apply below_alloc | apply pw_below_drewN | apply below_drew1) | exact HB.out))) : w.heap.size ≤ gb248)); clear HB; have HB := n0_; have BK248 := n1_; have GW248 := n2_; have GE248 := n3_; clear n0_ n1_ n2_ n3_; clear hb hbox hg; have hcz12_0 : w11.cell? ⟨gb248, 0, none⟩ = some (.int .i64 a0_0) := (blk_cell BK248.out 0).trans rfl; have hcz12_1 : w11.cell? ⟨gb248, 1, none⟩ = some (.int .i64 a0_1) := (blk_cell BK248.out 1).trans rfl; have hcz12_2 : w11.cell? ⟨gb248, 2, none⟩ = some (.int .i64 a0_2) := (blk_cell BK248.out 2).trans rfl; have hcz12_3 : w11.cell? ⟨gb248, 3, none⟩ = some (.int .i64 a0_3) := (blk_cell BK248.out 3).trans rfl; have hfz12_0 := blk_frozen BK248.out 0; have hfz12_1 := blk_frozen BK248.out 1; have hfz12_2 := blk_frozen BK248.out 2; have hfz12_3 := blk_frozen BK248.out 3) | ((with_reducible refine gate_callee (f := 61) rfl ?_); refine goesL_ (some 5) rfl rfl Try.func61 (by kernel_rfl) rfl #[.int .i64 a0_0, .int .i64 0, .int .i64 1099511627776] rfl (by (try simp only [List.map_toArray, List.map_cons, List.map_nil]); first | done | rfl | (simp only [List.length_drop, List.length_take]; rfl)) ?_; (with_reducible refine (plane_within.calls a0_0 0 1099511627776 true _ A2.out).mono ?_); rintro e w' ⟨rfl, ⟨nd, rfl⟩⟩; refine ⟨_, rfl, ?_⟩) | (go_at_call 61; (with_reducible refine (plane_within.calls a0_2 1 1048576 true _ A4.out).mono ?_); rintro e w' ⟨rfl, ⟨nd, rfl⟩⟩) | (go_at_call 61; (with_reducible refine (plane_within.calls a0_1 0 31 false _ A6.out).mono ?_); rintro e w' ⟨rfl, ⟨nd, rfl⟩⟩))
        go_ret
        exact ⟨by first | rfl | (simp [errW_none, errW_some] <;> rfl) | (simp [*, errW_none, errW_some] <;> rfl), by repeat (first | (with_reducible first | exact HB.out | apply below_alloc | apply pw_below_drewN | apply below_drew1 | refine below_set ?_ GE248.out) | exact HB.out)⟩
    · replace c5 := Bool.eq_false_iff.mpr c5
      subst c5
      have H1 : (some false) = some r := by rw [if_neg (show ¬ (false = true) by decide)] at H; exact H
      clear H
      have H := H1
      clear H1
      obtain rfl := Option.some.inj H
      go_enter Try.func51, Try.ntmps51
      go_wp2_with (first | ((with_reducible refine gate_dst (N := 1) rfl ?_); refine box_event ?hg (N := 1) ?hd (cs := #[.int .i64 a0_0, .int .i64 a0_1, .int .i64 a0_2, .int .i64 a0_3]) (t := 63) ?hr ?_; (case hd => rfl); (case hg => rfl); (case hr => first | (go_simp; done) | (go_simp; rfl)); intro gb248 hg w13 hbox hb; have n0_ := Aside0.mk (below_step (by repeat (first | (with_reducible first | exact HB.out | apply below_alloc | apply pw_below_drewN | apply below_drew1) | exact HB.out)) hb); have n1_ := Aside0.mk (hbox); have n2_ := Aside0.mk ((by rw [hg]; exact (below_size (by repeat (first | (with_reducible first | exact HB.out | apply below_alloc | apply pw_below_drewN | apply below_drew1) | exact HB.out))) : w.heap.size ≤ gb248)); have n3_ := Aside0.mk ((by rw [hg]; exact (below_size (by repeat (first | (with_reducible first | exact HB.out | apply below_alloc | apply pw_below_drewN | apply below_drew1) | exact HB.out))) : w.heap.size ≤ gb248)); clear HB; have HB := n0_; have BK248 := n1_; have GW248 := n2_; have GE248 := n3_; clear n0_ n1_ n2_ n3_; clear hb hbox hg; have hcz14_0 : w13.cell? ⟨gb248, 0, none⟩ = some (.int .i64 a0_0) := (blk_cell BK248.out 0).trans rfl; have hcz14_1 : w13.cell? ⟨gb248, 1, none⟩ = some (.int .i64 a0_1) := (blk_cell BK248.out 1).trans rfl; have hcz14_2 : w13.cell? ⟨gb248, 2, none⟩ = some (.int .i64 a0_2) := (blk_cell BK248.out 2).trans rfl; have hcz14_3 : w13.cell? ⟨gb248, 3, none⟩ = some (.int .i64 a0_3) := (blk_cell BK248.out 3).trans rfl; have hfz14_0 := blk_frozen BK248.out 0; have hfz14_1 := blk_frozen BK248.out 1; have hfz14_2 := blk_frozen BK248.out 2; have hfz14_3 := blk_frozen BK248.out 3) | ((with_reducible refine gate_callee (f := 61) rfl ?_); refine goesL_ (some 5) rfl rfl Try.func61 (by kernel_rfl) rfl #[.int .i64 a0_0, .int .i64 0, .int .i64 1099511627776] rfl (by (try simp only [List.map_toArray, List.map_cons, List.map_nil]); first | done | rfl | (simp only [List.length_drop, List.length_take]; rfl)) ?_; (with_reducible refine (plane_within.calls a0_0 0 1099511627776 true _ A2.out).mono ?_); rintro e w' ⟨rfl, ⟨nd, rfl⟩⟩; refine ⟨_, rfl, ?_⟩) | (go_at_call 61; (with_reducible refine (plane_within.calls a0_2 1 1048576 false _ A4.out).mono ?_); rintro e w' ⟨rfl, ⟨nd, rfl⟩⟩))
      go_ret
      exact ⟨by first | rfl | (simp [errW_none, errW_some] <;> rfl) | (simp [*, errW_none, errW_some] <;> rfl), by repeat (first | (with_reducible first | exact HB.out | apply below_alloc | apply pw_below_drewN | apply below_drew1 | refine below_set ?_ GE248.out) | exact HB.out)⟩
  · replace c3 := Bool.eq_false_iff.mpr c3
    subst c3
    have H1 : (some false) = some r := by rw [if_neg (show ¬ (false = true) by decide)] at H; exact H
    clear H
    have H := H1
    clear H1
    obtain rfl := Option.some.inj H
    go_enter Try.func51, Try.ntmps51
    go_wp2_with (first | ((with_reducible refine gate_dst (N := 1) rfl ?_); refine box_event ?hg (N := 1) ?hd (cs := #[.int .i64 a0_0, .int .i64 a0_1, .int .i64 a0_2, .int .i64 a0_3]) (t := 63) ?hr ?_; (case hd => rfl); (case hg => rfl); (case hr => first | (go_simp; done) | (go_simp; rfl)); intro gb248 hg w15 hbox hb; have n0_ := Aside0.mk (below_step (by repeat (first | (with_reducible first | exact HB.out | apply below_alloc | apply pw_below_drewN | apply below_drew1) | exact HB.out)) hb); have n1_ := Aside0.mk (hbox); have n2_ := Aside0.mk ((by rw [hg]; exact (below_size (by repeat (first | (with_reducible first | exact HB.out | apply below_alloc | apply pw_below_drewN | apply below_drew1) | exact HB.out))) : w.heap.size ≤ gb248)); have n3_ := Aside0.mk ((by rw [hg]; exact (below_size (by repeat (first | (with_reducible first | exact HB.out | apply below_alloc | apply pw_below_drewN | apply below_drew1) | exact HB.out))) : w.heap.size ≤ gb248)); clear HB; have HB := n0_; have BK248 := n1_; have GW248 := n2_; have GE248 := n3_; clear n0_ n1_ n2_ n3_; clear hb hbox hg; have hcz16_0 : w15.cell? ⟨gb248, 0, none⟩ = some (.int .i64 a0_0) := (blk_cell BK248.out 0).trans rfl; have hcz16_1 : w15.cell? ⟨gb248, 1, none⟩ = some (.int .i64 a0_1) := (blk_cell BK248.out 1).trans rfl; have hcz16_2 : w15.cell? ⟨gb248, 2, none⟩ = some (.int .i64 a0_2) := (blk_cell BK248.out 2).trans rfl; have hcz16_3 : w15.cell? ⟨gb248, 3, none⟩ = some (.int .i64 a0_3) := (blk_cell BK248.out 3).trans rfl; have hfz16_0 := blk_frozen BK248.out 0; have hfz16_1 := blk_frozen BK248.out 1; have hfz16_2 := blk_frozen BK248.out 2; have hfz16_3 := blk_frozen BK248.out 3) | ((with_reducible refine gate_callee (f := 61) rfl ?_); refine goesL_ (some 5) rfl rfl Try.func61 (by kernel_rfl) rfl #[.int .i64 a0_0, .int .i64 0, .int .i64 1099511627776] rfl (by (try simp only [List.map_toArray, List.map_cons, List.map_nil]); first | done | rfl | (simp only [List.length_drop, List.length_take]; rfl)) ?_; (with_reducible refine (plane_within.calls a0_0 0 1099511627776 false _ A2.out).mono ?_); rintro e w' ⟨rfl, ⟨nd, rfl⟩⟩; refine ⟨_, rfl, ?_⟩))
    go_ret
    exact ⟨by first | rfl | (simp [errW_none, errW_some] <;> rfl) | (simp [*, errW_none, errW_some] <;> rfl), by repeat (first | (with_reducible first | exact HB.out | apply below_alloc | apply pw_below_drewN | apply below_drew1 | refine below_set ?_ GE248.out) | exact HB.out)⟩

end Go.Proofs.Ytkhfgflcanmefaa.PAll
end
section
namespace Go.Proofs.Ytkhfgflcanmefaa.PAll
open Go.RowKit Go.Proofs.YtkhfgflcanmefaaW.PrintWords Go.Proofs.YtkhfgflcanmefaaW.PrintLast Go.Proofs.YtkhfgflcanmefaaW.PrintMore
attribute [local go_sem] max2_int min2_int max_two min_two max_three min_three max_four min_four   -- for this text's walks alone
set_option linter.unusedVariables false
set_option linter.unusedSimpArgs false

theorem least_of (p : Nat → Prop) (h : ∃ k, p k) : ∃ k, p k ∧ ∀ j, p j → k ≤ j := by
  obtain ⟨k, hk⟩ := h
  induction k using Nat.strongRecOn with
  | _ k ih =>
    by_cases hc : ∃ j, j < k ∧ p j
    · obtain ⟨j, hj, pj⟩ := hc
      exact ih j hj pj
    · exact ⟨k, hk, fun j pj => Nat.le_of_not_lt fun hlt => hc ⟨j, hlt, pj⟩⟩
open Classical in
theorem wp_scope_ghost {P : Program} {a : Act} {w : World} {Q : Exit → Act → World → Prop} {c rest : Code} (l : Nat) (R : Nat → Act → World → Prop) (hf : findLabel c l = some (Code.skip.seq rest))
    (pass : ∀ k a w, R k a w → rest.wp P (Exit.jump l (fun a' w' => ∃ k', k' < k ∧ R k' a' w') Q) a w)
    (first : (∀ k a w, R k a w → rest.wp P (Exit.jump l (fun a' w' => ∃ k', R k' a' w') Q) a w) → c.wp P (Exit.jump l (fun a' w' => ∃ k', R k' a' w') Q) a w) : (Code.scope c).wp P Q a w := by
  refine wp_scope_jumps l (fun a' w' => ∃ k', R k' a' w') (fun a' w' => if h : ∃ k', R k' a' w' then Classical.choose (least_of _ h) else 0) hf (first ?_) ?_
  · intro k a w h
    refine wp_mono (pass k a w h) ?_
    intro e a' w' hq
    cases e <;> first | exact hq | (obtain ⟨e1, k', _, h'⟩ := hq; exact ⟨e1, k', h'⟩)
  · intro a w h
    refine wp_seq (wp_skip ?_)
    show rest.wp _ _ _ _
    refine wp_mono (pass _ a w (Classical.choose_spec (least_of _ h)).1) ?_
    intro e a' w' hq
    cases e <;> first | exact hq | skip
    obtain ⟨e1, k', hk, h'⟩ := hq
    refine ⟨e1, ⟨k', h'⟩, ?_⟩
    have h2 : ∃ k', R k' a' w' := ⟨k', h'⟩
    simp only [dif_pos h2, dif_pos h]
    exact Nat.lt_of_le_of_lt ((Classical.choose_spec (least_of _ h2)).2 _ h') hk
def bitOf (m n : Int) : Int := Go.bits .and .i64 (shr .i64 m n) 1
mutual
def plane_Rows.up : Nat → Int → Int → Int → Option Int
  | 0, _, _, _ => none
  | k + 1, t, m, n => if n < 32 then (if bitOf m n = t then plane_Rows.up k t m (n + 1) else some n) else some n
end
def plane_Rows.l : Nat → Int → Int → Int → List S63 → Int → Option (List S63)
  | 0, _, _, _, _, _ => none
  | k + 1, a0, a1, a2, out, n => (plane_Rows.up 40 0 a2 n).bind fun p => if p = 32 then some out else (plane_Rows.up 40 1 a2 p).bind fun q => plane_Rows.l k a0 a1 a2 (out ++ [(⟨a0, p, a1, q - p⟩ : S63)]) q
def plane_Rows.f (a0 a1 a2 : Int) : Option (List S63) := (plane_Good.f a0 0 a1 1).bind fun g => if g = true then plane_Rows.l 40 a0 a1 a2 [] 0 else some []
structure RowsAt (a0 a1 a2 : Int) (r : List S63) (w : World) (k : Nat) (a' : Act) (w' : World) : Prop where mk :: (out : ∃ (out : List S63) (n : Int) (v7 u3 u4 u5 u9 u10 u11 u12 u13 u14 u15 u16 u17 u18 u19 u20 u21 u22 u23 u24 u25 u26 u27 u28 u29 u30 u31 u32 u33 u34 u35 u36 u37 u38 u39 u40 u41 u42 u43 u44 u45 u46 u47 u48 u49 u50 u51 u52 : Value), a' = { tmps := #[.int .i64 a0, .int .i64 a1, .int .i64 a2, u3, u4, u5, .slice none 0 0, v7, .int .i64 n, u9, u10, u11, u12, u13, u14, u15, u16, u17, u18, u19, u20, u21, u22, u23, u24, u25, u26, u27, u28, u29, u30, u31, u32, u33, u34, u35, u36, u37, u38, u39, u40, u41, u42, u43, u44, u45, u46, u47, u48, u49, u50, u51, u52], defers := [] } ∧ 0 ≤ n ∧ n ≤ 32 ∧ out.length + k ≤ 40 ∧ plane_Rows.l k a0 a1 a2 out n = some r ∧ Kd.R k63 63 w' w.heap.size (fun _ => True) v7 out ∧ Below w.heap.size w w')
set_option maxHeartbeats 4000000 in
set_option maxRecDepth 100000 in
theorem plane_Rows.calls (a0 : Int) (a1 : Int) (a2 : Int) (r : List (S63)) (w : World) (h : plane_Rows.f a0 a1 a2 = some r) :
    Calls Try.prog 43 #[.int .i64 a0, .int .i64 a1, .int .i64 a2] w fun e w' => ∃ v0_ : Value, e = .returned (v0_) ∧ Kd.R k63 63 w' w.heap.size (fun _ => True) v0_ r ∧ Below w.heap.size w w' := by
  have hu23 := Try.underlying63
  obtain ⟨g, hg, h2⟩ := Option.bind_eq_some_iff.1 h
  have HG := Aside0.mk hg
  have H0 := Aside0.mk h2
  clear hg h2 h
  go_enter Try.func43, Try.ntmps43
  go_wp2_with (fail)
  refine wp_scope_ghost 0 (fun k a' w' => RowsAt a0 a1 a2 r w k a' w') rfl ?_ ?_
  · rintro k a' w' ⟨out, n, v7, u3, u4, u5, u9, u10, u11, u12, u13, u14, u15, u16, u17, u18, u19, u20, u21, u22, u23, u24, u25, u26, u27, u28, u29, u30, u31, u32, u33, u34, u35, u36, u37, u38, u39, u40, u41, u42, u43, u44, u45, u46, u47, u48, u49, u50, u51, u52, rfl, hn0, hn1, hlen, hl, ho, hb⟩
    cases k with
    | zero => simp [plane_Rows.l] at hl
    | succ k =>
      obtain ⟨p, hp, hl⟩ := Option.bind_eq_some_iff.1 hl
      have HL := Aside0.mk hl
      have HO := Aside0.mk ho
      have HB := Aside0.mk hb
      have HP := Aside0.mk hp
      clear hl ho hb hp
      go_wp2_with (fail)
      go_loopg [8] 40 (fun kq v8 wc => ∃ m : Int, v8 = .int .i64 m ∧ Aside0 (plane_Rows.up kq 0 a2 m = some p) ∧ Aside0 (0 ≤ m ∧ m ≤ 32) ∧ wc = w')
      case atStart => exact ⟨n, rfl, HP, ⟨hn0, hn1⟩, rfl⟩
      case round =>
        obtain ⟨m, rfl, hu, hm, rfl⟩ := hrel
        cases gk with
        | zero => exact absurd hu.out (by simp [plane_Rows.up])
        | succ k2 =>
          obtain ⟨m0, m1⟩ := hm.out
          have H := hu.out
          simp only [plane_Rows.up] at H
          by_cases c1 : m < 32
          · rw [if_pos c1] at H
            have d1 : decide (m < 32) = true := decide_eq_true c1
            have e0 := eq_true m0
            have e1 : decide (0 ≤ m) = true := decide_eq_true m0
            have hz : shr .i64 a2 m = a2 / 2 ^ m.toNat := (shr_small rfl (by have : (IntKind.i64.bits : Int) = 64 := rfl; omega)).symm
            unfold bitOf at H
            rw [hz] at H
            have f32 : (m == 32) = false := beq_eq_false_iff_ne.mpr (by omega)
            have g32 : ¬ (m = 32) := by omega
            by_cases c2 : Go.bits .and .i64 (a2 / 2 ^ m.toNat) 1 = 0
            · rw [if_pos c2] at H
              have b0 : ((Go.bits .and .i64 (a2 / 2 ^ m.toNat) 1) == 0) = true := beq_iff_eq.mpr c2
              have H' := Aside0.mk H
              clear H c1 hu hz
              go_wp2_with (fail)
              go_roundg k2
              case measure => omega
              case rel => exact ⟨m + 1, rfl, H', ⟨by omega, by omega⟩, rfl⟩
            · rw [if_neg c2] at H
              have b0 : ((Go.bits .and .i64 (a2 / 2 ^ m.toNat) 1) == 0) = false := beq_eq_false_iff_ne.mpr c2
              have HL2 := HL.out
              obtain rfl : m = p := Option.some.inj H
              rw [if_neg g32] at HL2
              obtain ⟨q, hq, HL2⟩ := Option.bind_eq_some_iff.1 HL2
              have HQ := Aside0.mk hq
              have HL3 := Aside0.mk HL2
              clear H c1 hu HL HL2 HP hz hq g32
              go_wp2_with (fail)
              clear e0 e1 b0 f32 d1
              go_loopg [8] 40 (fun kq v8 wc => ∃ m2 : Int, v8 = .int .i64 m2 ∧ Aside0 (plane_Rows.up kq 1 a2 m2 = some q) ∧ Aside0 (m ≤ m2 ∧ m2 ≤ 32) ∧ wc = wr.alloc (.cells #[.int .i64 a0, .int .i64 m, .int .i64 a1, .int .i64 0] 63 (0, 0)))
              case atStart => exact ⟨m, rfl, HQ, ⟨by omega, by omega⟩, rfl⟩
              case round =>
                obtain ⟨m2, rfl, hu2, hm2, rfl⟩ := hrel
                cases gk with
                | zero => exact absurd hu2.out (by simp [plane_Rows.up])
                | succ k3 =>
                  obtain ⟨n0, n1⟩ := hm2.out
                  have m20 : 0 ≤ m2 := by omega
                  have H := hu2.out
                  simp only [plane_Rows.up] at H
                  by_cases c1 : m2 < 32
                  · rw [if_pos c1] at H
                    have d1 : decide (m2 < 32) = true := decide_eq_true c1
                    have e0 := eq_true m20
                    have e1 : decide (0 ≤ m2) = true := decide_eq_true m20
                    have hz : shr .i64 a2 m2 = a2 / 2 ^ m2.toNat := (shr_small rfl (by have : (IntKind.i64.bits : Int) = 64 := rfl; omega)).symm
                    unfold bitOf at H
                    rw [hz] at H
                    by_cases c2 : Go.bits .and .i64 (a2 / 2 ^ m2.toNat) 1 = 1
                    · rw [if_pos c2] at H
                      have b0 : ((Go.bits .and .i64 (a2 / 2 ^ m2.toNat) 1) == 1) = true := beq_iff_eq.mpr c2
                      have H' := Aside0.mk H
                      clear H c1 hu2 hz
                      go_wp2_with (fail)
                      go_roundg k3
                      case measure => omega
                      case rel => exact ⟨m2 + 1, rfl, H', ⟨by omega, by have := of_decide_eq_true d1; omega⟩, rfl⟩
                    · rw [if_neg c2] at H
                      have b0 : ((Go.bits .and .i64 (a2 / 2 ^ m2.toNat) 1) == 1) = false := beq_eq_false_iff_ne.mpr c2
                      obtain rfl : m2 = q := Option.some.inj H
                      clear H c1 hu2 hz
                      have hwz : wrap64 (m2 - m) = m2 - m := by unfold wrap64; omega
                      go_wp2_with (first | ((with_reducible refine gate_builtin (b := .append) (xs := #[.tmp 49, .tmp 51]) rfl ?_); refine Kd.R_append k63 (w0 := w) w.heap.size rfl (.tmp 49) (.tmp 51) 43 63 (.agg #[(.int .i64 0), (.int .i64 0), (.int .i64 0), (.int .i64 0)]) 32 rfl Try.underlying43 info63 rfl (by decide) (by omega) v7 out (⟨a0, m, a1, m2 - m⟩ : S63) [.int .i64 a0, .int .i64 m, .int .i64 a1, .int .i64 (m2 - m)] (fun _ => True) (fun _ => False) rfl (congrArg (fun b_ => Value.slice (some ⟨b_, 0, none⟩) 1 1) (show wr.heap.size + 1 = (wr.alloc (.cells #[.int .i64 a0, .int .i64 m, .int .i64 a1, .int .i64 (m2 - m)] 63 (0, 0))).heap.size by simp)) ?aP (fun _ hk => hk.elim) ?aF ?aO ?aB ?aS ?aL ?_; (case aP => exact k63_mkM _ _ _ (⟨a0, m, a1, m2 - m⟩ : S63)); (case aB => exact (by repeat (first | (with_reducible first | exact HB.out | apply below_alloc | apply pw_below_drewN | apply below_drew1) | exact HB.out))); (case aF => exact (fun _ _ => trivial)); (case aO => exact (by (with_reducible repeat (first | apply Kd.R_alloc | apply Kd.R_drewN | apply Kd.R_drew)); exact HO.out)); (case aS => exact (below_size (by repeat (first | (with_reducible first | exact HB.out | apply below_alloc | apply pw_below_drewN | apply below_drew1) | exact HB.out)))); (case aL => omega); intro v165 w31 ho hb hg hat; have n0_ := Aside0.mk (hb); have n1_ := Aside0.mk (ho); clear HB; clear HO; have HB := n0_; have HO166 := n1_; clear n0_ n1_; clear ho hb hg hat))
                      go_step3
                      refine ⟨rfl, k, Nat.lt_succ_self k, ⟨out ++ [(⟨a0, m, a1, m2 - m⟩ : S63)], m2, _, _, _, _, _, _, _, _, _, _, _, _, _, _, _, _, _, _, _, _, _, _, _, _, _, _, _, _, _, _, _, _, _, _, _, _, _, _, _, _, _, _, _, _, _, _, _, _, rfl, by omega, by omega, by simp; omega, HL3.out, HO166.out, HB.out⟩⟩
                  · rw [if_neg c1] at H
                    have d1 : decide (m2 < 32) = false := decide_eq_false c1
                    obtain rfl : m2 = q := Option.some.inj H
                    clear H c1 hu2
                    have hwz : wrap64 (m2 - m) = m2 - m := by unfold wrap64; omega
                    go_wp2_with (first | ((with_reducible refine gate_builtin (b := .append) (xs := #[.tmp 49, .tmp 51]) rfl ?_); refine Kd.R_append k63 (w0 := w) w.heap.size rfl (.tmp 49) (.tmp 51) 43 63 (.agg #[(.int .i64 0), (.int .i64 0), (.int .i64 0), (.int .i64 0)]) 32 rfl Try.underlying43 info63 rfl (by decide) (by omega) v7 out (⟨a0, m, a1, m2 - m⟩ : S63) [.int .i64 a0, .int .i64 m, .int .i64 a1, .int .i64 (m2 - m)] (fun _ => True) (fun _ => False) rfl (congrArg (fun b_ => Value.slice (some ⟨b_, 0, none⟩) 1 1) (show wr.heap.size + 1 = (wr.alloc (.cells #[.int .i64 a0, .int .i64 m, .int .i64 a1, .int .i64 (m2 - m)] 63 (0, 0))).heap.size by simp)) ?aP (fun _ hk => hk.elim) ?aF ?aO ?aB ?aS ?aL ?_; (case aP => exact k63_mkM _ _ _ (⟨a0, m, a1, m2 - m⟩ : S63)); (case aB => exact (by repeat (first | (with_reducible first | exact HB.out | apply below_alloc | apply pw_below_drewN | apply below_drew1) | exact HB.out))); (case aF => exact (fun _ _ => trivial)); (case aO => exact (by (with_reducible repeat (first | apply Kd.R_alloc | apply Kd.R_drewN | apply Kd.R_drew)); exact HO.out)); (case aS => exact (below_size (by repeat (first | (with_reducible first | exact HB.out | apply below_alloc | apply pw_below_drewN | apply below_drew1) | exact HB.out)))); (case aL => omega); intro v165 w31 ho hb hg hat; have n0_ := Aside0.mk (hb); have n1_ := Aside0.mk (ho); clear HB; clear HO; have HB := n0_; have HO166 := n1_; clear n0_ n1_; clear ho hb hg hat))
                    go_step3
                    refine ⟨rfl, k, Nat.lt_succ_self k, ⟨out ++ [(⟨a0, m, a1, m2 - m⟩ : S63)], m2, _, _, _, _, _, _, _, _, _, _, _, _, _, _, _, _, _, _, _, _, _, _, _, _, _, _, _, _, _, _, _, _, _, _, _, _, _, _, _, _, _, _, _, _, _, _, _, _, rfl, by omega, by omega, by simp; omega, HL3.out, HO166.out, HB.out⟩⟩
          · rw [if_neg c1] at H
            have d1 : decide (m < 32) = false := decide_eq_false c1
            obtain rfl : m = p := Option.some.inj H
            obtain rfl : m = 32 := by omega
            have HL2 := HL.out
            rw [if_pos rfl] at HL2
            obtain rfl := Option.some.inj HL2
            clear H c1 hu HL HL2 HP
            go_wp2_with (fail)
            simp only [Exit.jump]
            go_ret
            exact ⟨_, rfl, HO.out, HB.out⟩
  · intro HR
    cases g with
    | false =>
      obtain rfl : r = [] := by simpa using H0.out.symm
      go_wp2_with (go_at_call 51; refine (plane_Good.calls a0 0 a1 1 false _ HG.out).mono ?_; rintro e w1 ⟨rfl, hb⟩)
      simp only [Exit.jump]
      go_ret
      exact ⟨_, rfl, Kd.R_nil _ _ _ _ _, hb⟩
    | true =>
      have H1 : plane_Rows.l 40 a0 a1 a2 [] 0 = some r := by simpa using H0.out
      clear H0
      go_wp2_with (go_at_call 51; refine (plane_Good.calls a0 0 a1 1 true _ HG.out).mono ?_; rintro e w1 ⟨rfl, hb⟩)
      go_step3
      go_step
      rename_i aK
      exact aK _ _ <| HR 40 _ _ ⟨[], 0, _, _, _, _, _, _, _, _, _, _, _, _, _, _, _, _, _, _, _, _, _, _, _, _, _, _, _, _, _, _, _, _, _, _, _, _, _, _, _, _, _, _, _, _, _, _, _, _, rfl, by omega, by omega, by simp, H1, Kd.R_nil _ _ _ _ _, hb⟩
end Go.Proofs.Ytkhfgflcanmefaa.PAll
end
section
namespace Go.Proofs.Ytkhfgflcanmefaa.PAll
open Go.RowKit Go.Proofs.YtkhfgflcanmefaaW.PrintWords Go.Proofs.YtkhfgflcanmefaaW.PrintLast Go.Proofs.YtkhfgflcanmefaaW.PrintMore
attribute [local go_sem] max2_int min2_int max_two min_two max_three min_three max_four min_four   -- for this text's walks alone
set_option linter.unusedVariables false
set_option linter.unusedSimpArgs false

def slices_Clip_Box.f (l0 : List (S63)) : Option (List (S63)) := some l0
theorem slices_Clip_Box.cut (A : Option Addr) (n c : Nat) (hm : n ≤ c) : ∀ W : World, (Instr.slice 43 (.slice A n c) none (some (.int .i64 (n : Int))) (some (.int .i64 (n : Int)))).run Try.prog W = .ok (.slice A n n) W := by
  intro W
  obtain ⟨i0, hi, _, hsz, _⟩ := info_parts info63
  have ha : (A.map fun x => x.add 0) = A := by cases A <;> simp [Addr.add]
  have hn : (n : Int) ≤ (c : Int) := by omega
  simp [Instr.slice, run_underlying Try.underlying43, Instr.sliceBounds, run_sliceBound, sizeOf, typeInfo, hi, Result.andThen, ha, hn]
set_option maxHeartbeats 8000000 in
set_option maxRecDepth 100000 in
theorem slices_Clip_Box.calls (P0_ : Nat → Prop) (A0 : Option Addr) (c0 : Nat) (l0 : List (S63)) (r : List (S63)) (w : World) (hs0 : Kd.V k63 63 w w.heap.size (fun k_ => P0_ k_) (.slice A0 l0.length c0) l0) (h : slices_Clip_Box.f l0 = some r) :
    Calls Try.prog 44 #[.slice A0 l0.length c0] w fun e w' => ∃ v0_ : Value, e = .returned (v0_) ∧ Kd.V k63 63 w' w.heap.size (fun k_ => (P0_ k_ ∨ w.heap.size ≤ k_)) v0_ r ∧ Below w.heap.size w w' := by
  obtain rfl := Option.some.inj h
  have HO0 := Aside0.mk (show Kd.V k63 63 w w.heap.size (fun k_ => (P0_ k_ ∨ w.heap.size ≤ k_)) (.slice A0 l0.length l0.length) l0 from Kd.V_mk (Nat.le_refl _) (Kd.F_mono (Kd.V_F hs0) (fun k_ hk => .inl hk)))
  have hc := (Kd.V_reads' hs0).2.1
  have hcut := slices_Clip_Box.cut A0 l0.length c0 hc
  clear hs0 hc
  go_enter Try.func44, Try.ntmps44
  go_wp2
  go_ret
  exact ⟨_, rfl, HO0.out, Below.refl _ _⟩
end Go.Proofs.Ytkhfgflcanmefaa.PAll
end
section
namespace Go.Proofs.Ytkhfgflcanmefaa.PAll
open Go.RowKit Go.Proofs.YtkhfgflcanmefaaW.PrintWords Go.Proofs.YtkhfgflcanmefaaW.PrintLast Go.Proofs.YtkhfgflcanmefaaW.PrintMore
attribute [local go_sem] max2_int min2_int max_two min_two max_three min_three max_four min_four   -- for this text's walks alone
set_option linter.unusedVariables false
set_option linter.unusedSimpArgs false

def job_Boxes.l0 : Nat → List (S63) → List (S32) → Int → Int → Option ((List (S63)))
 | 0, _, _, _, _ => none
 | k + 1, x3, x7, x8, x9 => if x9 < x8 then (if 0 ≤ x9 then (if x9 < (x7.length : Int) then ((plane_Rows.f ((rd_T32 x7 x9).f8) ((rd_T32 x7 x9).f3) ((rd_T32 x7 x9).f9)).bind fun t258 => (if x3.length + t258.length < 4398046511104 then (job_Boxes.l0 k (x3 ++ t258) x7 x8 (wrap64 (x9 + 1))) else (none))) else (none)) else (none)) else ((slices_Clip_Box.f x3).bind fun t264 => (some t264))
def job_Boxes.f (k : Nat) (l0 : List (S32)) : Option ((List (S63))) := (job_running.f k l0).bind fun t253 => (job_Boxes.l0 k ([] : List (S63)) t253 (t253.length : Int) 0)
theorem job_Boxes.mono_l : ∀ k, (∀ y0 y1 y2 y3, LeO (job_Boxes.l0 k y0 y1 y2 y3) (job_Boxes.l0 (k + 1) y0 y1 y2 y3))
 | 0 => fun _ _ _ _ r h => by simp [job_Boxes.l0] at h
 | k + 1 => by
  have ih0 := job_Boxes.mono_l k
  ·intro y0 y1 y2 y3
   unfold job_Boxes.l0
   repeat' first
   | (with_reducible exact ih0 _ _ _ _)
   | (with_reducible exact job_running.mono _ _)
   | (with_reducible exact LeO.refl _)
   | (with_reducible exact LeO.none _)
   | (with_reducible refine LeO.ite ?_ ?_)
   | (with_reducible refine LeO.bind ?_ (fun _ => ?_))
   | exact ih0 _ _ _ _
   | exact job_running.mono _ _
   | exact LeO.none _
   | refine LeO.ite ?_ ?_
   | refine LeO.bind ?_ (fun _ => ?_)
theorem job_Boxes.mono : ∀ a0 k, LeO (job_Boxes.f k a0) (job_Boxes.f (k + 1) a0) := by
 intro a0 k
 have ih0 := job_Boxes.mono_l k
 unfold job_Boxes.f
 repeat' first
   | (with_reducible exact ih0 _ _ _ _)
   | (with_reducible exact job_running.mono _ _)
   | (with_reducible exact LeO.refl _)
   | (with_reducible exact LeO.none _)
   | (with_reducible refine LeO.ite ?_ ?_)
   | (with_reducible refine LeO.bind ?_ (fun _ => ?_))
   | exact ih0 _ _ _ _
   | exact job_running.mono _ _
   | exact LeO.none _
   | refine LeO.ite ?_ ?_
   | refine LeO.bind ?_ (fun _ => ?_)
set_option maxHeartbeats 8000000 in
set_option maxRecDepth 100000 in
theorem job_Boxes.calls (k : Nat) (A0 : Option Addr) (c0 : Nat) (l0 : List (S32)) (r : List (S63)) (w : World) (hr0 : Kd.C k32 w A0 l0.length l0) (hc0 : l0.length ≤ c0) (h : job_Boxes.f k l0 = some r) :
  Calls Try.prog 25 #[.slice A0 l0.length c0] w fun e w' => ∃ v0_ : Value, e = .returned (v0_) ∧ Kd.V k63 63 w' w.heap.size (fun k_ => (w.heap.size ≤ k_)) v0_ r ∧ Below w.heap.size w w' := by
 have hu32 := Try.underlying32
 have HR0 := Aside0.mk hr0
 have HC0 := Aside0.mk hc0
 clear hr0; clear hc0
 have HB := Aside0.mk (Below.refl w.heap.size w)
 have H : ((job_running.f k l0).bind fun t253 => (job_Boxes.l0 k ([] : List (S63)) t253 (t253.length : Int) 0)) = some r := h
 clear h
 replace H := Option.bind_eq_some_iff.mp H
 obtain ⟨t253, A20, H⟩ := H
 replace H : (job_Boxes.l0 k ([] : List (S63)) t253 (t253.length : Int) 0) = some r := H
 have A2 := Aside0.mk A20
 clear A20
 have H' := Aside0.mk H
 clear H
 go_enter Try.func25, Try.ntmps25
 go_wp2_with (first | ((with_reducible refine gate_callee (f := 41) rfl ?_); refine goesL_ (some 7) rfl rfl Try.func41 (by kernel_rfl) rfl #[.slice A0 l0.length c0] rfl mt ?_; (with_reducible refine (job_running.calls k _ _ l0 t253 _ ?side1 ?side2 A2.out).mono ?_); (case side1 => exact mC HR0.out); (case side2 => exact HC0.out); rintro e w3 ⟨v254, rfl, ho0, hb⟩; refine ⟨_, rfl, ?_⟩; have n0_ := Aside0.mk (Kd.R_lower (Kd.R_newM (M := fun k_ => (w.heap.size ≤ k_)) ho0 (below_size (mB HB.out)) (fun k_ h_ => h_)) (below_size (mB HB.out))); have n1_ := Aside0.mk (below_step (mB HB.out) hb); clear HB; have HO255 := n0_; have HB := n1_; clear n0_ n1_; (try clear hb); (try clear hb2); (try clear hk); (try clear hi); (try clear ho0); obtain ⟨Ao4, co4, eo4⟩ := Kd.R_slice HO255.out; subst eo4))
 go_loopg [3, 9] k (fun kq v3 v9 w' => ∃ (x3_1 : List (S63)) (x9_1 : Int), v9 = .int .i64 x9_1 ∧ Aside0 (job_Boxes.l0 kq x3_1 t253 (t253.length : Int) x9_1 = some r) ∧ Aside0 (kq ≤ k) ∧ Aside0 (Kd.R k63 63 w' w.heap.size (fun k_ => (w.heap.size ≤ k_)) v3 x3_1) ∧ Aside0 (Kd.R k32 32 w' w.heap.size (fun k_ => (w.heap.size ≤ k_)) (.slice Ao4 t253.length co4) t253) ∧ Aside0 (Below w.heap.size w w'))
 case atStart => exact ⟨(([] : List (S63))), (0), ez, H', ⟨Nat.le_refl _⟩, ⟨by first | exact Kd.R_nil _ _ _ _ _ | exact Kd.N_nil _ _ _ _ _ | exact Kd.V_nil _ _ _ _ _ | exact Kd.Q_nil _ _ _ _ _ | exact Kd.S_nil _ _ _ _ _⟩, ⟨by (with_reducible repeat (first | apply Kd.R_alloc | apply Kd.R_drewN | apply Kd.R_drew)); exact Kd.R_mono HO255.out (fun _ hk => hk.1)⟩, ⟨mB HB.out⟩⟩
 case round =>
  clear H'
  (try clear c2); (try clear p2); (try clear c4)
  obtain ⟨x3_1, x9_1, rfl, HA, HK1, HO_3, HO_7, HB⟩ := hrel
  cases gk with
  | zero => exact absurd HA.out (by simp [job_Boxes.l0])
  | succ k1 =>
   have H := HA.out
   clear HA
   simp only [job_Boxes.l0] at H
   by_cases c5 : x9_1 < (t253.length : Int)
   ·rw [if_pos c5] at H
    have c5b0 : decide (x9_1 < (t253.length : Int)) = true := decide_eq_true c5
    clear c5
    by_cases c6 : 0 ≤ x9_1
    ·rw [if_pos c6] at H
     have c6b0 : decide (0 ≤ x9_1) = true := decide_eq_true c6
     clear c6
     by_cases c7 : x9_1 < (t253.length : Int)
     ·rw [if_pos c7] at H
      have c7b0 : decide (x9_1 < (t253.length : Int)) = true := decide_eq_true c7
      clear c7
      replace H := Option.bind_eq_some_iff.mp H
      obtain ⟨t258, A80, H⟩ := H
      replace H : (if x3_1.length + t258.length < 4398046511104 then (job_Boxes.l0 k1 (x3_1 ++ t258) t253 (t253.length : Int) (wrap64 (x9_1 + 1))) else (none)) = some r := H
      have A8 := Aside0.mk A80
      clear A80
      by_cases c9 : x3_1.length + t258.length < 4398046511104
      ·rw [if_pos c9] at H
       have LMc9 := Aside0.mk c9
       clear c9
       obtain ⟨y261, hy261⟩ : ∃ y_ : List (S63), y_ = (x3_1 ++ t258) := ⟨_, rfl⟩
       replace H : (job_Boxes.l0 k1 y261 t253 (t253.length : Int) (wrap64 (x9_1 + 1))) = some r := mH hy261 H
       have Ny261 := Aside0.mk hy261
       clear hy261
       have H' := Aside0.mk H
       clear H
       have p256 : 0 ≤ (x9_1 : Int) := oda
       have q256 : x9_1 < (t253.length : Int) := oda
       obtain ⟨ad256, e256, hx256_0, hx256_1, hx256_2, hx256_3, hx256_4, hx256_5, hx256_6, hx256_7, hx256_8, hx256_9, hx256_10, hx256_11⟩ := at_T32 (Kd.R_reads' HO_7.out).2.2 x9_1 p256 q256
       cases e256
       replace p256 := eq_true p256
       replace q256 := eq_true q256
       go_wp2_with (first | ((with_reducible refine gate_dst (N := 5) rfl ?_); refine box_event ?hg (N := 5) ?hd (cs := #[.int .i64 0, .int .i64 0, .int .i64 0, .int .i64 0, .int .i64 0, .int .i64 0, .int .i64 0, .int .i64 0, .int .i64 0, .int .i64 0, .int .i64 0, .slice none 0 0]) (t := 32) ?hr ?_; (case hd => rfl); (case hg => rfl); (case hr => first | (go_simp; done) | (go_simp; rfl)); intro gb257 hg w10 hbox hb; have n0_ := Aside0.mk (Kd.R_below (mR HO_3.out) hb); have n1_ := Aside0.mk (Kd.R_below (Kd.R_elderB (mR HO_7.out) gb257 (Nat.le_of_eq hg.symm)) hb); have n2_ := Aside0.mk (below_step (mB HB.out) hb); have n3_ := Aside0.mk (hbox); have n4_ := Aside0.mk ((by rw [hg]; exact (below_size (mB HB.out)) : w.heap.size ≤ gb257)); have n5_ := Aside0.mk ((by rw [hg]; exact (below_size (mB HB.out)) : w.heap.size ≤ gb257)); clear HO_3; clear HO_7; clear HB; have HO_3 := n0_; have HO_7 := n1_; have HB := n2_; have BK257 := n3_; have GW257 := n4_; have GE257 := n5_; clear n0_ n1_ n2_ n3_ n4_ n5_; clear hb hbox hg; have hcz11_0 : w10.cell? ⟨gb257, 0, none⟩ = some (.int .i64 0) := (blk_cell BK257.out 0).trans rfl; have hcz11_1 : w10.cell? ⟨gb257, 1, none⟩ = some (.int .i64 0) := (blk_cell BK257.out 1).trans rfl; have hcz11_2 : w10.cell? ⟨gb257, 2, none⟩ = some (.int .i64 0) := (blk_cell BK257.out 2).trans rfl; have hcz11_3 : w10.cell? ⟨gb257, 3, none⟩ = some (.int .i64 0) := (blk_cell BK257.out 3).trans rfl; have hcz11_4 : w10.cell? ⟨gb257, 4, none⟩ = some (.int .i64 0) := (blk_cell BK257.out 4).trans rfl; have hcz11_5 : w10.cell? ⟨gb257, 5, none⟩ = some (.int .i64 0) := (blk_cell BK257.out 5).trans rfl; have hcz11_6 : w10.cell? ⟨gb257, 6, none⟩ = some (.int .i64 0) := (blk_cell BK257.out 6).trans rfl; have hcz11_7 : w10.cell? ⟨gb257, 7, none⟩ = some (.int .i64 0) := (blk_cell BK257.out 7).trans rfl; have hcz11_8 : w10.cell? ⟨gb257, 8, none⟩ = some (.int .i64 0) := (blk_cell BK257.out 8).trans rfl; have hcz11_9 : w10.cell? ⟨gb257, 9, none⟩ = some (.int .i64 0) := (blk_cell BK257.out 9).trans rfl; have hcz11_10 : w10.cell? ⟨gb257, 10, none⟩ = some (.int .i64 0) := (blk_cell BK257.out 10).trans rfl; have hcz11_11 : w10.cell? ⟨gb257, 11, none⟩ = some (.slice none 0 0) := (blk_cell BK257.out 11).trans rfl; have hfz11_0 := blk_frozen BK257.out 0; have hfz11_1 := blk_frozen BK257.out 1; have hfz11_2 := blk_frozen BK257.out 2; have hfz11_3 := blk_frozen BK257.out 3; have hfz11_4 := blk_frozen BK257.out 4; have hfz11_5 := blk_frozen BK257.out 5; have hfz11_6 := blk_frozen BK257.out 6; have hfz11_7 := blk_frozen BK257.out 7; have hfz11_8 := blk_frozen BK257.out 8; have hfz11_9 := blk_frozen BK257.out 9; have hfz11_10 := blk_frozen BK257.out 10; have hfz11_11 := blk_frozen BK257.out 11) | ((with_reducible refine gate_callee (f := 43) rfl ?_); refine goesL_ (some 20) rfl rfl Try.func43 (by kernel_rfl) rfl #[.int .i64 ((rd_T32 t253 x9_1).f8), .int .i64 ((rd_T32 t253 x9_1).f3), .int .i64 ((rd_T32 t253 x9_1).f9)] rfl mt ?_; (with_reducible refine (plane_Rows.calls ((rd_T32 t253 x9_1).f8) ((rd_T32 t253 x9_1).f3) ((rd_T32 t253 x9_1).f9) t258 _ A8.out).mono ?_); rintro e w12 ⟨v259, rfl, ho0, hb⟩; refine ⟨_, rfl, ?_⟩; have n0_ := Aside0.mk (Kd.R_elder' (by (with_reducible repeat (first | apply Kd.R_alloc | apply Kd.R_drewN | apply Kd.R_drew)); exact (Kd.R_mono (Kd.R_fa gb257 11 (Kd.R_fa gb257 10 (Kd.R_fa gb257 9 (Kd.R_fa gb257 8 (Kd.R_fa gb257 7 (Kd.R_fa gb257 6 (Kd.R_fa gb257 5 (Kd.R_fa gb257 4 (Kd.R_fa gb257 3 (Kd.R_fa gb257 2 (Kd.R_fa gb257 1 (Kd.R_fa gb257 0 (Kd.R_types HO_3.out BK257.out (by decide)) (.int .i64 ((rd_T32 t253 x9_1).f0))) (.int .i64 ((rd_T32 t253 x9_1).f1))) (.int .i64 ((rd_T32 t253 x9_1).f2))) (.int .i64 ((rd_T32 t253 x9_1).f3))) (.int .i64 ((rd_T32 t253 x9_1).f4))) (.int .i64 ((rd_T32 t253 x9_1).f5))) (.int .i64 ((rd_T32 t253 x9_1).f6))) (.int .i64 ((rd_T32 t253 x9_1).f7))) (.int .i64 ((rd_T32 t253 x9_1).f8))) (.int .i64 ((rd_T32 t253 x9_1).f9))) (.int .i64 ((rd_T32 t253 x9_1).f10))) (.slice ((rd_T32 t253 x9_1).f11).A ((rd_T32 t253 x9_1).f11).n ((rd_T32 t253 x9_1).f11).c)) (fun _ h_ => h_.1))) (Kd.R_base ho0) hb); have n1_ := Aside0.mk (Kd.R_below (by (with_reducible repeat (first | apply Kd.R_alloc | apply Kd.R_drewN | apply Kd.R_drew)); exact (Kd.R_mono (Kd.R_fa gb257 11 (Kd.R_fa gb257 10 (Kd.R_fa gb257 9 (Kd.R_fa gb257 8 (Kd.R_fa gb257 7 (Kd.R_fa gb257 6 (Kd.R_fa gb257 5 (Kd.R_fa gb257 4 (Kd.R_fa gb257 3 (Kd.R_fa gb257 2 (Kd.R_fa gb257 1 (Kd.R_fa gb257 0 (Kd.R_mono HO_7.out (fun k_ hk => (⟨hk, hk.2⟩ : _ ∧ k_ ≠ gb257))) (.int .i64 ((rd_T32 t253 x9_1).f0))) (.int .i64 ((rd_T32 t253 x9_1).f1))) (.int .i64 ((rd_T32 t253 x9_1).f2))) (.int .i64 ((rd_T32 t253 x9_1).f3))) (.int .i64 ((rd_T32 t253 x9_1).f4))) (.int .i64 ((rd_T32 t253 x9_1).f5))) (.int .i64 ((rd_T32 t253 x9_1).f6))) (.int .i64 ((rd_T32 t253 x9_1).f7))) (.int .i64 ((rd_T32 t253 x9_1).f8))) (.int .i64 ((rd_T32 t253 x9_1).f9))) (.int .i64 ((rd_T32 t253 x9_1).f10))) (.slice ((rd_T32 t253 x9_1).f11).A ((rd_T32 t253 x9_1).f11).n ((rd_T32 t253 x9_1).f11).c)) (fun _ h_ => h_.1))) hb); have n2_ := Aside0.mk (Kd.R_lower (Kd.R_new' (Kd.R_newM (M := fun k_ => (w.heap.size ≤ k_)) ho0 (below_size (mBs HB.out)) (fun k_ h_ => h_)) (Kd.R_lt (by (with_reducible repeat (first | apply Kd.R_alloc | apply Kd.R_drewN | apply Kd.R_drew)); exact (Kd.R_mono (Kd.R_fa gb257 11 (Kd.R_fa gb257 10 (Kd.R_fa gb257 9 (Kd.R_fa gb257 8 (Kd.R_fa gb257 7 (Kd.R_fa gb257 6 (Kd.R_fa gb257 5 (Kd.R_fa gb257 4 (Kd.R_fa gb257 3 (Kd.R_fa gb257 2 (Kd.R_fa gb257 1 (Kd.R_fa gb257 0 (Kd.R_types HO_3.out BK257.out (by decide)) (.int .i64 ((rd_T32 t253 x9_1).f0))) (.int .i64 ((rd_T32 t253 x9_1).f1))) (.int .i64 ((rd_T32 t253 x9_1).f2))) (.int .i64 ((rd_T32 t253 x9_1).f3))) (.int .i64 ((rd_T32 t253 x9_1).f4))) (.int .i64 ((rd_T32 t253 x9_1).f5))) (.int .i64 ((rd_T32 t253 x9_1).f6))) (.int .i64 ((rd_T32 t253 x9_1).f7))) (.int .i64 ((rd_T32 t253 x9_1).f8))) (.int .i64 ((rd_T32 t253 x9_1).f9))) (.int .i64 ((rd_T32 t253 x9_1).f10))) (.slice ((rd_T32 t253 x9_1).f11).A ((rd_T32 t253 x9_1).f11).n ((rd_T32 t253 x9_1).f11).c)) (fun _ h_ => h_.1))))) (below_size (mBs HB.out))); have n3_ := Aside0.mk (blk_below (g := gb257) (o := .cells #[.int .i64 ((rd_T32 t253 x9_1).f0), .int .i64 ((rd_T32 t253 x9_1).f1), .int .i64 ((rd_T32 t253 x9_1).f2), .int .i64 ((rd_T32 t253 x9_1).f3), .int .i64 ((rd_T32 t253 x9_1).f4), .int .i64 ((rd_T32 t253 x9_1).f5), .int .i64 ((rd_T32 t253 x9_1).f6), .int .i64 ((rd_T32 t253 x9_1).f7), .int .i64 ((rd_T32 t253 x9_1).f8), .int .i64 ((rd_T32 t253 x9_1).f9), .int .i64 ((rd_T32 t253 x9_1).f10), .slice ((rd_T32 t253 x9_1).f11).A ((rd_T32 t253 x9_1).f11).n ((rd_T32 t253 x9_1).f11).c] 32 (0, 0)) (by (with_reducible repeat first | apply blk_drewN | apply blk_drew | apply blk_alloc); refine blk_put (cs := #[.int .i64 ((rd_T32 t253 x9_1).f0), .int .i64 ((rd_T32 t253 x9_1).f1), .int .i64 ((rd_T32 t253 x9_1).f2), .int .i64 ((rd_T32 t253 x9_1).f3), .int .i64 ((rd_T32 t253 x9_1).f4), .int .i64 ((rd_T32 t253 x9_1).f5), .int .i64 ((rd_T32 t253 x9_1).f6), .int .i64 ((rd_T32 t253 x9_1).f7), .int .i64 ((rd_T32 t253 x9_1).f8), .int .i64 ((rd_T32 t253 x9_1).f9), .int .i64 ((rd_T32 t253 x9_1).f10), .slice none 0 0]) ?_ 11 _ rfl; (with_reducible repeat first | apply blk_drewN | apply blk_drew | apply blk_alloc); refine blk_put (cs := #[.int .i64 ((rd_T32 t253 x9_1).f0), .int .i64 ((rd_T32 t253 x9_1).f1), .int .i64 ((rd_T32 t253 x9_1).f2), .int .i64 ((rd_T32 t253 x9_1).f3), .int .i64 ((rd_T32 t253 x9_1).f4), .int .i64 ((rd_T32 t253 x9_1).f5), .int .i64 ((rd_T32 t253 x9_1).f6), .int .i64 ((rd_T32 t253 x9_1).f7), .int .i64 ((rd_T32 t253 x9_1).f8), .int .i64 ((rd_T32 t253 x9_1).f9), .int .i64 0, .slice none 0 0]) ?_ 10 _ rfl; (with_reducible repeat first | apply blk_drewN | apply blk_drew | apply blk_alloc); refine blk_put (cs := #[.int .i64 ((rd_T32 t253 x9_1).f0), .int .i64 ((rd_T32 t253 x9_1).f1), .int .i64 ((rd_T32 t253 x9_1).f2), .int .i64 ((rd_T32 t253 x9_1).f3), .int .i64 ((rd_T32 t253 x9_1).f4), .int .i64 ((rd_T32 t253 x9_1).f5), .int .i64 ((rd_T32 t253 x9_1).f6), .int .i64 ((rd_T32 t253 x9_1).f7), .int .i64 ((rd_T32 t253 x9_1).f8), .int .i64 0, .int .i64 0, .slice none 0 0]) ?_ 9 _ rfl; (with_reducible repeat first | apply blk_drewN | apply blk_drew | apply blk_alloc); refine blk_put (cs := #[.int .i64 ((rd_T32 t253 x9_1).f0), .int .i64 ((rd_T32 t253 x9_1).f1), .int .i64 ((rd_T32 t253 x9_1).f2), .int .i64 ((rd_T32 t253 x9_1).f3), .int .i64 ((rd_T32 t253 x9_1).f4), .int .i64 ((rd_T32 t253 x9_1).f5), .int .i64 ((rd_T32 t253 x9_1).f6), .int .i64 ((rd_T32 t253 x9_1).f7), .int .i64 0, .int .i64 0, .int .i64 0, .slice none 0 0]) ?_ 8 _ rfl; (with_reducible repeat first | apply blk_drewN | apply blk_drew | apply blk_alloc); refine blk_put (cs := #[.int .i64 ((rd_T32 t253 x9_1).f0), .int .i64 ((rd_T32 t253 x9_1).f1), .int .i64 ((rd_T32 t253 x9_1).f2), .int .i64 ((rd_T32 t253 x9_1).f3), .int .i64 ((rd_T32 t253 x9_1).f4), .int .i64 ((rd_T32 t253 x9_1).f5), .int .i64 ((rd_T32 t253 x9_1).f6), .int .i64 0, .int .i64 0, .int .i64 0, .int .i64 0, .slice none 0 0]) ?_ 7 _ rfl; (with_reducible repeat first | apply blk_drewN | apply blk_drew | apply blk_alloc); refine blk_put (cs := #[.int .i64 ((rd_T32 t253 x9_1).f0), .int .i64 ((rd_T32 t253 x9_1).f1), .int .i64 ((rd_T32 t253 x9_1).f2), .int .i64 ((rd_T32 t253 x9_1).f3), .int .i64 ((rd_T32 t253 x9_1).f4), .int .i64 ((rd_T32 t253 x9_1).f5), .int .i64 0, .int .i64 0, .int .i64 0, .int .i64 0, .int .i64 0, .slice none 0 0]) ?_ 6 _ rfl; (with_reducible repeat first | apply blk_drewN | apply blk_drew | apply blk_alloc); refine blk_put (cs := #[.int .i64 ((rd_T32 t253 x9_1).f0), .int .i64 ((rd_T32 t253 x9_1).f1), .int .i64 ((rd_T32 t253 x9_1).f2), .int .i64 ((rd_T32 t253 x9_1).f3), .int .i64 ((rd_T32 t253 x9_1).f4), .int .i64 0, .int .i64 0, .int .i64 0, .int .i64 0, .int .i64 0, .int .i64 0, .slice none 0 0]) ?_ 5 _ rfl; (with_reducible repeat first | apply blk_drewN | apply blk_drew | apply blk_alloc); refine blk_put (cs := #[.int .i64 ((rd_T32 t253 x9_1).f0), .int .i64 ((rd_T32 t253 x9_1).f1), .int .i64 ((rd_T32 t253 x9_1).f2), .int .i64 ((rd_T32 t253 x9_1).f3), .int .i64 0, .int .i64 0, .int .i64 0, .int .i64 0, .int .i64 0, .int .i64 0, .int .i64 0, .slice none 0 0]) ?_ 4 _ rfl; (with_reducible repeat first | apply blk_drewN | apply blk_drew | apply blk_alloc); refine blk_put (cs := #[.int .i64 ((rd_T32 t253 x9_1).f0), .int .i64 ((rd_T32 t253 x9_1).f1), .int .i64 ((rd_T32 t253 x9_1).f2), .int .i64 0, .int .i64 0, .int .i64 0, .int .i64 0, .int .i64 0, .int .i64 0, .int .i64 0, .int .i64 0, .slice none 0 0]) ?_ 3 _ rfl; (with_reducible repeat first | apply blk_drewN | apply blk_drew | apply blk_alloc); refine blk_put (cs := #[.int .i64 ((rd_T32 t253 x9_1).f0), .int .i64 ((rd_T32 t253 x9_1).f1), .int .i64 0, .int .i64 0, .int .i64 0, .int .i64 0, .int .i64 0, .int .i64 0, .int .i64 0, .int .i64 0, .int .i64 0, .slice none 0 0]) ?_ 2 _ rfl; (with_reducible repeat first | apply blk_drewN | apply blk_drew | apply blk_alloc); refine blk_put (cs := #[.int .i64 ((rd_T32 t253 x9_1).f0), .int .i64 0, .int .i64 0, .int .i64 0, .int .i64 0, .int .i64 0, .int .i64 0, .int .i64 0, .int .i64 0, .int .i64 0, .int .i64 0, .slice none 0 0]) ?_ 1 _ rfl; (with_reducible repeat first | apply blk_drewN | apply blk_drew | apply blk_alloc); refine blk_put (cs := #[.int .i64 0, .int .i64 0, .int .i64 0, .int .i64 0, .int .i64 0, .int .i64 0, .int .i64 0, .int .i64 0, .int .i64 0, .int .i64 0, .int .i64 0, .slice none 0 0]) ?_ 0 _ rfl; (with_reducible repeat first | apply blk_drewN | apply blk_drew | apply blk_alloc); exact BK257.out) hb); have n4_ := Aside0.mk (below_step (mBs HB.out) hb); clear HO_3; clear HO_7; clear BK257; clear HB; have HO_3 := n0_; have HO_7 := n1_; have HO260 := n2_; have BK257 := n3_; have HB := n4_; clear n0_ n1_ n2_ n3_ n4_; (try clear hb); (try clear hb2); (try clear hk); (try clear hi); (try clear ho0); obtain ⟨Ao14, co14, eo14⟩ := Kd.R_slice HO260.out; subst eo14) | ((with_reducible refine gate_builtin (b := .append) (xs := #[.tmp 13, .tmp 20]) rfl ?_); at_builtin; refine Kd.R_append_rows k63 (w0 := w) w.heap.size rfl (.tmp 13) (.tmp 20) 43 63 (.agg #[(.int .i64 0), (.int .i64 0), (.int .i64 0), (.int .i64 0)]) 32 rfl Try.underlying43 info63 rfl (by decide) (by omega) u3 x3_1 t258 _ _ _ (fun k_ => (w.heap.size ≤ k_) ∧ some k_ ≠ (.slice Ao14 t258.length co14 : Value).ownBlock) (fun _ => False) rfl rfl ?aO ?aR (fun _ _ h => h) (fun _ h => h.elim) ?aF ?aB ?aS ?aL ?_; (case aR => repeat (first | exact (Kd.R_reads' HO260.out).2.2 | (with_reducible refine Kd.C_alloc ?_ _) | (with_reducible refine Kd.C_drewN ?_ _) | (with_reducible refine Kd.C_drew ?_))); (case aB => exact (mBs HB.out)); (case aF => exact (fun k_ hk => ⟨(Nat.le_trans (below_size (mBs HB.out)) hk), Kd.fresh' (Kd.R_lt (mR HO260.out)) k_ hk⟩)); (case aO => exact (mR HO_3.out)); (case aS => exact (below_size (mBs HB.out))); (case aL => have := LMc9.out; omega); intro v262 w13 ho hb hg hat; rw [← Ny261.out] at ho; have n0_ := Aside0.mk (Kd.R_over' (mR HO_7.out) (Kd.R_typed (mR HO_3.out)) (by decide) hg); have n1_ := Aside0.mk (blk_grown (g := gb257) (o := .cells #[.int .i64 ((rd_T32 t253 x9_1).f0), .int .i64 ((rd_T32 t253 x9_1).f1), .int .i64 ((rd_T32 t253 x9_1).f2), .int .i64 ((rd_T32 t253 x9_1).f3), .int .i64 ((rd_T32 t253 x9_1).f4), .int .i64 ((rd_T32 t253 x9_1).f5), .int .i64 ((rd_T32 t253 x9_1).f6), .int .i64 ((rd_T32 t253 x9_1).f7), .int .i64 ((rd_T32 t253 x9_1).f8), .int .i64 ((rd_T32 t253 x9_1).f9), .int .i64 ((rd_T32 t253 x9_1).f10), .slice ((rd_T32 t253 x9_1).f11).A ((rd_T32 t253 x9_1).f11).n ((rd_T32 t253 x9_1).f11).c] 32 (0, 0)) (mBK BK257.out) hg (Kd.R_ne HO_3.out BK257.out (by decide))); have n2_ := Aside0.mk (Kd.R_after (ok := (fun k_ => (w.heap.size ≤ k_))) (by (with_reducible repeat (first | apply Kd.R_alloc | apply Kd.R_drewN | apply Kd.R_drew)); exact Kd.R_mono HO260.out (fun _ hk => ⟨hk.1.1, hk.2⟩)) hg hat); have n3_ := Aside0.mk (hb); have n4_ := Aside0.mk (ho); clear HO_7; clear BK257; clear HO260; clear HB; clear HO_3; have HO_7 := n0_; have BK257 := n1_; have HO260 := n2_; have HB := n3_; have HO263 := n4_; clear n0_ n1_ n2_ n3_ n4_; clear ho hb hg hat))
       go_roundg k1
       case measure => have := HK1.out; omega
       case rel => exact ⟨(y261), (wrap64 (x9_1 + 1)), ez, H', ⟨by have := HK1.out; omega⟩, ⟨by (with_reducible repeat (first | apply Kd.R_alloc | apply Kd.R_drewN | apply Kd.R_drew)); exact Kd.R_mono HO263.out (fun _ hk => hk.1)⟩, ⟨by (with_reducible repeat (first | apply Kd.R_alloc | apply Kd.R_drewN | apply Kd.R_drew)); exact Kd.R_mono HO_7.out (fun _ hk => hk.1)⟩, ⟨mBs HB.out⟩⟩
      ·rw [if_neg c9] at H
       exact absurd H (by simp)
     ·rw [if_neg c7] at H
      exact absurd H (by simp)
    ·rw [if_neg c6] at H
     exact absurd H (by simp)
   ·rw [if_neg c5] at H
    have c5b0 : decide (x9_1 < (t253.length : Int)) = false := decide_eq_false c5
    clear c5
    replace H := Option.bind_eq_some_iff.mp H
    obtain ⟨t264, A150, H⟩ := H
    replace H : (some t264) = some r := H
    have A15 := Aside0.mk A150
    clear A150
    obtain rfl := Option.some.inj H
    obtain ⟨Ao16, co16, eo16⟩ := Kd.R_slice HO_3.out
    subst eo16
    go_wp2_with (first | ((with_reducible refine gate_callee (f := 44) rfl ?_); refine goesL_ (some 24) rfl rfl Try.func44 (by kernel_rfl) rfl #[.slice Ao16 x3_1.length co16] rfl mt ?_; (with_reducible refine (slices_Clip_Box.calls (fun k_ => some k_ = (.slice Ao16 x3_1.length co16 : Value).ownBlock) _ _ x3_1 t264 _ ?side1 A15.out).mono ?_); (case side1 => exact Kd.R_V (Kd.R_tight rfl (Kd.R_apart' (HO_3.out) (Kd.R_typed HO_7.out) (by decide)))); rintro e w17 ⟨v265, rfl, ho0, hb⟩; refine ⟨_, rfl, ?_⟩; have n0_ := Aside0.mk (Kd.R_below (mR HO_3.out) hb); have n1_ := Aside0.mk (Kd.R_below (mR HO_7.out) hb); have n2_ := Aside0.mk (Kd.V_lower (Kd.V_mono (ok' := fun k_ => (w.heap.size ≤ k_) ∧ some k_ ≠ (.slice Ao4 t253.length co4 : Value).ownBlock) ho0 (fun k_ hk_ => ⟨Or.elim hk_ (fun hs_ => ((Kd.R_apart' (HO_3.out) (Kd.R_typed HO_7.out) (by decide)).1 k_ hs_.symm).1) (fun hn_ => (Nat.le_trans (below_size (mB HB.out)) hn_)), Or.elim hk_ (fun hs_ => ((Kd.R_apart' (HO_3.out) (Kd.R_typed HO_7.out) (by decide)).1 k_ hs_.symm).2) (fun hn_ => (Kd.fresh' (Kd.R_lt (mR HO_7.out)) k_ hn_))⟩)) (below_size (mB HB.out))); have n3_ := Aside0.mk (below_step (mB HB.out) hb); clear HO_3; clear HO_7; clear HB; have HO_3 := n0_; have HO_7 := n1_; have HO266 := n2_; have HB := n3_; clear n0_ n1_ n2_ n3_; (try clear hb); (try clear hb2); (try clear hk); (try clear hi); (try clear ho0)))
    go_ret
    exact ⟨_, by first | rfl | (simp [errW_none, errW_some] <;> rfl) | (simp [*, errW_none, errW_some] <;> rfl), by (with_reducible repeat (first | apply Kd.V_alloc | apply Kd.V_drewN | apply Kd.V_drew)); exact Kd.V_mono HO266.out (fun _ hk => hk.1), by repeat (first | (with_reducible first | exact HB.out | apply below_alloc | apply pw_below_drewN | apply below_drew1) | exact HB.out)⟩

end Go.Proofs.Ytkhfgflcanmefaa.PAll
end
section
namespace Go.Proofs.Ytkhfgflcanmefaa.PAll
open Go.RowKit Go.Proofs.YtkhfgflcanmefaaW.PrintWords Go.Proofs.YtkhfgflcanmefaaW.PrintLast Go.Proofs.YtkhfgflcanmefaaW.PrintMore
attribute [local go_sem] max2_int min2_int max_two min_two max_three min_three max_four min_four   -- for this text's walks alone
set_option linter.unusedVariables false
set_option linter.unusedSimpArgs false

def job_in.f (a0 : Int) (a1 : Int) (a2 : Int) : Option (Bool) := if a0 ≥ a1 then (some (decide (a0 ≤ a2))) else (some false)
set_option maxHeartbeats 8000000 in
set_option maxRecDepth 100000 in
theorem job_in.calls (a0 : Int) (a1 : Int) (a2 : Int) (r : Bool) (w : World) (h : job_in.f a0 a1 a2 = some r) :
    Calls Try.prog 48 #[.int .i64 a0, .int .i64 a1, .int .i64 a2] w fun e w' => e = .returned (.bool r) ∧ Drawn0 w w' := by
  have H : (if a0 ≥ a1 then (some (decide (a0 ≤ a2))) else (some false)) = some r := h
  clear h
  by_cases c4 : a0 ≥ a1
  · rw [if_pos c4] at H
    have c4b0 : decide (a1 ≤ a0) = true := decide_eq_true c4
    clear c4
    obtain rfl := Option.some.inj H
    go_enter Try.func48, Try.ntmps48
    go_wp2
    go_ret
    exact ⟨by first | rfl | (simp; done) | (simp [*]; done), by repeat (first | exact Drawn0.refl _ | apply Drawn0.step)⟩
  · rw [if_neg c4] at H
    have c4b0 : decide (a1 ≤ a0) = false := decide_eq_false c4
    clear c4
    obtain rfl := Option.some.inj H
    go_enter Try.func48, Try.ntmps48
    go_wp2
    go_ret
    exact ⟨by first | rfl | (simp; done) | (simp [*]; done), by repeat (first | exact Drawn0.refl _ | apply Drawn0.step)⟩

end Go.Proofs.Ytkhfgflcanmefaa.PAll
end
section
namespace Go.Proofs.Ytkhfgflcanmefaa.PAll
open Go.RowKit Go.Proofs.YtkhfgflcanmefaaW.PrintWords Go.Proofs.YtkhfgflcanmefaaW.PrintLast Go.Proofs.YtkhfgflcanmefaaW.PrintMore
set_option linter.unusedVariables false
set_option linter.unusedSimpArgs false

theorem and_255 (x : Int) (h0 : 0 ≤ x) (h1 : x < 4294967296) : Go.bits .and .u32 x 255 = x % 256 := by
  have hk : ∀ n : Int, 0 ≤ n → n < 2 ^ 32 → IntKind.u32.wrap n = n := fun n a b => by rw [IntKind.wrap_u32]; omega
  exact bits_mask .u32 32 (by decide) hk 8 (by decide) x h0 (by omega)
theorem pop8_bd (x : Int) (h0 : 0 ≤ x) (h1 : x < 256) : 0 ≤ Go.Lib.pop8 x ∧ Go.Lib.pop8 x ≤ 8 := by
  have e := Go.Lib.pop8_eq ⟨x.toNat, by omega⟩
  have l := Go.Lib.onesCount_le8 ⟨x.toNat, by omega⟩
  simp only [Int.toNat_of_nonneg h0] at e l
  omega
theorem idx_gen {oi : Oper} {a : Act} {n : Tmp} {T : ByteArray} (x : Int) (hop : oi.op = .index 9 (.const (.string T)) (.tmp n)) (hx : a.eval (.tmp n) = .int .u32 x) (h0 : 0 ≤ x) (hs : x.toNat < T.size) (w' : World) : (execOp a.eval oi).run Try.prog w' = .ok (.value (.int .u8 (((T[x.toNat]?).getD 0).toNat : Int))) w' := by
  obtain ⟨q, hg⟩ : ∃ q, T[x.toNat]? = some q := ⟨T[x.toNat]'hs, getElem?_pos T x.toNat hs⟩
  rw [hg]
  have hc : a.eval (.const (.string T)) = .string T := rfl
  unfold execOp
  simp [hop, hx, hc, Instr.index, asIntOf, run_underlying Try.underlying9, h0, hg]
theorem idx_pop {oi : Oper} {a : Act} {n : Tmp} {T : ByteArray} (hT : T = Go.Lib.pop8tab) (x : Int) (hop : oi.op = .index 9 (.const (.string T)) (.tmp n)) (hx : a.eval (.tmp n) = .int .u32 x) (h0 : 0 ≤ x) (h1 : x < 256) (w' : World) : (execOp a.eval oi).run Try.prog w' = .ok (.value (.int .u8 (Go.Lib.pop8 x))) w' := by
  have hs : x.toNat < T.size := by rw [hT, Go.Lib.pop8tab_size]; omega
  have h := idx_gen x hop hx h0 hs w'
  rw [hT] at h
  exact h
def pop4 (a0 : Int) : Int := Go.Lib.pop8 (a0 / 16777216) + Go.Lib.pop8 (a0 / 65536 % 256) + Go.Lib.pop8 (a0 / 256 % 256) + Go.Lib.pop8 (a0 % 256)
def bits_OnesCount32.f (a0 : Int) : Option (Int) := if 0 ≤ a0 ∧ a0 < 4294967296 then some (pop4 a0) else none
set_option maxHeartbeats 8000000 in
set_option maxRecDepth 100000 in
theorem bits_OnesCount32.calls (a0 : Int) (r : Int) (w : World) (h : bits_OnesCount32.f a0 = some r) :
    Calls Try.prog 60 #[.int .u32 a0] w fun e w' => e = .returned (.int .i64 r) ∧ Drawn0 w w' := by
  unfold bits_OnesCount32.f at h
  by_cases c : 0 ≤ a0 ∧ a0 < 4294967296
  · rw [if_pos c] at h
    obtain rfl := Option.some.inj h
    obtain ⟨c1, c2⟩ := c
    have e1 := and_255 (a0 / 65536) (by omega) (by omega)
    have e2 := and_255 (a0 / 256) (by omega) (by omega)
    have e3 := and_255 a0 c1 c2
    obtain ⟨x1, h1_⟩ : ∃ x, a0 / 16777216 = x := ⟨_, rfl⟩
    obtain ⟨x2, h2⟩ : ∃ x, a0 / 65536 % 256 = x := ⟨_, rfl⟩
    obtain ⟨x3, h3⟩ : ∃ x, a0 / 256 % 256 = x := ⟨_, rfl⟩
    obtain ⟨x4, h4⟩ : ∃ x, a0 % 256 = x := ⟨_, rfl⟩
    have b1 : 0 ≤ x1 ∧ x1 < 256 := by omega
    have b2 : 0 ≤ x2 ∧ x2 < 256 := by omega
    have b3 : 0 ≤ x3 ∧ x3 < 256 := by omega
    have b4 : 0 ≤ x4 ∧ x4 < 256 := by omega
    rw [h2] at e1; rw [h3] at e2; rw [h4] at e3
    unfold pop4
    rw [h1_, h2, h3, h4]
    clear h2 h3 h4 c1 c2 h
    go_enter Try.func60, Try.ntmps60
    go_wp2
    refine start_ (n := 19) (S := fun _ => True) (ds := []) #[false, false, false, false, false, false, false, false, false, false, false, false, false, false, false, false, false, false, false] (by kernel_rfl) rfl rfl trivial (fun hHeld => ?_)
    refine pure_ (i := 0) (N := some 3) (v := ?_) (a' := ?_) #[true, false, false, false, false, false, false, false, false, false, false, false, false, false, false, false, false, false, false] rfl rfl (by kernel_rfl) (fun _ _ _ h => h) (Or.inl ⟨by rfl, ?_⟩) ?_ ?_
    rotate_left
    · intro w'
      go_simp
      (try simp only [e1, e2, e3, h1_])
      with_reducible rfl
    rotate_left
    · simp only [Act.put, List.setIfInBounds_toArray, List.set_cons_zero, List.set_cons_succ, i64_w, i32_w]
      rfl
    refine pure_ (i := 1) (N := some 4) (v := ?_) (a' := ?_) #[true, true, false, false, false, false, false, false, false, false, false, false, false, false, false, false, false, false, false] rfl rfl (by kernel_rfl) (fun _ _ _ h => h) (Or.inl ⟨by rfl, ?_⟩) ?_ ?_
    rotate_left
    · intro w'
      go_simp
      (try simp only [e1, e2, e3, h1_])
      with_reducible rfl
    rotate_left
    · simp only [Act.put, List.setIfInBounds_toArray, List.set_cons_zero, List.set_cons_succ, i64_w, i32_w]
      rfl
    refine pure_ (i := 2) (N := some 5) (v := .int .u8 (Go.Lib.pop8 x1)) (a' := ?_) #[true, true, true, false, false, false, false, false, false, false, false, false, false, false, false, false, false, false, false] rfl rfl (by kernel_rfl) (fun _ _ _ h => h) (Or.inl ⟨by rfl, fun w' => idx_pop (by kernel_rfl) x1 rfl rfl b1.1 b1.2 w'⟩) ?_ ?_
    rotate_left
    · simp only [Act.put, List.setIfInBounds_toArray, List.set_cons_zero, List.set_cons_succ, i64_w, i32_w]
      rfl
    refine pure_ (i := 3) (N := some 6) (v := ?_) (a' := ?_) #[true, true, true, true, false, false, false, false, false, false, false, false, false, false, false, false, false, false, false] rfl rfl (by kernel_rfl) (fun _ _ _ h => h) (Or.inl ⟨by rfl, ?_⟩) ?_ ?_
    rotate_left
    · intro w'
      go_simp
      (try simp only [e1, e2, e3, h1_])
      with_reducible rfl
    rotate_left
    · simp only [Act.put, List.setIfInBounds_toArray, List.set_cons_zero, List.set_cons_succ, i64_w, i32_w]
      rfl
    refine pure_ (i := 4) (N := some 7) (v := ?_) (a' := ?_) #[true, true, true, true, true, false, false, false, false, false, false, false, false, false, false, false, false, false, false] rfl rfl (by kernel_rfl) (fun _ _ _ h => h) (Or.inl ⟨by rfl, ?_⟩) ?_ ?_
    rotate_left
    · intro w'
      go_simp
      (try simp only [e1, e2, e3, h1_])
      with_reducible rfl
    rotate_left
    · simp only [Act.put, List.setIfInBounds_toArray, List.set_cons_zero, List.set_cons_succ, i64_w, i32_w]
      rfl
    refine pure_ (i := 5) (N := some 8) (v := ?_) (a' := ?_) #[true, true, true, true, true, true, false, false, false, false, false, false, false, false, false, false, false, false, false] rfl rfl (by kernel_rfl) (fun _ _ _ h => h) (Or.inl ⟨by rfl, ?_⟩) ?_ ?_
    rotate_left
    · intro w'
      go_simp
      (try simp only [e1, e2, e3, h1_])
      with_reducible rfl
    rotate_left
    · simp only [Act.put, List.setIfInBounds_toArray, List.set_cons_zero, List.set_cons_succ, i64_w, i32_w]
      rfl
    refine pure_ (i := 6) (N := some 9) (v := .int .u8 (Go.Lib.pop8 x2)) (a' := ?_) #[true, true, true, true, true, true, true, false, false, false, false, false, false, false, false, false, false, false, false] rfl rfl (by kernel_rfl) (fun _ _ _ h => h) (Or.inl ⟨by rfl, fun w' => idx_pop (by kernel_rfl) x2 rfl rfl b2.1 b2.2 w'⟩) ?_ ?_
    rotate_left
    · simp only [Act.put, List.setIfInBounds_toArray, List.set_cons_zero, List.set_cons_succ, i64_w, i32_w]
      rfl
    refine pure_ (i := 7) (N := some 10) (v := ?_) (a' := ?_) #[true, true, true, true, true, true, true, true, false, false, false, false, false, false, false, false, false, false, false] rfl rfl (by kernel_rfl) (fun _ _ _ h => h) (Or.inl ⟨by rfl, ?_⟩) ?_ ?_
    rotate_left
    · intro w'
      go_simp
      (try simp only [e1, e2, e3, h1_])
      with_reducible rfl
    rotate_left
    · simp only [Act.put, List.setIfInBounds_toArray, List.set_cons_zero, List.set_cons_succ, i64_w, i32_w]
      rfl
    refine pure_ (i := 8) (N := some 11) (v := ?_) (a' := ?_) #[true, true, true, true, true, true, true, true, true, false, false, false, false, false, false, false, false, false, false] rfl rfl (by kernel_rfl) (fun _ _ _ h => h) (Or.inl ⟨by rfl, ?_⟩) ?_ ?_
    rotate_left
    · intro w'
      go_simp
      (try simp only [e1, e2, e3, h1_])
      with_reducible rfl
    rotate_left
    · simp only [Act.put, List.setIfInBounds_toArray, List.set_cons_zero, List.set_cons_succ, i64_w, i32_w]
      rfl
    refine pure_ (i := 9) (N := some 12) (v := ?_) (a' := ?_) #[true, true, true, true, true, true, true, true, true, true, false, false, false, false, false, false, false, false, false] rfl rfl (by kernel_rfl) (fun _ _ _ h => h) (Or.inl ⟨by rfl, ?_⟩) ?_ ?_
    rotate_left
    · intro w'
      go_simp
      (try simp only [e1, e2, e3, h1_])
      with_reducible rfl
    rotate_left
    · simp only [Act.put, List.setIfInBounds_toArray, List.set_cons_zero, List.set_cons_succ, i64_w, i32_w]
      rfl
    refine pure_ (i := 10) (N := some 13) (v := ?_) (a' := ?_) #[true, true, true, true, true, true, true, true, true, true, true, false, false, false, false, false, false, false, false] rfl rfl (by kernel_rfl) (fun _ _ _ h => h) (Or.inl ⟨by rfl, ?_⟩) ?_ ?_
    rotate_left
    · intro w'
      go_simp
      (try simp only [e1, e2, e3, h1_])
      with_reducible rfl
    rotate_left
    · simp only [Act.put, List.setIfInBounds_toArray, List.set_cons_zero, List.set_cons_succ, i64_w, i32_w]
      rfl
    refine pure_ (i := 11) (N := some 14) (v := .int .u8 (Go.Lib.pop8 x3)) (a' := ?_) #[true, true, true, true, true, true, true, true, true, true, true, true, false, false, false, false, false, false, false] rfl rfl (by kernel_rfl) (fun _ _ _ h => h) (Or.inl ⟨by rfl, fun w' => idx_pop (by kernel_rfl) x3 rfl rfl b3.1 b3.2 w'⟩) ?_ ?_
    rotate_left
    · simp only [Act.put, List.setIfInBounds_toArray, List.set_cons_zero, List.set_cons_succ, i64_w, i32_w]
      rfl
    refine pure_ (i := 12) (N := some 15) (v := ?_) (a' := ?_) #[true, true, true, true, true, true, true, true, true, true, true, true, true, false, false, false, false, false, false] rfl rfl (by kernel_rfl) (fun _ _ _ h => h) (Or.inl ⟨by rfl, ?_⟩) ?_ ?_
    rotate_left
    · intro w'
      go_simp
      (try simp only [e1, e2, e3, h1_])
      with_reducible rfl
    rotate_left
    · simp only [Act.put, List.setIfInBounds_toArray, List.set_cons_zero, List.set_cons_succ, i64_w, i32_w]
      rfl
    refine pure_ (i := 13) (N := some 16) (v := ?_) (a' := ?_) #[true, true, true, true, true, true, true, true, true, true, true, true, true, true, false, false, false, false, false] rfl rfl (by kernel_rfl) (fun _ _ _ h => h) (Or.inl ⟨by rfl, ?_⟩) ?_ ?_
    rotate_left
    · intro w'
      go_simp
      (try simp only [e1, e2, e3, h1_])
      with_reducible rfl
    rotate_left
    · simp only [Act.put, List.setIfInBounds_toArray, List.set_cons_zero, List.set_cons_succ, i64_w, i32_w]
      rfl
    refine pure_ (i := 14) (N := some 17) (v := ?_) (a' := ?_) #[true, true, true, true, true, true, true, true, true, true, true, true, true, true, true, false, false, false, false] rfl rfl (by kernel_rfl) (fun _ _ _ h => h) (Or.inl ⟨by rfl, ?_⟩) ?_ ?_
    rotate_left
    · intro w'
      go_simp
      (try simp only [e1, e2, e3, h1_])
      with_reducible rfl
    rotate_left
    · simp only [Act.put, List.setIfInBounds_toArray, List.set_cons_zero, List.set_cons_succ, i64_w, i32_w]
      rfl
    refine pure_ (i := 15) (N := some 18) (v := .int .u8 (Go.Lib.pop8 x4)) (a' := ?_) #[true, true, true, true, true, true, true, true, true, true, true, true, true, true, true, true, false, false, false] rfl rfl (by kernel_rfl) (fun _ _ _ h => h) (Or.inl ⟨by rfl, fun w' => idx_pop (by kernel_rfl) x4 rfl rfl b4.1 b4.2 w'⟩) ?_ ?_
    rotate_left
    · simp only [Act.put, List.setIfInBounds_toArray, List.set_cons_zero, List.set_cons_succ, i64_w, i32_w]
      rfl
    refine pure_ (i := 16) (N := some 19) (v := ?_) (a' := ?_) #[true, true, true, true, true, true, true, true, true, true, true, true, true, true, true, true, true, false, false] rfl rfl (by kernel_rfl) (fun _ _ _ h => h) (Or.inl ⟨by rfl, ?_⟩) ?_ ?_
    rotate_left
    · intro w'
      go_simp
      (try simp only [e1, e2, e3, h1_])
      with_reducible rfl
    rotate_left
    · simp only [Act.put, List.setIfInBounds_toArray, List.set_cons_zero, List.set_cons_succ, i64_w, i32_w]
      rfl
    refine pure_ (i := 17) (N := some 20) (v := ?_) (a' := ?_) #[true, true, true, true, true, true, true, true, true, true, true, true, true, true, true, true, true, true, false] rfl rfl (by kernel_rfl) (fun _ _ _ h => h) (Or.inl ⟨by rfl, ?_⟩) ?_ ?_
    rotate_left
    · intro w'
      go_simp
      (try simp only [e1, e2, e3, h1_])
      with_reducible rfl
    rotate_left
    · simp only [Act.put, List.setIfInBounds_toArray, List.set_cons_zero, List.set_cons_succ, i64_w, i32_w]
      rfl
    refine pure_ (i := 18) (N := some 2) (v := ?_) (a' := ?_) #[true, true, true, true, true, true, true, true, true, true, true, true, true, true, true, true, true, true, true] rfl rfl (by kernel_rfl) (fun _ _ _ h => h) (Or.inl ⟨by rfl, ?_⟩) ?_ ?_
    rotate_left
    · intro w'
      go_simp
      (try simp only [e1, e2, e3, h1_])
      with_reducible rfl
    rotate_left
    · simp only [Act.put, List.setIfInBounds_toArray, List.set_cons_zero, List.set_cons_succ, i64_w, i32_w]
      rfl
    refine done_ (by kernel_rfl) ?_
    obtain ⟨p1, q1⟩ := pop8_bd x1 b1.1 b1.2
    obtain ⟨p2, q2⟩ := pop8_bd x2 b2.1 b2.2
    obtain ⟨p3, q3⟩ := pop8_bd x3 b3.1 b3.2
    obtain ⟨p4, q4⟩ := pop8_bd x4 b4.1 b4.2
    have z1 : IntKind.u8.wrap (Go.Lib.pop8 x1 + Go.Lib.pop8 x2) = Go.Lib.pop8 x1 + Go.Lib.pop8 x2 := by rw [IntKind.wrap_u8]; omega
    have z2 : IntKind.u8.wrap (Go.Lib.pop8 x1 + Go.Lib.pop8 x2 + Go.Lib.pop8 x3) = Go.Lib.pop8 x1 + Go.Lib.pop8 x2 + Go.Lib.pop8 x3 := by rw [IntKind.wrap_u8]; omega
    have z3 : IntKind.u8.wrap (Go.Lib.pop8 x1 + Go.Lib.pop8 x2 + Go.Lib.pop8 x3 + Go.Lib.pop8 x4) = Go.Lib.pop8 x1 + Go.Lib.pop8 x2 + Go.Lib.pop8 x3 + Go.Lib.pop8 x4 := by rw [IntKind.wrap_u8]; omega
    have z4 : wrap64 (Go.Lib.pop8 x1 + Go.Lib.pop8 x2 + Go.Lib.pop8 x3 + Go.Lib.pop8 x4) = Go.Lib.pop8 x1 + Go.Lib.pop8 x2 + Go.Lib.pop8 x3 + Go.Lib.pop8 x4 := by unfold wrap64; omega
    simp only [z1, z2, z3, z4]
    clear z1 z2 z3 z4
    try go_wp2
    go_ret
    exact ⟨by first | rfl | simp, by repeat (first | exact Drawn0.refl _ | apply Drawn0.step)⟩
  · rw [if_neg c] at h; simp at h
end Go.Proofs.Ytkhfgflcanmefaa.PAll
end
section
namespace Go.Proofs.Ytkhfgflcanmefaa.PAll
open Go.RowKit Go.Proofs.YtkhfgflcanmefaaW.PrintWords Go.Proofs.YtkhfgflcanmefaaW.PrintLast Go.Proofs.YtkhfgflcanmefaaW.PrintMore
attribute [local go_sem] max2_int min2_int max_two min_two max_three min_three max_four min_four   -- for this text's walks alone
set_option linter.unusedVariables false
set_option linter.unusedSimpArgs false

def pool_Count.f (a0 : Int) : Option (Int) := (bits_OnesCount32.f ((a0) % 4294967296)).bind fun t319 => (some t319)
set_option maxHeartbeats 8000000 in
set_option maxRecDepth 100000 in
theorem pool_Count.calls (a0 : Int) (r : Int) (w : World) (h : pool_Count.f a0 = some r) :
    Calls Try.prog 49 #[.int .i64 a0] w fun e w' => e = .returned (.int .i64 r) ∧ Drawn0 w w' := by
  have H : ((bits_OnesCount32.f ((a0) % 4294967296)).bind fun t319 => (some t319)) = some r := h
  clear h
  replace H := Option.bind_eq_some_iff.mp H
  obtain ⟨t319, A20, H⟩ := H
  replace H : (some t319) = some r := H
  have A2 := Aside0.mk A20
  clear A20
  obtain rfl := Option.some.inj H
  go_enter Try.func49, Try.ntmps49
  go_wp2_with (first | ((with_reducible refine gate_callee (f := 60) rfl ?_); refine goesL_ (some 5) rfl rfl Try.func60 (by kernel_rfl) rfl #[.int .u32 ((a0) % 4294967296)] rfl (by (try simp only [List.map_toArray, List.map_cons, List.map_nil]); first | done | rfl | (simp only [List.length_drop, List.length_take]; rfl)) ?_; (with_reducible refine (bits_OnesCount32.calls ((a0) % 4294967296) t319 _ A2.out).mono ?_); rintro e w' ⟨rfl, ⟨nd, rfl⟩⟩; refine ⟨_, rfl, ?_⟩))
  go_ret
  exact ⟨by first | rfl | (simp; done) | (simp [*]; done), by repeat (first | exact Drawn0.refl _ | apply Drawn0.step)⟩

end Go.Proofs.Ytkhfgflcanmefaa.PAll
end
section
namespace Go.Proofs.Ytkhfgflcanmefaa.PAll
open Go.RowKit Go.Proofs.YtkhfgflcanmefaaW.PrintWords Go.Proofs.YtkhfgflcanmefaaW.PrintLast Go.Proofs.YtkhfgflcanmefaaW.PrintMore
set_option linter.unusedVariables false
set_option linter.unusedSimpArgs false

set_option maxRecDepth 100000 in
theorem draws_none (w : World) : Calls Try.prog 50 #[.slice none 0 0] w fun e w' => e = .returned (.bool true) ∧ Below w.heap.size w w' := by
  have HB := Aside0.mk (Below.refl w.heap.size w)
  go_enter Try.func50, Try.ntmps50
  go_wp2
  go_loopg [8] 1 (fun kq v8 w' => v8 = .int .i64 0 ∧ Aside0 (Below w.heap.size w w'))
  case atStart => exact ⟨rfl, ⟨by repeat (first | (with_reducible first | exact HB.out | apply below_alloc | apply pw_below_drewN | apply below_drew1) | exact HB.out)⟩⟩
  case round =>
    obtain ⟨rfl, HB⟩ := hrel
    go_wp2
    go_ret
    exact ⟨rfl, by repeat (first | (with_reducible first | exact HB.out | apply below_alloc | apply pw_below_drewN | apply below_drew1) | exact HB.out)⟩
def job_Good.T8 : Bool × List (List Nat × List Nat) := (true, [([], []), ([0], [0]), ([1], [1]), ([2, 2], [2]), ([3], [3]), ([4, 3], [3, 4]), ([5, 3, 3], [3, 5]), ([3, 6], [3, 6]), ([7, 6], [7]), ([8], [8]), ([9, 8], [8, 9]), ([10, 8, 8], [8, 10]), ([8], [8]), ([12, 8], [8, 12]), ([11, 13, 8], [8, 11, 13]), ([8, 14], [8, 14]), ([15, 11], [15]), ([16], [16]), ([17, 16], [16, 17]), ([18, 16], [16, 18]), ([16, 19], [16, 19]), ([20, 16], [20]), ([21], [21]), ([22, 21], [21, 22]), ([23, 21, 21], [21, 23]), ([21, 24], [21, 24]), ([25, 24, 0, 1, 2, 3, 4, 5, 6, 7, 8, 9, 10, 11, 12, 13, 14, 15, 16, 17, 18, 19, 20, 21, 22, 23, 24, 25], [25])])
def job_Good.B8 : List Nat := [0, 1, 3, 7, 15, 31, 63, 127, 255, 511, 1023, 2047, 511, 4607, 16383, 32767, 65535, 131071, 262143, 524287, 1048575, 2097151, 4194303, 8388607, 16777215, 33554431, 67108863]
theorem job_Good.tab8 : rtab .any (opsOf Try.f29 8) = job_Good.T8 := by kernel_rfl
theorem job_Good.bits8 : waitsOk job_Good.T8.2 job_Good.B8 = true := by kernel_rfl
set_option maxHeartbeats 8000000 in
set_option maxRecDepth 100000 in
theorem good_awake (w : World) : Calls Try.prog 29 #[.agg #[.int .i64 3, .int .i64 0, .int .i64 2, .int .i64 10, .int .i64 0, .int .i64 0, .int .i64 0, .int .i64 3, .int .i64 5, .int .i64 9, .int .i64 0, .slice none 0 0]] w fun e w' => e = .returned (.bool true) ∧ Below w.heap.size w w' := by
  have hu32 := Try.underlying32
  have HB := Aside0.mk (Below.refl w.heap.size w)
  have F0 : Aside0 (job_in.f 5 0 1099511627776 = some true) := ⟨by decide +kernel⟩
  have F1 : Aside0 (job_in.f 9 0 4294967295 = some true) := ⟨by decide +kernel⟩
  have F2 : Aside0 (pool_Count.f 9 = some 2) := ⟨by decide +kernel⟩
  have F3 : Aside0 (job_in.f 0 0 7 = some true) := ⟨by decide +kernel⟩
  have F4 : Aside0 (job_in.f 2 1 32 = some true) := ⟨by decide +kernel⟩
  have F5 : Aside0 (job_in.f 10 1 1048576 = some true) := ⟨by decide +kernel⟩
  have F6 : Aside0 (job_in.f 0 0 7 = some true) := ⟨by decide +kernel⟩
  have F7 : Aside0 (job_in.f 0 0 1048576 = some true) := ⟨by decide +kernel⟩
  have F8 : Aside0 (job_in.f 0 0 1099511627776 = some true) := ⟨by decide +kernel⟩
  go_enter Try.func29, Try.ntmps29
  go_upto_region 1 with (first | ((with_reducible refine gate_dst (N := 1) rfl ?_); refine box_event ?hg (N := 1) ?hd (cs := #[.int .i64 3, .int .i64 0, .int .i64 2, .int .i64 10, .int .i64 0, .int .i64 0, .int .i64 0, .int .i64 3, .int .i64 5, .int .i64 9, .int .i64 0, .slice none 0 0]) (t := 32) ?hr ?_; (case hd => rfl); (case hg => rfl); (case hr => first | (go_simp; done) | (go_simp; rfl)); intro gb399 hg w3 hbox hb; have n0_ := Aside0.mk (below_step (by repeat (first | (with_reducible first | exact HB.out | apply below_alloc | apply pw_below_drewN | apply below_drew1) | exact HB.out)) hb); have n1_ := Aside0.mk (hbox); have n2_ := Aside0.mk ((by rw [hg]; exact (below_size (by repeat (first | (with_reducible first | exact HB.out | apply below_alloc | apply pw_below_drewN | apply below_drew1) | exact HB.out))) : w.heap.size ≤ gb399)); have n3_ := Aside0.mk ((by rw [hg]; exact (below_size (by repeat (first | (with_reducible first | exact HB.out | apply below_alloc | apply pw_below_drewN | apply below_drew1) | exact HB.out))) : w.heap.size ≤ gb399)); clear HB; have HB := n0_; have BK399 := n1_; have GW399 := n2_; have GE399 := n3_; clear n0_ n1_ n2_ n3_; clear hb hbox hg))
  (try simp only [Act.put, List.setIfInBounds_toArray, List.set_cons_zero, List.set_cons_succ])
  have hcz5_0 : w3.cell? ⟨gb399, 0, none⟩ = some (.int .i64 3) := (blk_cell BK399.out 0).trans rfl
  have hcz5_1 : w3.cell? ⟨gb399, 1, none⟩ = some (.int .i64 0) := (blk_cell BK399.out 1).trans rfl
  have hcz5_2 : w3.cell? ⟨gb399, 2, none⟩ = some (.int .i64 2) := (blk_cell BK399.out 2).trans rfl
  have hcz5_3 : w3.cell? ⟨gb399, 3, none⟩ = some (.int .i64 10) := (blk_cell BK399.out 3).trans rfl
  have hcz5_4 : w3.cell? ⟨gb399, 4, none⟩ = some (.int .i64 0) := (blk_cell BK399.out 4).trans rfl
  have hcz5_5 : w3.cell? ⟨gb399, 5, none⟩ = some (.int .i64 0) := (blk_cell BK399.out 5).trans rfl
  have hcz5_6 : w3.cell? ⟨gb399, 6, none⟩ = some (.int .i64 0) := (blk_cell BK399.out 6).trans rfl
  have hcz5_7 : w3.cell? ⟨gb399, 7, none⟩ = some (.int .i64 3) := (blk_cell BK399.out 7).trans rfl
  have hcz5_8 : w3.cell? ⟨gb399, 8, none⟩ = some (.int .i64 5) := (blk_cell BK399.out 8).trans rfl
  have hcz5_9 : w3.cell? ⟨gb399, 9, none⟩ = some (.int .i64 9) := (blk_cell BK399.out 9).trans rfl
  have hcz5_10 : w3.cell? ⟨gb399, 10, none⟩ = some (.int .i64 0) := (blk_cell BK399.out 10).trans rfl
  have hcz5_11 : w3.cell? ⟨gb399, 11, none⟩ = some (.slice none 0 0) := (blk_cell BK399.out 11).trans rfl
  go_upto_region 8 with (first | (go_at_call 48; (with_reducible refine (job_in.calls 0 0 7 true _ F3.out).mono ?_); rintro e w' ⟨rfl, ⟨nd, rfl⟩⟩) | (go_at_call 48; (with_reducible refine (job_in.calls 2 1 32 true _ F4.out).mono ?_); rintro e w' ⟨rfl, ⟨nd, rfl⟩⟩) | (go_at_call 48; (with_reducible refine (job_in.calls 10 1 1048576 true _ F5.out).mono ?_); rintro e w' ⟨rfl, ⟨nd, rfl⟩⟩) | (go_at_call 48; (with_reducible refine (job_in.calls 0 0 7 true _ F6.out).mono ?_); rintro e w' ⟨rfl, ⟨nd, rfl⟩⟩) | (go_at_call 48; (with_reducible refine (job_in.calls 0 0 1048576 true _ F7.out).mono ?_); rintro e w' ⟨rfl, ⟨nd, rfl⟩⟩) | (go_at_call 48; (with_reducible refine (job_in.calls 0 0 1099511627776 true _ F8.out).mono ?_); rintro e w' ⟨rfl, ⟨nd, rfl⟩⟩))
  (try simp only [Act.put, List.setIfInBounds_toArray, List.set_cons_zero, List.set_cons_succ])
  clear hcz5_0 hcz5_1 hcz5_2 hcz5_3 hcz5_4 hcz5_5 hcz5_6 hcz5_7 hcz5_8 hcz5_9 hcz5_10 hcz5_11
  refine start_ (n := 27) (S := fun w' => w'.cell? ⟨gb399, 0, none⟩ = some (.int .i64 3) ∧ w'.cell? ⟨gb399, 1, none⟩ = some (.int .i64 0) ∧ w'.cell? ⟨gb399, 2, none⟩ = some (.int .i64 2) ∧ w'.cell? ⟨gb399, 3, none⟩ = some (.int .i64 10) ∧ w'.cell? ⟨gb399, 4, none⟩ = some (.int .i64 0) ∧ w'.cell? ⟨gb399, 5, none⟩ = some (.int .i64 0) ∧ w'.cell? ⟨gb399, 6, none⟩ = some (.int .i64 0) ∧ w'.cell? ⟨gb399, 7, none⟩ = some (.int .i64 3) ∧ w'.cell? ⟨gb399, 8, none⟩ = some (.int .i64 5) ∧ w'.cell? ⟨gb399, 9, none⟩ = some (.int .i64 9) ∧ w'.cell? ⟨gb399, 10, none⟩ = some (.int .i64 0) ∧ w'.cell? ⟨gb399, 11, none⟩ = some (.slice none 0 0)) (ds := []) #[false, false, false, false, false, false, false, false, false, false, false, false, false, false, false, false, false, false, false, false, false, false, false, false, false, false, false] (by kernel_rfl) rfl rfl ⟨(blk_cell BK399.out 0).trans rfl, (blk_cell BK399.out 1).trans rfl, (blk_cell BK399.out 2).trans rfl, (blk_cell BK399.out 3).trans rfl, (blk_cell BK399.out 4).trans rfl, (blk_cell BK399.out 5).trans rfl, (blk_cell BK399.out 6).trans rfl, (blk_cell BK399.out 7).trans rfl, (blk_cell BK399.out 8).trans rfl, (blk_cell BK399.out 9).trans rfl, (blk_cell BK399.out 10).trans rfl, (blk_cell BK399.out 11).trans rfl⟩ (fun hHeld => ?_); refine with_tabW job_Good.tab8 job_Good.bits8 (fun HT_ HW_ => ?_)
  refine pure_ (i := 0) (N := some 68) (v := ?_) (a' := ?_) #[true, false, false, false, false, false, false, false, false, false, false, false, false, false, false, false, false, false, false, false, false, false, false, false, false, false, false] rfl rfl (any_of HT_.out (by kernel_rfl)) (fun _ _ _ h => h) (Or.inl ⟨by rfl, ?_⟩) ?_ ?_
  rotate_left
  · intro w'
    go_simp
    with_reducible rfl
  rotate_left
  · simp only [Act.put, List.setIfInBounds_toArray, List.set_cons_zero, List.set_cons_succ, i64_w, i32_w]
    rfl
  refine take_ (i := 1) (N := some 69) (v := ?_) (a' := ?_) #[true, true, false, false, false, false, false, false, false, false, false, false, false, false, false, false, false, false, false, false, false, false, false, false, false, false, false] rfl rfl (take_ofW HT_.out HW_.out (by kernel_rfl)) (fun _ _ _ h => h) (Or.inl ⟨by rfl, ?_⟩) hHeld ?_ ?_
  rotate_left
  · rintro w' ⟨s0, s1, s2, s3, s4, s5, s6, s7, s8, s9, s10, s11⟩
    go_simp
    with_reducible rfl
  rotate_left
  · simp only [Act.put, List.setIfInBounds_toArray, List.set_cons_zero, List.set_cons_succ, i64_w, i32_w]
    rfl
  refine one_ (i := 2) (N := some 70) #[true, true, true, false, false, false, false, false, false, false, false, false, false, false, false, false, false, false, false, false, false, false, false, false, false, false, false] rfl rfl (one_of HT_.out (by kernel_rfl)) (by decide) (fun K hK => ?_)
  refine goes_ Try.func48 (by kernel_rfl) rfl #[.int .i64 5, .int .i64 0, .int .i64 1099511627776] (by rfl) rfl rfl (by (try simp only [List.map_toArray, List.map_cons, List.map_nil]); first | done | rfl | (simp only [List.length_drop, List.length_take]; rfl)) ?_
  with_reducible refine (job_in.calls 5 0 1099511627776 true _ F0.out).mono ?_
  rintro e w' ⟨rfl, ⟨nd, rfl⟩⟩
  refine ⟨_, rfl, ?_⟩
  refine hK.out _ _ ⟨(blk_cell BK399.out 0).trans rfl, (blk_cell BK399.out 1).trans rfl, (blk_cell BK399.out 2).trans rfl, (blk_cell BK399.out 3).trans rfl, (blk_cell BK399.out 4).trans rfl, (blk_cell BK399.out 5).trans rfl, (blk_cell BK399.out 6).trans rfl, (blk_cell BK399.out 7).trans rfl, (blk_cell BK399.out 8).trans rfl, (blk_cell BK399.out 9).trans rfl, (blk_cell BK399.out 10).trans rfl, (blk_cell BK399.out 11).trans rfl⟩ (fun hHeld => ?_)
  clear hK K
  refine norm_ (a' := ?_) ?_ ?_
  rotate_left
  · show Act.put _ (some 70) _ = _
    simp only [Act.put, List.setIfInBounds_toArray, List.set_cons_zero, List.set_cons_succ, i64_w, i32_w]
    rfl
  refine pure_ (i := 3) (N := some 71) (v := ?_) (a' := ?_) #[true, true, true, true, false, false, false, false, false, false, false, false, false, false, false, false, false, false, false, false, false, false, false, false, false, false, false] rfl rfl (any_of HT_.out (by kernel_rfl)) (fun _ _ _ h => h) (Or.inl ⟨by rfl, ?_⟩) ?_ ?_
  rotate_left
  · intro w'
    go_simp
    with_reducible rfl
  rotate_left
  · simp only [Act.put, List.setIfInBounds_toArray, List.set_cons_zero, List.set_cons_succ, i64_w, i32_w]
    rfl
  refine pure_ (i := 4) (N := some 72) (v := ?_) (a' := ?_) #[true, true, true, true, true, false, false, false, false, false, false, false, false, false, false, false, false, false, false, false, false, false, false, false, false, false, false] rfl rfl (any_of HT_.out (by kernel_rfl)) (fun _ _ _ h => h) (Or.inl ⟨by rfl, ?_⟩) ?_ ?_
  rotate_left
  · intro w'
    go_simp
    with_reducible rfl
  rotate_left
  · simp only [Act.put, List.setIfInBounds_toArray, List.set_cons_zero, List.set_cons_succ, i64_w, i32_w]
    rfl
  refine take_ (i := 5) (N := some 73) (v := ?_) (a' := ?_) #[true, true, true, true, true, true, false, false, false, false, false, false, false, false, false, false, false, false, false, false, false, false, false, false, false, false, false] rfl rfl (take_ofW HT_.out HW_.out (by kernel_rfl)) (fun _ _ _ h => h) (Or.inl ⟨by rfl, ?_⟩) hHeld ?_ ?_
  rotate_left
  · rintro w' ⟨s0, s1, s2, s3, s4, s5, s6, s7, s8, s9, s10, s11⟩
    go_simp
    with_reducible rfl
  rotate_left
  · simp only [Act.put, List.setIfInBounds_toArray, List.set_cons_zero, List.set_cons_succ, i64_w, i32_w]
    rfl
  refine one_ (i := 6) (N := some 74) #[true, true, true, true, true, true, true, false, false, false, false, false, false, false, false, false, false, false, false, false, false, false, false, false, false, false, false] rfl rfl (one_of HT_.out (by kernel_rfl)) (by decide) (fun K hK => ?_)
  refine goes_ Try.func48 (by kernel_rfl) rfl #[.int .i64 9, .int .i64 0, .int .i64 4294967295] (by rfl) rfl rfl (by (try simp only [List.map_toArray, List.map_cons, List.map_nil]); first | done | rfl | (simp only [List.length_drop, List.length_take]; rfl)) ?_
  with_reducible refine (job_in.calls 9 0 4294967295 true _ F1.out).mono ?_
  rintro e w' ⟨rfl, ⟨nd, rfl⟩⟩
  refine ⟨_, rfl, ?_⟩
  refine hK.out _ _ ⟨(blk_cell BK399.out 0).trans rfl, (blk_cell BK399.out 1).trans rfl, (blk_cell BK399.out 2).trans rfl, (blk_cell BK399.out 3).trans rfl, (blk_cell BK399.out 4).trans rfl, (blk_cell BK399.out 5).trans rfl, (blk_cell BK399.out 6).trans rfl, (blk_cell BK399.out 7).trans rfl, (blk_cell BK399.out 8).trans rfl, (blk_cell BK399.out 9).trans rfl, (blk_cell BK399.out 10).trans rfl, (blk_cell BK399.out 11).trans rfl⟩ (fun hHeld => ?_)
  clear hK K
  refine norm_ (a' := ?_) ?_ ?_
  rotate_left
  · show Act.put _ (some 74) _ = _
    simp only [Act.put, List.setIfInBounds_toArray, List.set_cons_zero, List.set_cons_succ, i64_w, i32_w]
    rfl
  refine pure_ (i := 7) (N := some 75) (v := ?_) (a' := ?_) #[true, true, true, true, true, true, true, true, false, false, false, false, false, false, false, false, false, false, false, false, false, false, false, false, false, false, false] rfl rfl (any_of HT_.out (by kernel_rfl)) (fun _ _ _ h => h) (Or.inl ⟨by rfl, ?_⟩) ?_ ?_
  rotate_left
  · intro w'
    go_simp
    with_reducible rfl
  rotate_left
  · simp only [Act.put, List.setIfInBounds_toArray, List.set_cons_zero, List.set_cons_succ, i64_w, i32_w]
    rfl
  refine pure_ (i := 8) (N := some 76) (v := ?_) (a' := ?_) #[true, true, true, true, true, true, true, true, true, false, false, false, false, false, false, false, false, false, false, false, false, false, false, false, false, false, false] rfl rfl (any_of HT_.out (by kernel_rfl)) (fun _ _ _ h => h) (Or.inl ⟨by rfl, ?_⟩) ?_ ?_
  rotate_left
  · intro w'
    go_simp
    with_reducible rfl
  rotate_left
  · simp only [Act.put, List.setIfInBounds_toArray, List.set_cons_zero, List.set_cons_succ, i64_w, i32_w]
    rfl
  refine pure_ (i := 9) (N := some 77) (v := ?_) (a' := ?_) #[true, true, true, true, true, true, true, true, true, true, false, false, false, false, false, false, false, false, false, false, false, false, false, false, false, false, false] rfl rfl (any_of HT_.out (by kernel_rfl)) (fun _ _ _ h => h) (Or.inl ⟨by rfl, ?_⟩) ?_ ?_
  rotate_left
  · intro w'
    go_simp
    with_reducible rfl
  rotate_left
  · simp only [Act.put, List.setIfInBounds_toArray, List.set_cons_zero, List.set_cons_succ, i64_w, i32_w]
    rfl
  refine pure_ (i := 12) (N := some 80) (v := ?_) (a' := ?_) #[true, true, true, true, true, true, true, true, true, true, false, false, true, false, false, false, false, false, false, false, false, false, false, false, false, false, false] rfl rfl (any_of HT_.out (by kernel_rfl)) (fun _ _ _ h => h) (Or.inl ⟨by rfl, ?_⟩) ?_ ?_
  rotate_left
  · intro w'
    go_simp
    with_reducible rfl
  rotate_left
  · simp only [Act.put, List.setIfInBounds_toArray, List.set_cons_zero, List.set_cons_succ, i64_w, i32_w]
    rfl
  refine take_ (i := 10) (N := some 78) (v := ?_) (a' := ?_) #[true, true, true, true, true, true, true, true, true, true, true, false, true, false, false, false, false, false, false, false, false, false, false, false, false, false, false] rfl rfl (take_ofW HT_.out HW_.out (by kernel_rfl)) (fun _ _ _ h => h) (Or.inl ⟨by rfl, ?_⟩) hHeld ?_ ?_
  rotate_left
  · rintro w' ⟨s0, s1, s2, s3, s4, s5, s6, s7, s8, s9, s10, s11⟩
    go_simp
    with_reducible rfl
  rotate_left
  · simp only [Act.put, List.setIfInBounds_toArray, List.set_cons_zero, List.set_cons_succ, i64_w, i32_w]
    rfl
  refine take_ (i := 13) (N := some 81) (v := ?_) (a' := ?_) #[true, true, true, true, true, true, true, true, true, true, true, false, true, true, false, false, false, false, false, false, false, false, false, false, false, false, false] rfl rfl (take_ofW HT_.out HW_.out (by kernel_rfl)) (fun _ _ _ h => h) (Or.inl ⟨by rfl, ?_⟩) hHeld ?_ ?_
  rotate_left
  · rintro w' ⟨s0, s1, s2, s3, s4, s5, s6, s7, s8, s9, s10, s11⟩
    go_simp
    with_reducible rfl
  rotate_left
  · simp only [Act.put, List.setIfInBounds_toArray, List.set_cons_zero, List.set_cons_succ, i64_w, i32_w]
    rfl
  refine one_ (i := 11) (N := some 79) #[true, true, true, true, true, true, true, true, true, true, true, true, true, true, false, false, false, false, false, false, false, false, false, false, false, false, false] rfl rfl (one_of HT_.out (by kernel_rfl)) (by decide) (fun K hK => ?_)
  refine goes_ Try.func49 (by kernel_rfl) rfl #[.int .i64 9] (by rfl) rfl rfl (by (try simp only [List.map_toArray, List.map_cons, List.map_nil]); first | done | rfl | (simp only [List.length_drop, List.length_take]; rfl)) ?_
  with_reducible refine (pool_Count.calls 9 2 _ F2.out).mono ?_
  rintro e w' ⟨rfl, ⟨nd, rfl⟩⟩
  refine ⟨_, rfl, ?_⟩
  refine hK.out _ _ ⟨(blk_cell BK399.out 0).trans rfl, (blk_cell BK399.out 1).trans rfl, (blk_cell BK399.out 2).trans rfl, (blk_cell BK399.out 3).trans rfl, (blk_cell BK399.out 4).trans rfl, (blk_cell BK399.out 5).trans rfl, (blk_cell BK399.out 6).trans rfl, (blk_cell BK399.out 7).trans rfl, (blk_cell BK399.out 8).trans rfl, (blk_cell BK399.out 9).trans rfl, (blk_cell BK399.out 10).trans rfl, (blk_cell BK399.out 11).trans rfl⟩ (fun hHeld => ?_)
  clear hK K
  refine norm_ (a' := ?_) ?_ ?_
  rotate_left
  · show Act.put _ (some 79) _ = _
    simp only [Act.put, List.setIfInBounds_toArray, List.set_cons_zero, List.set_cons_succ, i64_w, i32_w]
    rfl
  refine pure_ (i := 14) (N := some 82) (v := ?_) (a' := ?_) #[true, true, true, true, true, true, true, true, true, true, true, true, true, true, true, false, false, false, false, false, false, false, false, false, false, false, false] rfl rfl (any_of HT_.out (by kernel_rfl)) (fun _ _ _ h => h) (Or.inl ⟨by rfl, ?_⟩) ?_ ?_
  rotate_left
  · intro w'
    go_simp
    with_reducible rfl
  rotate_left
  · simp only [Act.put, List.setIfInBounds_toArray, List.set_cons_zero, List.set_cons_succ, i64_w, i32_w]
    rfl
  refine pure_ (i := 15) (N := some 83) (v := ?_) (a' := ?_) #[true, true, true, true, true, true, true, true, true, true, true, true, true, true, true, true, false, false, false, false, false, false, false, false, false, false, false] rfl rfl (any_of HT_.out (by kernel_rfl)) (fun _ _ _ h => h) (Or.inl ⟨by rfl, ?_⟩) ?_ ?_
  rotate_left
  · intro w'
    go_simp
    with_reducible rfl
  rotate_left
  · simp only [Act.put, List.setIfInBounds_toArray, List.set_cons_zero, List.set_cons_succ, i64_w, i32_w]
    rfl
  refine pure_ (i := 16) (N := some 84) (v := ?_) (a' := ?_) #[true, true, true, true, true, true, true, true, true, true, true, true, true, true, true, true, true, false, false, false, false, false, false, false, false, false, false] rfl rfl (any_of HT_.out (by kernel_rfl)) (fun _ _ _ h => h) (Or.inl ⟨by rfl, ?_⟩) ?_ ?_
  rotate_left
  · intro w'
    go_simp
    with_reducible rfl
  rotate_left
  · simp only [Act.put, List.setIfInBounds_toArray, List.set_cons_zero, List.set_cons_succ, i64_w, i32_w]
    rfl
  refine pure_ (i := 17) (N := some 85) (v := ?_) (a' := ?_) #[true, true, true, true, true, true, true, true, true, true, true, true, true, true, true, true, true, true, false, false, false, false, false, false, false, false, false] rfl rfl (any_of HT_.out (by kernel_rfl)) (fun _ _ _ h => h) (Or.inl ⟨by rfl, ?_⟩) ?_ ?_
  rotate_left
  · intro w'
    go_simp
    with_reducible rfl
  rotate_left
  · simp only [Act.put, List.setIfInBounds_toArray, List.set_cons_zero, List.set_cons_succ, i64_w, i32_w]
    rfl
  refine take_ (i := 18) (N := some 86) (v := ?_) (a' := ?_) #[true, true, true, true, true, true, true, true, true, true, true, true, true, true, true, true, true, true, true, false, false, false, false, false, false, false, false] rfl rfl (take_ofW HT_.out HW_.out (by kernel_rfl)) (fun _ _ _ h => h) (Or.inl ⟨by rfl, ?_⟩) hHeld ?_ ?_
  rotate_left
  · rintro w' ⟨s0, s1, s2, s3, s4, s5, s6, s7, s8, s9, s10, s11⟩
    go_simp
    with_reducible rfl
  rotate_left
  · simp only [Act.put, List.setIfInBounds_toArray, List.set_cons_zero, List.set_cons_succ, i64_w, i32_w]
    rfl
  refine pure_ (i := 19) (N := some 87) (v := ?_) (a' := ?_) #[true, true, true, true, true, true, true, true, true, true, true, true, true, true, true, true, true, true, true, true, false, false, false, false, false, false, false] rfl rfl (any_of HT_.out (by kernel_rfl)) (fun _ _ _ h => h) (Or.inl ⟨by rfl, ?_⟩) ?_ ?_
  rotate_left
  · intro w'
    go_simp
    with_reducible rfl
  rotate_left
  · simp only [Act.put, List.setIfInBounds_toArray, List.set_cons_zero, List.set_cons_succ, i64_w, i32_w]
    rfl
  refine pure_ (i := 20) (N := some 88) (v := ?_) (a' := ?_) #[true, true, true, true, true, true, true, true, true, true, true, true, true, true, true, true, true, true, true, true, true, false, false, false, false, false, false] rfl rfl (any_of HT_.out (by kernel_rfl)) (fun _ _ _ h => h) (Or.inl ⟨by rfl, ?_⟩) ?_ ?_
  rotate_left
  · intro w'
    go_simp
    with_reducible rfl
  rotate_left
  · simp only [Act.put, List.setIfInBounds_toArray, List.set_cons_zero, List.set_cons_succ, i64_w, i32_w]
    rfl
  refine pure_ (i := 21) (N := some 89) (v := ?_) (a' := ?_) #[true, true, true, true, true, true, true, true, true, true, true, true, true, true, true, true, true, true, true, true, true, true, false, false, false, false, false] rfl rfl (any_of HT_.out (by kernel_rfl)) (fun _ _ _ h => h) (Or.inl ⟨by rfl, ?_⟩) ?_ ?_
  rotate_left
  · intro w'
    go_simp
    with_reducible rfl
  rotate_left
  · simp only [Act.put, List.setIfInBounds_toArray, List.set_cons_zero, List.set_cons_succ, i64_w, i32_w]
    rfl
  refine pure_ (i := 22) (N := some 90) (v := ?_) (a' := ?_) #[true, true, true, true, true, true, true, true, true, true, true, true, true, true, true, true, true, true, true, true, true, true, true, false, false, false, false] rfl rfl (any_of HT_.out (by kernel_rfl)) (fun _ _ _ h => h) (Or.inl ⟨by rfl, ?_⟩) ?_ ?_
  rotate_left
  · intro w'
    go_simp
    with_reducible rfl
  rotate_left
  · simp only [Act.put, List.setIfInBounds_toArray, List.set_cons_zero, List.set_cons_succ, i64_w, i32_w]
    rfl
  refine take_ (i := 23) (N := some 91) (v := ?_) (a' := ?_) #[true, true, true, true, true, true, true, true, true, true, true, true, true, true, true, true, true, true, true, true, true, true, true, true, false, false, false] rfl rfl (take_ofW HT_.out HW_.out (by kernel_rfl)) (fun _ _ _ h => h) (Or.inl ⟨by rfl, ?_⟩) hHeld ?_ ?_
  rotate_left
  · rintro w' ⟨s0, s1, s2, s3, s4, s5, s6, s7, s8, s9, s10, s11⟩
    go_simp
    with_reducible rfl
  rotate_left
  · simp only [Act.put, List.setIfInBounds_toArray, List.set_cons_zero, List.set_cons_succ, i64_w, i32_w]
    rfl
  refine one_ (i := 24) (N := some 92) #[true, true, true, true, true, true, true, true, true, true, true, true, true, true, true, true, true, true, true, true, true, true, true, true, true, false, false] rfl rfl (one_of HT_.out (by kernel_rfl)) (by decide) (fun K hK => ?_)
  refine goes_ Try.func50 (by kernel_rfl) rfl #[.slice none 0 0] (by rfl) rfl rfl (by (try simp only [List.map_toArray, List.map_cons, List.map_nil]); first | done | rfl | (simp only [List.length_drop, List.length_take]; rfl)) ?_
  with_reducible refine (draws_none _).mono ?_
  rintro e w45 ⟨rfl, hb⟩
  refine ⟨_, rfl, ?_⟩
  have n0_ := Aside0.mk (blk_below (g := gb399) (o := .cells #[.int .i64 3, .int .i64 0, .int .i64 2, .int .i64 10, .int .i64 0, .int .i64 0, .int .i64 0, .int .i64 3, .int .i64 5, .int .i64 9, .int .i64 0, .slice none 0 0] 32 (0, 0)) (by (with_reducible repeat first | apply blk_drewN | apply blk_drew | apply blk_alloc); exact BK399.out) hb)
  have n1_ := Aside0.mk (below_step (by repeat (first | (with_reducible first | exact HB.out | apply below_alloc | apply pw_below_drewN | apply below_drew1 | refine below_set ?_ GE399.out) | exact HB.out)) hb)
  clear BK399
  clear HB
  have BK399 := n0_
  have HB := n1_
  clear n0_ n1_
  (try clear hb)
  (try clear hb2)
  (try clear hk)
  (try clear hi)
  refine hK.out _ _ ⟨(blk_cell BK399.out 0).trans rfl, (blk_cell BK399.out 1).trans rfl, (blk_cell BK399.out 2).trans rfl, (blk_cell BK399.out 3).trans rfl, (blk_cell BK399.out 4).trans rfl, (blk_cell BK399.out 5).trans rfl, (blk_cell BK399.out 6).trans rfl, (blk_cell BK399.out 7).trans rfl, (blk_cell BK399.out 8).trans rfl, (blk_cell BK399.out 9).trans rfl, (blk_cell BK399.out 10).trans rfl, (blk_cell BK399.out 11).trans rfl⟩ (fun hHeld => ?_)
  clear hK K
  refine norm_ (a' := ?_) ?_ ?_
  rotate_left
  · show Act.put _ (some 92) _ = _
    simp only [Act.put, List.setIfInBounds_toArray, List.set_cons_zero, List.set_cons_succ, i64_w, i32_w]
    rfl
  refine pure_ (i := 25) (N := some 93) (v := ?_) (a' := ?_) #[true, true, true, true, true, true, true, true, true, true, true, true, true, true, true, true, true, true, true, true, true, true, true, true, true, true, false] rfl rfl (any_of HT_.out (by kernel_rfl)) (fun _ _ _ h => h) (Or.inl ⟨by rfl, ?_⟩) ?_ ?_
  rotate_left
  · intro w'
    go_simp
    with_reducible rfl
  rotate_left
  · simp only [Act.put, List.setIfInBounds_toArray, List.set_cons_zero, List.set_cons_succ, i64_w, i32_w]
    rfl
  refine pure_ (i := 26) (N := some 2) (v := ?_) (a' := ?_) #[true, true, true, true, true, true, true, true, true, true, true, true, true, true, true, true, true, true, true, true, true, true, true, true, true, true, true] rfl rfl (any_of HT_.out (by kernel_rfl)) (fun _ _ _ h => h) (Or.inl ⟨by rfl, ?_⟩) ?_ ?_
  rotate_left
  · intro w'
    go_simp
    with_reducible rfl
  rotate_left
  · simp only [Act.put, List.setIfInBounds_toArray, List.set_cons_zero, List.set_cons_succ, i64_w, i32_w]
    rfl
  refine done_ (done_of HT_.out (by kernel_rfl)) ?_
  try go_wp2
  go_ret
  exact ⟨by first | rfl | (simp [errW_none, errW_some] <;> rfl) | (simp [*, errW_none, errW_some] <;> rfl), by repeat (first | (with_reducible first | exact HB.out | apply below_alloc | apply pw_below_drewN | apply below_drew1 | refine below_set ?_ GE399.out) | exact HB.out)⟩
def job_Good.f (a0_0 : Int) (a0_1 : Int) (a0_2 : Int) (a0_3 : Int) (a0_4 : Int) (a0_5 : Int) (a0_6 : Int) (a0_7 : Int) (a0_8 : Int) (a0_9 : Int) (a0_10 : Int) (a0_11 : SH) : Option (Bool) := if (a0_0 = 3 ∧ a0_1 = 0 ∧ a0_2 = 2 ∧ a0_3 = 10 ∧ a0_4 = 0 ∧ a0_5 = 0 ∧ a0_6 = 0 ∧ a0_7 = 3 ∧ a0_8 = 5 ∧ a0_9 = 9 ∧ a0_10 = 0) ∧ a0_11.A.isNone = true ∧ a0_11.n = 0 ∧ a0_11.c = 0 then some true else none
theorem job_Good.calls (a0_0 : Int) (a0_1 : Int) (a0_2 : Int) (a0_3 : Int) (a0_4 : Int) (a0_5 : Int) (a0_6 : Int) (a0_7 : Int) (a0_8 : Int) (a0_9 : Int) (a0_10 : Int) (a0_11 : SH) (r : Bool) (w : World) (h : job_Good.f a0_0 a0_1 a0_2 a0_3 a0_4 a0_5 a0_6 a0_7 a0_8 a0_9 a0_10 a0_11 = some r) :
    Calls Try.prog 29 #[.agg #[.int .i64 a0_0, .int .i64 a0_1, .int .i64 a0_2, .int .i64 a0_3, .int .i64 a0_4, .int .i64 a0_5, .int .i64 a0_6, .int .i64 a0_7, .int .i64 a0_8, .int .i64 a0_9, .int .i64 a0_10, .slice a0_11.A a0_11.n a0_11.c]] w fun e w' => e = .returned (.bool r) ∧ Below w.heap.size w w' := by
  obtain ⟨A, n, c⟩ := a0_11
  unfold job_Good.f at h
  split at h
  · rename_i q
    obtain ⟨⟨rfl, rfl, rfl, rfl, rfl, rfl, rfl, rfl, rfl, rfl, rfl⟩, q1, q2, q3⟩ := q
    obtain rfl := Option.some.inj h
    cases A with
    | some a => simp at q1
    | none =>
      obtain rfl : n = 0 := q2
      obtain rfl : c = 0 := q3
      exact good_awake w
  · simp at h
theorem job_Good.calls_nil (r : Bool) (w : World) (h : job_Good.f 3 0 2 10 0 0 0 3 5 9 0 SH.nil = some r) : Calls Try.prog 29 #[.agg #[.int .i64 3, .int .i64 0, .int .i64 2, .int .i64 10, .int .i64 0, .int .i64 0, .int .i64 0, .int .i64 3, .int .i64 5, .int .i64 9, .int .i64 0, .slice none 0 0]] w fun e w' => e = .returned (.bool r) ∧ Below w.heap.size w w' := job_Good.calls 3 0 2 10 0 0 0 3 5 9 0 SH.nil r w h
end Go.Proofs.Ytkhfgflcanmefaa.PAll
end
