/- Words, plain functions and contracts of the functions that the law of this claim reaches; no conditions. -/
import Derived.Test.YtkhfgflcanmefaaBJobEnds1
section
namespace Go.Proofs.Ytkhfgflcanmefaa.PAll
open Go.RowKit Go.Proofs.YtkhfgflcanmefaaW.PrintWords Go.Proofs.YtkhfgflcanmefaaW.PrintLast Go.Proofs.YtkhfgflcanmefaaW.PrintMore
attribute [local go_sem] max2_int min2_int max_two min_two max_three min_three max_four min_four   -- for this text's walks alone
set_option linter.unusedVariables false
set_option linter.unusedSimpArgs false

def slices_swapRangeCmpFunc_Job__job_Due_1.l0 : Nat → List (S32) → Int → Int → Int → Int → Option ((List (S32)))
 | 0, _, _, _, _, _ => none
 | k + 1, x0, x1, x2, x3, x10 => if x10 < x3 then (if 0 ≤ (wrap64 (x2 + x10)) then (if (wrap64 (x2 + x10)) < (x0.length : Int) then (if 0 ≤ (wrap64 (x1 + x10)) then (if (wrap64 (x1 + x10)) < (x0.length : Int) then (slices_swapRangeCmpFunc_Job__job_Due_1.l0 k ((x0.set ((wrap64 (x1 + x10)) : Int).toNat (⟨(rd_T32 x0 (wrap64 (x2 + x10))).f0, (rd_T32 x0 (wrap64 (x2 + x10))).f1, (rd_T32 x0 (wrap64 (x2 + x10))).f2, (rd_T32 x0 (wrap64 (x2 + x10))).f3, (rd_T32 x0 (wrap64 (x2 + x10))).f4, (rd_T32 x0 (wrap64 (x2 + x10))).f5, (rd_T32 x0 (wrap64 (x2 + x10))).f6, (rd_T32 x0 (wrap64 (x2 + x10))).f7, (rd_T32 x0 (wrap64 (x2 + x10))).f8, (rd_T32 x0 (wrap64 (x2 + x10))).f9, (rd_T32 x0 (wrap64 (x2 + x10))).f10, (rd_T32 x0 (wrap64 (x2 + x10))).f11⟩ : S32)).set ((wrap64 (x2 + x10)) : Int).toNat (⟨(rd_T32 x0 (wrap64 (x1 + x10))).f0, (rd_T32 x0 (wrap64 (x1 + x10))).f1, (rd_T32 x0 (wrap64 (x1 + x10))).f2, (rd_T32 x0 (wrap64 (x1 + x10))).f3, (rd_T32 x0 (wrap64 (x1 + x10))).f4, (rd_T32 x0 (wrap64 (x1 + x10))).f5, (rd_T32 x0 (wrap64 (x1 + x10))).f6, (rd_T32 x0 (wrap64 (x1 + x10))).f7, (rd_T32 x0 (wrap64 (x1 + x10))).f8, (rd_T32 x0 (wrap64 (x1 + x10))).f9, (rd_T32 x0 (wrap64 (x1 + x10))).f10, (rd_T32 x0 (wrap64 (x1 + x10))).f11⟩ : S32)) x1 x2 x3 (wrap64 (x10 + 1))) else (none)) else (none)) else (none)) else (none)) else (some x0)
def slices_swapRangeCmpFunc_Job__job_Due_1.f (k : Nat) (l0 : List (S32)) (a1 : Int) (a2 : Int) (a3 : Int)  : Option ((List (S32))) := slices_swapRangeCmpFunc_Job__job_Due_1.l0 k l0 a1 a2 a3 0
theorem slices_swapRangeCmpFunc_Job__job_Due_1.mono_l : ∀ k, (∀ y0 y1 y2 y3 y4, LeO (slices_swapRangeCmpFunc_Job__job_Due_1.l0 k y0 y1 y2 y3 y4) (slices_swapRangeCmpFunc_Job__job_Due_1.l0 (k + 1) y0 y1 y2 y3 y4))
 | 0 => fun _ _ _ _ _ r h => by simp [slices_swapRangeCmpFunc_Job__job_Due_1.l0] at h
 | k + 1 => by
  have ih0 := slices_swapRangeCmpFunc_Job__job_Due_1.mono_l k
  ·intro y0 y1 y2 y3 y4
   unfold slices_swapRangeCmpFunc_Job__job_Due_1.l0
   repeat' first
   | (with_reducible exact ih0 _ _ _ _ _)
   | (with_reducible exact LeO.refl _)
   | (with_reducible exact LeO.none _)
   | (with_reducible refine LeO.ite ?_ ?_)
   | (with_reducible refine LeO.bind ?_ (fun _ => ?_))
   | exact ih0 _ _ _ _ _
   | exact LeO.none _
   | refine LeO.ite ?_ ?_
   | refine LeO.bind ?_ (fun _ => ?_)
theorem slices_swapRangeCmpFunc_Job__job_Due_1.mono : ∀ a0 a1 a2 a3 k, LeO (slices_swapRangeCmpFunc_Job__job_Due_1.f k a0 a1 a2 a3) (slices_swapRangeCmpFunc_Job__job_Due_1.f (k + 1) a0 a1 a2 a3) := by
 intro a0 a1 a2 a3 k
 have ih0 := slices_swapRangeCmpFunc_Job__job_Due_1.mono_l k
 unfold slices_swapRangeCmpFunc_Job__job_Due_1.f
 repeat' first
   | (with_reducible exact ih0 _ _ _ _ _)
   | (with_reducible exact LeO.refl _)
   | (with_reducible exact LeO.none _)
   | (with_reducible refine LeO.ite ?_ ?_)
   | (with_reducible refine LeO.bind ?_ (fun _ => ?_))
   | exact ih0 _ _ _ _ _
   | exact LeO.none _
   | refine LeO.ite ?_ ?_
   | refine LeO.bind ?_ (fun _ => ?_)
def slices_swapRangeCmpFunc_Job__job_Due_1.T3 : Bool × List (List Nat × List Nat) := (true, [([], []), ([], []), ([], []), ([1, 2], [1, 2]), ([], []), ([], []), ([], []), ([5, 6], [5, 6]), ([], []), ([], []), ([], []), ([9, 10], [9, 10]), ([8, 11], [8, 11]), ([12], [12]), ([], []), ([], []), ([], []), ([15, 16], [15, 16]), ([14, 17], [14, 17]), ([18], [18]), ([0, 3, 0, 1, 2, 3, 8, 9, 10, 11, 12, 13, 19], [0, 3]), ([20, 13, 0, 1, 2, 3, 8, 9, 10, 11, 12, 13, 19], [13, 20]), ([4, 7, 0, 1, 2, 3, 4, 5, 6, 7, 8, 9, 10, 11, 12, 13, 14, 15, 16, 17, 18, 19, 20, 21], [4, 7]), ([22, 19, 21, 0, 1, 2, 3, 4, 5, 6, 7, 8, 9, 10, 11, 12, 13, 14, 15, 16, 17, 18, 19, 20, 21], [19, 22])])
def slices_swapRangeCmpFunc_Job__job_Due_1.B3 : List Nat := [0, 0, 0, 6, 0, 0, 0, 96, 0, 0, 0, 1536, 3840, 7936, 0, 0, 0, 98304, 245760, 507904, 1048335, 2096911, 4194303, 8388607]
theorem slices_swapRangeCmpFunc_Job__job_Due_1.tab3 : rtab .any (opsOf Try.f72 3) = slices_swapRangeCmpFunc_Job__job_Due_1.T3 := by kernel_rfl
theorem slices_swapRangeCmpFunc_Job__job_Due_1.bits3 : waitsOk slices_swapRangeCmpFunc_Job__job_Due_1.T3.2 slices_swapRangeCmpFunc_Job__job_Due_1.B3 = true := by kernel_rfl
set_option maxHeartbeats 8000000 in
set_option maxRecDepth 100000 in
theorem slices_swapRangeCmpFunc_Job__job_Due_1.calls (k : Nat) (P0_ : Nat → Prop) (u9000_ : Value) (l0 : List (S32)) (a1 : Int) (a2 : Int) (a3 : Int)  (r : List (S32)) (w0 w : World) (hB : Below w0.heap.size w0 w) (ho0 : Kd.R k32 32 w w0.heap.size P0_ u9000_ l0) (h : slices_swapRangeCmpFunc_Job__job_Due_1.f k l0 a1 a2 a3 = some r) :
  Calls Try.prog 72 #[u9000_, .int .i64 a1, .int .i64 a2, .int .i64 a3, .func (.func 47) #[] #[]] w fun e w' => e = .returned (.tuple #[]) ∧ Kd.R k32 32 w' w0.heap.size (fun k_ => (P0_ k_ ∨ w.heap.size ≤ k_)) u9000_ r ∧ Below w0.heap.size w0 w' ∧ Kept w w' (fun k_ => P0_ k_) := by
 have hu32 := Try.underlying32
 have HO0 := Aside0.mk (show Kd.R k32 32 w w0.heap.size (fun k_ => (P0_ k_ ∨ w.heap.size ≤ k_)) u9000_ l0 from Kd.R_mono ho0 (fun k_ hk => (.inl hk)))
 have HK := Aside0.mk (Kept.refl w (fun k_ => P0_ k_))
 have HW0 := Aside0.mk hB.size
 have HB := Aside0.mk hB
 clear hB
 have H : (slices_swapRangeCmpFunc_Job__job_Due_1.l0 k l0 a1 a2 a3 0) = some r := h
 clear h
 have H' := Aside0.mk H
 clear H
 go_enter Try.func72, Try.ntmps72
 go_wp2
 go_loopg [10] k (fun kq v10 w' => ∃ (x0_1 : List (S32)) (x10_1 : Int), v10 = .int .i64 x10_1 ∧ Aside0 (slices_swapRangeCmpFunc_Job__job_Due_1.l0 kq x0_1 a1 a2 a3 x10_1 = some r) ∧ Aside0 (kq ≤ k) ∧ Aside0 (Kd.R k32 32 w' w0.heap.size (fun k_ => (P0_ k_ ∨ w.heap.size ≤ k_)) u9000_ x0_1) ∧ Aside0 (Kept w w' (fun k_ => P0_ k_)) ∧ Aside0 (Below w0.heap.size w0 w'))
 case atStart => exact ⟨(l0), (0), ez, H', ⟨Nat.le_refl _⟩, ⟨mR HO0.out⟩, ⟨mK HK.out⟩, ⟨mB HB.out⟩⟩
 case round =>
  clear H'
  (try clear p2)
  obtain ⟨x0_1, x10_1, rfl, HA, HK1, HO_0, HK, HB⟩ := hrel
  cases gk with
  | zero => exact absurd HA.out (by simp [slices_swapRangeCmpFunc_Job__job_Due_1.l0])
  | succ k1 =>
   have H := HA.out
   clear HA
   simp only [slices_swapRangeCmpFunc_Job__job_Due_1.l0] at H
   by_cases c6 : x10_1 < a3
   ·rw [if_pos c6] at H
    have c6b0 : decide (x10_1 < a3) = true := decide_eq_true c6
    clear c6
    obtain ⟨ji7, hji7⟩ : ∃ j_ : Int, (wrap64 (a2 + x10_1)) = j_ := ⟨_, rfl⟩
    replace H : (if 0 ≤ (ji7) then (if (ji7) < (x0_1.length : Int) then (if 0 ≤ (wrap64 (a1 + x10_1)) then (if (wrap64 (a1 + x10_1)) < (x0_1.length : Int) then (slices_swapRangeCmpFunc_Job__job_Due_1.l0 k1 ((x0_1.set ((wrap64 (a1 + x10_1)) : Int).toNat (⟨(rd_T32 x0_1 (ji7)).f0, (rd_T32 x0_1 (ji7)).f1, (rd_T32 x0_1 (ji7)).f2, (rd_T32 x0_1 (ji7)).f3, (rd_T32 x0_1 (ji7)).f4, (rd_T32 x0_1 (ji7)).f5, (rd_T32 x0_1 (ji7)).f6, (rd_T32 x0_1 (ji7)).f7, (rd_T32 x0_1 (ji7)).f8, (rd_T32 x0_1 (ji7)).f9, (rd_T32 x0_1 (ji7)).f10, (rd_T32 x0_1 (ji7)).f11⟩ : S32)).set ((ji7) : Int).toNat (⟨(rd_T32 x0_1 (wrap64 (a1 + x10_1))).f0, (rd_T32 x0_1 (wrap64 (a1 + x10_1))).f1, (rd_T32 x0_1 (wrap64 (a1 + x10_1))).f2, (rd_T32 x0_1 (wrap64 (a1 + x10_1))).f3, (rd_T32 x0_1 (wrap64 (a1 + x10_1))).f4, (rd_T32 x0_1 (wrap64 (a1 + x10_1))).f5, (rd_T32 x0_1 (wrap64 (a1 + x10_1))).f6, (rd_T32 x0_1 (wrap64 (a1 + x10_1))).f7, (rd_T32 x0_1 (wrap64 (a1 + x10_1))).f8, (rd_T32 x0_1 (wrap64 (a1 + x10_1))).f9, (rd_T32 x0_1 (wrap64 (a1 + x10_1))).f10, (rd_T32 x0_1 (wrap64 (a1 + x10_1))).f11⟩ : S32)) a1 a2 a3 (wrap64 (x10_1 + 1))) else (none)) else (none)) else (none)) else (none)) = some r := by first | (rw [hji7] at H; exact H) | (simp only [hji7] at H ⊢; exact H)
    have hji7w : (IntKind.i64.wrap (a2 + x10_1)) = ji7 := (i64_w _).trans hji7
    by_cases c8 : 0 ≤ (ji7)
    ·rw [if_pos c8] at H
     have c8b0 : decide (0 ≤ (ji7)) = true := decide_eq_true c8
     clear c8
     by_cases c9 : (ji7) < (x0_1.length : Int)
     ·rw [if_pos c9] at H
      have c9b0 : decide ((ji7) < (x0_1.length : Int)) = true := decide_eq_true c9
      clear c9
      obtain ⟨ji10, hji10⟩ : ∃ j_ : Int, (wrap64 (a1 + x10_1)) = j_ := ⟨_, rfl⟩
      replace H : (if 0 ≤ (ji10) then (if (ji10) < (x0_1.length : Int) then (slices_swapRangeCmpFunc_Job__job_Due_1.l0 k1 ((x0_1.set ((ji10) : Int).toNat (⟨(rd_T32 x0_1 (ji7)).f0, (rd_T32 x0_1 (ji7)).f1, (rd_T32 x0_1 (ji7)).f2, (rd_T32 x0_1 (ji7)).f3, (rd_T32 x0_1 (ji7)).f4, (rd_T32 x0_1 (ji7)).f5, (rd_T32 x0_1 (ji7)).f6, (rd_T32 x0_1 (ji7)).f7, (rd_T32 x0_1 (ji7)).f8, (rd_T32 x0_1 (ji7)).f9, (rd_T32 x0_1 (ji7)).f10, (rd_T32 x0_1 (ji7)).f11⟩ : S32)).set ((ji7) : Int).toNat (⟨(rd_T32 x0_1 (ji10)).f0, (rd_T32 x0_1 (ji10)).f1, (rd_T32 x0_1 (ji10)).f2, (rd_T32 x0_1 (ji10)).f3, (rd_T32 x0_1 (ji10)).f4, (rd_T32 x0_1 (ji10)).f5, (rd_T32 x0_1 (ji10)).f6, (rd_T32 x0_1 (ji10)).f7, (rd_T32 x0_1 (ji10)).f8, (rd_T32 x0_1 (ji10)).f9, (rd_T32 x0_1 (ji10)).f10, (rd_T32 x0_1 (ji10)).f11⟩ : S32)) a1 a2 a3 (wrap64 (x10_1 + 1))) else (none)) else (none)) = some r := by first | (rw [hji10] at H; exact H) | (simp only [hji10] at H ⊢; exact H)
      have hji10w : (IntKind.i64.wrap (a1 + x10_1)) = ji10 := (i64_w _).trans hji10
      (try simp only [hji10] at hji7)
      (try simp only [hji10w] at hji7w)
      by_cases c11 : 0 ≤ (ji10)
      ·rw [if_pos c11] at H
       have c11b0 : decide (0 ≤ (ji10)) = true := decide_eq_true c11
       clear c11
       by_cases c12 : (ji10) < (x0_1.length : Int)
       ·rw [if_pos c12] at H
        have c12b0 : decide ((ji10) < (x0_1.length : Int)) = true := decide_eq_true c12
        clear c12
        obtain ⟨y276, hy276⟩ : ∃ y_ : List (S32), y_ = (x0_1.set ((ji10) : Int).toNat (⟨(rd_T32 x0_1 (ji7)).f0, (rd_T32 x0_1 (ji7)).f1, (rd_T32 x0_1 (ji7)).f2, (rd_T32 x0_1 (ji7)).f3, (rd_T32 x0_1 (ji7)).f4, (rd_T32 x0_1 (ji7)).f5, (rd_T32 x0_1 (ji7)).f6, (rd_T32 x0_1 (ji7)).f7, (rd_T32 x0_1 (ji7)).f8, (rd_T32 x0_1 (ji7)).f9, (rd_T32 x0_1 (ji7)).f10, (rd_T32 x0_1 (ji7)).f11⟩ : S32)) := ⟨_, rfl⟩
        replace H : (slices_swapRangeCmpFunc_Job__job_Due_1.l0 k1 (y276.set ((ji7) : Int).toNat (⟨(rd_T32 x0_1 (ji10)).f0, (rd_T32 x0_1 (ji10)).f1, (rd_T32 x0_1 (ji10)).f2, (rd_T32 x0_1 (ji10)).f3, (rd_T32 x0_1 (ji10)).f4, (rd_T32 x0_1 (ji10)).f5, (rd_T32 x0_1 (ji10)).f6, (rd_T32 x0_1 (ji10)).f7, (rd_T32 x0_1 (ji10)).f8, (rd_T32 x0_1 (ji10)).f9, (rd_T32 x0_1 (ji10)).f10, (rd_T32 x0_1 (ji10)).f11⟩ : S32)) a1 a2 a3 (wrap64 (x10_1 + 1))) = some r := mH hy276 H
        have Ny276 := Aside0.mk hy276
        clear hy276
        obtain ⟨y277, hy277⟩ : ∃ y_ : List (S32), y_ = (y276.set ((ji7) : Int).toNat (⟨(rd_T32 x0_1 (ji10)).f0, (rd_T32 x0_1 (ji10)).f1, (rd_T32 x0_1 (ji10)).f2, (rd_T32 x0_1 (ji10)).f3, (rd_T32 x0_1 (ji10)).f4, (rd_T32 x0_1 (ji10)).f5, (rd_T32 x0_1 (ji10)).f6, (rd_T32 x0_1 (ji10)).f7, (rd_T32 x0_1 (ji10)).f8, (rd_T32 x0_1 (ji10)).f9, (rd_T32 x0_1 (ji10)).f10, (rd_T32 x0_1 (ji10)).f11⟩ : S32)) := ⟨_, rfl⟩
        replace H : (slices_swapRangeCmpFunc_Job__job_Due_1.l0 k1 y277 a1 a2 a3 (wrap64 (x10_1 + 1))) = some r := mH hy277 H
        have Ny277 := Aside0.mk hy277
        clear hy277
        have H' := Aside0.mk H
        clear H
        try go_wp2
        have n0_ := Aside0.mk (Kd.R_drew HO_0.out)
        have n1_ := Aside0.mk (Kept.drew HK.out)
        have n2_ := Aside0.mk (below_drew1 HB.out)
        clear HO_0; clear HK; clear HB
        have HO_0 := n0_
        have HK := n1_
        have HB := n2_
        clear n0_; clear n1_; clear n2_
        obtain ⟨Ao16, co16, eo16⟩ := Kd.R_slice HO_0.out
        (first | subst eo16 | (injection eo16 with f1_ f2_ f3_; have f4_ := f1_.symm; have f5_ := f3_.symm; clear f1_ f2_ f3_; subst f4_; subst f5_))
        have p274 : 0 ≤ ((ji7) : Int) := oda
        have q274 : (ji7) < (x0_1.length : Int) := oda
        obtain ⟨ad274, e274, hx274_0, hx274_1, hx274_2, hx274_3, hx274_4, hx274_5, hx274_6, hx274_7, hx274_8, hx274_9, hx274_10, hx274_11⟩ := at_T32 (Kd.R_reads' HO_0.out).2.2 (ji7) p274 q274
        cases e274
        replace p274 := eq_true p274
        replace q274 := eq_true q274
        have p275 : 0 ≤ ((ji10) : Int) := oda
        have q275 : (ji10) < (x0_1.length : Int) := oda
        obtain ⟨ad275, e275, hx275_0, hx275_1, hx275_2, hx275_3, hx275_4, hx275_5, hx275_6, hx275_7, hx275_8, hx275_9, hx275_10, hx275_11⟩ := at_T32 (Kd.R_reads' HO_0.out).2.2 (ji10) p275 q275
        obtain rfl : ad274 = ad275 := (by injection e275)
        replace p275 := eq_true p275
        replace q275 := eq_true q275
        have p13 : 0 ≤ ((ji10) : Int) := oda
        have q13 : ((ji10) : Int) < ((x0_1.length : Int) : Int) := oda
        obtain ⟨go13, co13, eo13, gb13, gl13, cl13, HG13⟩ := Kd.R_form HO_0.out (by omega)
        (first | cases eo13 | (injection eo13 with ea_ en_ ec_; (first | subst ea_ | (injection ea_ with ea_; subst ea_)); subst ec_; clear en_))
        have GB13 := Aside0.mk gb13
        have GG13 := Aside0.mk HG13
        clear gb13; clear gl13; clear HG13
        have HMgo13 := Aside0.mk (show (P0_ go13 ∨ w.heap.size ≤ go13) from (HO_0.out.1 _ rfl))
        (first | simp only [add_plain] at hx274_0 | skip)
        (first | simp only [add_plain] at hx274_1 | skip)
        (first | simp only [add_plain] at hx274_2 | skip)
        (first | simp only [add_plain] at hx274_3 | skip)
        (first | simp only [add_plain] at hx274_4 | skip)
        (first | simp only [add_plain] at hx274_5 | skip)
        (first | simp only [add_plain] at hx274_6 | skip)
        (first | simp only [add_plain] at hx274_7 | skip)
        (first | simp only [add_plain] at hx274_8 | skip)
        (first | simp only [add_plain] at hx274_9 | skip)
        (first | simp only [add_plain] at hx274_10 | skip)
        (first | simp only [add_plain] at hx274_11 | skip)
        (first | simp only [add_plain] at hx275_0 | skip)
        (first | simp only [add_plain] at hx275_1 | skip)
        (first | simp only [add_plain] at hx275_2 | skip)
        (first | simp only [add_plain] at hx275_3 | skip)
        (first | simp only [add_plain] at hx275_4 | skip)
        (first | simp only [add_plain] at hx275_5 | skip)
        (first | simp only [add_plain] at hx275_6 | skip)
        (first | simp only [add_plain] at hx275_7 | skip)
        (first | simp only [add_plain] at hx275_8 | skip)
        (first | simp only [add_plain] at hx275_9 | skip)
        (first | simp only [add_plain] at hx275_10 | skip)
        (first | simp only [add_plain] at hx275_11 | skip)
        refine start_ (n := 24) (S := fun w' => w'.cell? ⟨go13, (((ji7)).toNat * 12), none⟩ = some (.int .i64 ((rd_T32 x0_1 (ji7)).f0)) ∧ w'.cell? ⟨go13, (((ji7)).toNat * 12) + 1, none⟩ = some (.int .i64 ((rd_T32 x0_1 (ji7)).f1)) ∧ w'.cell? ⟨go13, (((ji7)).toNat * 12) + 2, none⟩ = some (.int .i64 ((rd_T32 x0_1 (ji7)).f2)) ∧ w'.cell? ⟨go13, (((ji7)).toNat * 12) + 3, none⟩ = some (.int .i64 ((rd_T32 x0_1 (ji7)).f3)) ∧ w'.cell? ⟨go13, (((ji7)).toNat * 12) + 4, none⟩ = some (.int .i64 ((rd_T32 x0_1 (ji7)).f4)) ∧ w'.cell? ⟨go13, (((ji7)).toNat * 12) + 5, none⟩ = some (.int .i64 ((rd_T32 x0_1 (ji7)).f5)) ∧ w'.cell? ⟨go13, (((ji7)).toNat * 12) + 6, none⟩ = some (.int .i64 ((rd_T32 x0_1 (ji7)).f6)) ∧ w'.cell? ⟨go13, (((ji7)).toNat * 12) + 7, none⟩ = some (.int .i64 ((rd_T32 x0_1 (ji7)).f7)) ∧ w'.cell? ⟨go13, (((ji7)).toNat * 12) + 8, none⟩ = some (.int .i64 ((rd_T32 x0_1 (ji7)).f8)) ∧ w'.cell? ⟨go13, (((ji7)).toNat * 12) + 9, none⟩ = some (.int .i64 ((rd_T32 x0_1 (ji7)).f9)) ∧ w'.cell? ⟨go13, (((ji7)).toNat * 12) + 10, none⟩ = some (.int .i64 ((rd_T32 x0_1 (ji7)).f10)) ∧ w'.cell? ⟨go13, (((ji7)).toNat * 12) + 11, none⟩ = some (.slice ((rd_T32 x0_1 (ji7)).f11).A ((rd_T32 x0_1 (ji7)).f11).n ((rd_T32 x0_1 (ji7)).f11).c) ∧ w'.cell? ⟨go13, (((ji10)).toNat * 12), none⟩ = some (.int .i64 ((rd_T32 x0_1 (ji10)).f0)) ∧ w'.cell? ⟨go13, (((ji10)).toNat * 12) + 1, none⟩ = some (.int .i64 ((rd_T32 x0_1 (ji10)).f1)) ∧ w'.cell? ⟨go13, (((ji10)).toNat * 12) + 2, none⟩ = some (.int .i64 ((rd_T32 x0_1 (ji10)).f2)) ∧ w'.cell? ⟨go13, (((ji10)).toNat * 12) + 3, none⟩ = some (.int .i64 ((rd_T32 x0_1 (ji10)).f3)) ∧ w'.cell? ⟨go13, (((ji10)).toNat * 12) + 4, none⟩ = some (.int .i64 ((rd_T32 x0_1 (ji10)).f4)) ∧ w'.cell? ⟨go13, (((ji10)).toNat * 12) + 5, none⟩ = some (.int .i64 ((rd_T32 x0_1 (ji10)).f5)) ∧ w'.cell? ⟨go13, (((ji10)).toNat * 12) + 6, none⟩ = some (.int .i64 ((rd_T32 x0_1 (ji10)).f6)) ∧ w'.cell? ⟨go13, (((ji10)).toNat * 12) + 7, none⟩ = some (.int .i64 ((rd_T32 x0_1 (ji10)).f7)) ∧ w'.cell? ⟨go13, (((ji10)).toNat * 12) + 8, none⟩ = some (.int .i64 ((rd_T32 x0_1 (ji10)).f8)) ∧ w'.cell? ⟨go13, (((ji10)).toNat * 12) + 9, none⟩ = some (.int .i64 ((rd_T32 x0_1 (ji10)).f9)) ∧ w'.cell? ⟨go13, (((ji10)).toNat * 12) + 10, none⟩ = some (.int .i64 ((rd_T32 x0_1 (ji10)).f10)) ∧ w'.cell? ⟨go13, (((ji10)).toNat * 12) + 11, none⟩ = some (.slice ((rd_T32 x0_1 (ji10)).f11).A ((rd_T32 x0_1 (ji10)).f11).n ((rd_T32 x0_1 (ji10)).f11).c)) (ds := [21, 23]) #[false, false, false, false, false, false, false, false, false, false, false, false, false, false, false, false, false, false, false, false, false, false, false, false] (by kernel_rfl) rfl rfl ⟨hx274_0, hx274_1, hx274_2, hx274_3, hx274_4, hx274_5, hx274_6, hx274_7, hx274_8, hx274_9, hx274_10, hx274_11, hx275_0, hx275_1, hx275_2, hx275_3, hx275_4, hx275_5, hx275_6, hx275_7, hx275_8, hx275_9, hx275_10, hx275_11⟩ (fun hHeld => ?_); refine with_tabW slices_swapRangeCmpFunc_Job__job_Due_1.tab3 slices_swapRangeCmpFunc_Job__job_Due_1.bits3 (fun HT_ HW_ => ?_)
        generalize wr.drew = w15 at HO_0 HK HB GG13 hx274_0 hx274_1 hx274_10 hx274_11 hx274_2 hx274_3 hx274_4 hx274_5 hx274_6 hx274_7 hx274_8 hx274_9 hx275_0 hx275_1 hx275_10 hx275_11 hx275_2 hx275_3 hx275_4 hx275_5 hx275_6 hx275_7 hx275_8 hx275_9 hHeld ⊢
        refine plan_ [(0, 16), (1, 17), (2, 18), (3, 19), (4, 20), (5, 21), (6, 22), (7, 23), (8, 24), (9, 25), (10, 26), (11, 27), (12, 28), (14, 30), (15, 31), (16, 32), (17, 33), (18, 34)] ?_
        iterate 18 (refine planP_ (v := ?_) (a' := ?_) rfl rfl (any_of HT_.out (by kernel_rfl)) (fun _ _ _ h => h) (Or.inl ⟨by rfl, ?_⟩) ?_ ?_; rotate_left; (intro w'; go_simp; with_reducible rfl); rotate_left; (simp only [Act.put, List.setIfInBounds_toArray, List.set_cons_zero, List.set_cons_succ, i64_w, i32_w]; rfl))
        refine planEnd_ ?_
        refine plan_ [(13, 29), (19, 35)] ?_
        iterate 2 (refine planT_ (v := ?_) (a' := ?_) rfl rfl (take_ofW HT_.out HW_.out (by kernel_rfl)) (fun _ _ _ h => h) (Or.inl ⟨by rfl, ?_⟩) hHeld ?_ ?_; rotate_left; (rintro w' ⟨s0, s1, s2, s3, s4, s5, s6, s7, s8, s9, s10, s11, s12, s13, s14, s15, s16, s17, s18, s19, s20, s21, s22, s23⟩; go_simp; with_reducible rfl); rotate_left; (simp only [Act.put, List.setIfInBounds_toArray, List.set_cons_zero, List.set_cons_succ, i64_w, i32_w]; rfl))
        refine planEnd_ ?_
        refine plan_ [(20, 36)] ?_
        refine planP_ (v := ?_) (a' := ?_) rfl rfl (any_of HT_.out (by kernel_rfl)) (fun _ _ _ h => h) (Or.inl ⟨by rfl, ?_⟩) ?_ ?_; rotate_left; (intro w'; go_simp; with_reducible rfl); rotate_left; (simp only [Act.put, List.setIfInBounds_toArray, List.set_cons_zero, List.set_cons_succ, i64_w, i32_w]; rfl)
        refine planEnd_ ?_
        refine last_ (i := 21) (N := none) #[true, true, true, true, true, true, true, true, true, true, true, true, true, true, true, true, true, true, true, true, true, true, false, false] rfl rfl (one_of HT_.out (by kernel_rfl)) (by decide) (fun K hK => ?_)
        refine storeW_ k32 (w0 := w0) (g := go13) (ji10) z32 (⟨(rd_T32 x0_1 (ji7)).f0, (rd_T32 x0_1 (ji7)).f1, (rd_T32 x0_1 (ji7)).f2, (rd_T32 x0_1 (ji7)).f3, (rd_T32 x0_1 (ji7)).f4, (rd_T32 x0_1 (ji7)).f5, (rd_T32 x0_1 (ji7)).f6, (rd_T32 x0_1 (ji7)).f7, (rd_T32 x0_1 (ji7)).f8, (rd_T32 x0_1 (ji7)).f9, (rd_T32 x0_1 (ji7)).f10, (rd_T32 x0_1 (ji7)).f11⟩ : S32) [.int .i64 ((rd_T32 x0_1 (ji7)).f0), .int .i64 ((rd_T32 x0_1 (ji7)).f1), .int .i64 ((rd_T32 x0_1 (ji7)).f2), .int .i64 ((rd_T32 x0_1 (ji7)).f3), .int .i64 ((rd_T32 x0_1 (ji7)).f4), .int .i64 ((rd_T32 x0_1 (ji7)).f5), .int .i64 ((rd_T32 x0_1 (ji7)).f6), .int .i64 ((rd_T32 x0_1 (ji7)).f7), .int .i64 ((rd_T32 x0_1 (ji7)).f8), .int .i64 ((rd_T32 x0_1 (ji7)).f9), .int .i64 ((rd_T32 x0_1 (ji7)).f10), .slice ((rd_T32 x0_1 (ji7)).f11).A ((rd_T32 x0_1 (ji7)).f11).n ((rd_T32 x0_1 (ji7)).f11).c] (by rfl) rfl rfl (by first | rfl | (go_simp; done) | (go_simp; rfl)) rfl (by first | rfl | (go_simp; done) | (go_simp; rfl)) rfl (by kernel_rfl) rfl one12 HO_0.out (of_eq_true p275) (of_eq_true q275) (k32_mkM _ _ _ (⟨(rd_T32 x0_1 (ji7)).f0, (rd_T32 x0_1 (ji7)).f1, (rd_T32 x0_1 (ji7)).f2, (rd_T32 x0_1 (ji7)).f3, (rd_T32 x0_1 (ji7)).f4, (rd_T32 x0_1 (ji7)).f5, (rd_T32 x0_1 (ji7)).f6, (rd_T32 x0_1 (ji7)).f7, (rd_T32 x0_1 (ji7)).f8, (rd_T32 x0_1 (ji7)).f9, (rd_T32 x0_1 (ji7)).f10, (rd_T32 x0_1 (ji7)).f11⟩ : S32)) (fun _ hk => hk) HB.out ?_
        intro wa hoa hba hga
        rw [← Ny276.out] at hoa
        have n0_ := Aside0.mk hoa
        have n1_ := Aside0.mk hba
        have n2_ := Aside0.mk (Kept.of_grown hga HK.out (fun k e_ => by injection e_ with e_; subst e_; exact HMgo13.out))
        clear HO_0; clear HB; clear HK; clear hoa; clear hba; clear hga
        have HO_0 := n0_
        have HB := n1_
        have HK := n2_
        clear n0_; clear n1_; clear n2_
        refine hK.out _ _ ?_
        clear hK; clear K
        refine plan_ [(22, 37)] ?_
        refine planP_ (v := ?_) (a' := ?_) rfl rfl (any_of HT_.out (by kernel_rfl)) (fun _ _ _ h => h) (Or.inl ⟨by rfl, ?_⟩) ?_ ?_; rotate_left; (intro w'; go_simp; with_reducible rfl); rotate_left; (simp only [Act.put, List.setIfInBounds_toArray, List.set_cons_zero, List.set_cons_succ, i64_w, i32_w]; rfl)
        refine planEnd_ ?_
        refine last_ (i := 23) (N := none) #[true, true, true, true, true, true, true, true, true, true, true, true, true, true, true, true, true, true, true, true, true, true, true, true] rfl rfl (one_of HT_.out (by kernel_rfl)) (by decide) (fun K hK => ?_)
        refine storeW_ k32 (w0 := w0) (g := go13) (ji7) z32 (⟨(rd_T32 x0_1 (ji10)).f0, (rd_T32 x0_1 (ji10)).f1, (rd_T32 x0_1 (ji10)).f2, (rd_T32 x0_1 (ji10)).f3, (rd_T32 x0_1 (ji10)).f4, (rd_T32 x0_1 (ji10)).f5, (rd_T32 x0_1 (ji10)).f6, (rd_T32 x0_1 (ji10)).f7, (rd_T32 x0_1 (ji10)).f8, (rd_T32 x0_1 (ji10)).f9, (rd_T32 x0_1 (ji10)).f10, (rd_T32 x0_1 (ji10)).f11⟩ : S32) [.int .i64 ((rd_T32 x0_1 (ji10)).f0), .int .i64 ((rd_T32 x0_1 (ji10)).f1), .int .i64 ((rd_T32 x0_1 (ji10)).f2), .int .i64 ((rd_T32 x0_1 (ji10)).f3), .int .i64 ((rd_T32 x0_1 (ji10)).f4), .int .i64 ((rd_T32 x0_1 (ji10)).f5), .int .i64 ((rd_T32 x0_1 (ji10)).f6), .int .i64 ((rd_T32 x0_1 (ji10)).f7), .int .i64 ((rd_T32 x0_1 (ji10)).f8), .int .i64 ((rd_T32 x0_1 (ji10)).f9), .int .i64 ((rd_T32 x0_1 (ji10)).f10), .slice ((rd_T32 x0_1 (ji10)).f11).A ((rd_T32 x0_1 (ji10)).f11).n ((rd_T32 x0_1 (ji10)).f11).c] (by rfl) rfl rfl (by first | rfl | (go_simp; done) | (go_simp; rfl)) rfl (by first | rfl | (go_simp; done) | (go_simp; rfl)) rfl (by kernel_rfl) rfl one12 HO_0.out (of_eq_true p274) (of_eq_true q274) (k32_mkM _ _ _ (⟨(rd_T32 x0_1 (ji10)).f0, (rd_T32 x0_1 (ji10)).f1, (rd_T32 x0_1 (ji10)).f2, (rd_T32 x0_1 (ji10)).f3, (rd_T32 x0_1 (ji10)).f4, (rd_T32 x0_1 (ji10)).f5, (rd_T32 x0_1 (ji10)).f6, (rd_T32 x0_1 (ji10)).f7, (rd_T32 x0_1 (ji10)).f8, (rd_T32 x0_1 (ji10)).f9, (rd_T32 x0_1 (ji10)).f10, (rd_T32 x0_1 (ji10)).f11⟩ : S32)) (fun _ hk => hk) HB.out ?_
        intro wb hob hbb hgb
        rw [← Ny277.out] at hob
        have n0_ := Aside0.mk hob
        have n1_ := Aside0.mk hbb
        have n2_ := Aside0.mk (Kept.of_grown hgb HK.out (fun k e_ => by injection e_ with e_; subst e_; exact HMgo13.out))
        clear HO_0; clear HB; clear HK; clear hob; clear hbb; clear hgb
        have HO_0 := n0_
        have HB := n1_
        have HK := n2_
        clear n0_; clear n1_; clear n2_
        refine hK.out _ _ ?_
        clear hK; clear K
        refine done_ (done_of HT_.out (by kernel_rfl)) ?_
        try go_wp2
        go_roundg k1
        case measure => have := HK1.out; omega
        case rel => exact ⟨(y277), (wrap64 (x10_1 + 1)), ez, H', ⟨by have := HK1.out; omega⟩, ⟨mR HO_0.out⟩, ⟨by repeat (first | (with_reducible first | exact HK.out | apply Kept.alloc | apply Kept.drewN | apply Kept.drew | refine Kept.setCell ?_ HMgo13.out _ | refine Kept.setCell ?_ HMgo13.out _ | refine Kept.setCell ?_ HMgo13.out _ | refine Kept.setCell ?_ HMgo13.out _ | refine Kept.setCell ?_ HMgo13.out _ | refine Kept.setCell ?_ HMgo13.out _ | refine Kept.setCell ?_ HMgo13.out _ | refine Kept.setCell ?_ HMgo13.out _ | refine Kept.setCell ?_ HMgo13.out _ | refine Kept.setCell ?_ HMgo13.out _ | refine Kept.setCell ?_ HMgo13.out _ | refine Kept.setCell ?_ HMgo13.out _ | refine Kept.setCell ?_ HMgo13.out _ | refine Kept.setCell ?_ HMgo13.out _ | refine Kept.setCell ?_ HMgo13.out _ | refine Kept.setCell ?_ HMgo13.out _ | refine Kept.setCell ?_ HMgo13.out _ | refine Kept.setCell ?_ HMgo13.out _ | refine Kept.setCell ?_ HMgo13.out _ | refine Kept.setCell ?_ HMgo13.out _ | refine Kept.setCell ?_ HMgo13.out _ | refine Kept.setCell ?_ HMgo13.out _ | refine Kept.setCell ?_ HMgo13.out _ | refine Kept.setCell ?_ HMgo13.out _) | exact HK.out)⟩, ⟨mBs HB.out⟩⟩
       ·rw [if_neg c12] at H
        exact absurd H (by simp)
      ·rw [if_neg c11] at H
       exact absurd H (by simp)
     ·rw [if_neg c9] at H
      exact absurd H (by simp)
    ·rw [if_neg c8] at H
     exact absurd H (by simp)
   ·rw [if_neg c6] at H
    have c6b0 : decide (x10_1 < a3) = false := decide_eq_false c6
    clear c6
    obtain rfl := Option.some.inj H
    go_wp2
    first | go_end0 | ((try simp only [Exit.inBlock, Exit.then]); refine bodyPost_ret (results_none rfl _ _ _) rfl ?_)
    exact ⟨by first | rfl | (simp [errW_none, errW_some] <;> rfl) | (simp [*, errW_none, errW_some] <;> rfl), mR HO_0.out, by repeat (first | (with_reducible first | exact HB.out | apply below_alloc | apply pw_below_drewN | apply below_drew1) | exact HB.out), by repeat (first | (with_reducible first | exact HK.out | apply Kept.alloc | apply Kept.drewN | apply Kept.drew) | exact HK.out)⟩

end Go.Proofs.Ytkhfgflcanmefaa.PAll
end
section
namespace Go.Proofs.Ytkhfgflcanmefaa.PAll
open Go.RowKit Go.Proofs.YtkhfgflcanmefaaW.PrintWords Go.Proofs.YtkhfgflcanmefaaW.PrintLast Go.Proofs.YtkhfgflcanmefaaW.PrintMore
attribute [local go_sem] max2_int min2_int max_two min_two max_three min_three max_four min_four   -- for this text's walks alone
set_option linter.unusedVariables false
set_option linter.unusedSimpArgs false

def slices_rotateCmpFunc_Job__job_Due_1.l0 : Nat → List (S32) → Int → Int → Int → Option ((List (S32)))
  | 0, _, _, _, _ => none
  | k + 1, x0, x2, x10, x11 => if x10 = x11 then ((slices_swapRangeCmpFunc_Job__job_Due_1.f k x0 (wrap64 (x2 - x10)) x2 x10).bind fun t278 => (some t278)) else (if x10 > x11 then ((slices_swapRangeCmpFunc_Job__job_Due_1.f k x0 (wrap64 (x2 - x10)) x2 x11).bind fun t279 => (slices_rotateCmpFunc_Job__job_Due_1.l0 k t279 x2 (wrap64 (x10 - x11)) x11)) else ((slices_swapRangeCmpFunc_Job__job_Due_1.f k x0 (wrap64 (x2 - x10)) (wrap64 ((wrap64 (x2 + x11)) - x10)) x10).bind fun t280 => (slices_rotateCmpFunc_Job__job_Due_1.l0 k t280 x2 x10 (wrap64 (x11 - x10)))))
def slices_rotateCmpFunc_Job__job_Due_1.f (k : Nat) (l0 : List (S32)) (a1 : Int) (a2 : Int) (a3 : Int)  : Option ((List (S32))) := slices_rotateCmpFunc_Job__job_Due_1.l0 k l0 a2 (wrap64 (a2 - a1)) (wrap64 (a3 - a2))
theorem slices_rotateCmpFunc_Job__job_Due_1.mono_l : ∀ k, (∀ y0 y1 y2 y3, LeO (slices_rotateCmpFunc_Job__job_Due_1.l0 k y0 y1 y2 y3) (slices_rotateCmpFunc_Job__job_Due_1.l0 (k + 1) y0 y1 y2 y3))
  | 0 => fun _ _ _ _ r h => by simp [slices_rotateCmpFunc_Job__job_Due_1.l0] at h
  | k + 1 => by
    have ih0 := slices_rotateCmpFunc_Job__job_Due_1.mono_l k
    · intro y0 y1 y2 y3
      unfold slices_rotateCmpFunc_Job__job_Due_1.l0
      repeat' first
      | (with_reducible exact ih0 _ _ _ _)
      | (with_reducible exact slices_swapRangeCmpFunc_Job__job_Due_1.mono _ _ _ _ _)
      | (with_reducible exact LeO.refl _)
      | (with_reducible exact LeO.none _)
      | (with_reducible refine LeO.ite ?_ ?_)
      | (with_reducible refine LeO.bind ?_ (fun _ => ?_))
      | exact ih0 _ _ _ _
      | exact slices_swapRangeCmpFunc_Job__job_Due_1.mono _ _ _ _ _
      | exact LeO.none _
      | refine LeO.ite ?_ ?_
      | refine LeO.bind ?_ (fun _ => ?_)
theorem slices_rotateCmpFunc_Job__job_Due_1.mono : ∀ a0 a1 a2 a3 k, LeO (slices_rotateCmpFunc_Job__job_Due_1.f k a0 a1 a2 a3) (slices_rotateCmpFunc_Job__job_Due_1.f (k + 1) a0 a1 a2 a3) := by
  intro a0 a1 a2 a3 k
  have ih0 := slices_rotateCmpFunc_Job__job_Due_1.mono_l k
  unfold slices_rotateCmpFunc_Job__job_Due_1.f
  repeat' first
      | (with_reducible exact ih0 _ _ _ _)
      | (with_reducible exact slices_swapRangeCmpFunc_Job__job_Due_1.mono _ _ _ _ _)
      | (with_reducible exact LeO.refl _)
      | (with_reducible exact LeO.none _)
      | (with_reducible refine LeO.ite ?_ ?_)
      | (with_reducible refine LeO.bind ?_ (fun _ => ?_))
      | exact ih0 _ _ _ _
      | exact slices_swapRangeCmpFunc_Job__job_Due_1.mono _ _ _ _ _
      | exact LeO.none _
      | refine LeO.ite ?_ ?_
      | refine LeO.bind ?_ (fun _ => ?_)
set_option maxHeartbeats 8000000 in
set_option maxRecDepth 100000 in
theorem slices_rotateCmpFunc_Job__job_Due_1.calls (k : Nat) (P0_ : Nat → Prop) (u9000_ : Value) (l0 : List (S32)) (a1 : Int) (a2 : Int) (a3 : Int)  (r : List (S32)) (w0 w : World) (hB : Below w0.heap.size w0 w) (ho0 : Kd.R k32 32 w w0.heap.size P0_ u9000_ l0) (h : slices_rotateCmpFunc_Job__job_Due_1.f k l0 a1 a2 a3 = some r) :
    Calls Try.prog 70 #[u9000_, .int .i64 a1, .int .i64 a2, .int .i64 a3, .func (.func 47) #[] #[]] w fun e w' => e = .returned (.tuple #[]) ∧ Kd.R k32 32 w' w0.heap.size (fun k_ => (P0_ k_ ∨ w.heap.size ≤ k_)) u9000_ r ∧ Below w0.heap.size w0 w' ∧ Kept w w' (fun k_ => P0_ k_) := by
  have HO0 := Aside0.mk (show Kd.R k32 32 w w0.heap.size (fun k_ => (P0_ k_ ∨ w.heap.size ≤ k_)) u9000_ l0 from Kd.R_mono ho0 (fun k_ hk => (.inl hk)))
  have HK := Aside0.mk (Kept.refl w (fun k_ => P0_ k_))
  have HW0 := Aside0.mk hB.size
  have HB := Aside0.mk hB
  clear hB
  have H : (slices_rotateCmpFunc_Job__job_Due_1.l0 k l0 a2 (wrap64 (a2 - a1)) (wrap64 (a3 - a2))) = some r := h
  clear h
  have H' := Aside0.mk H
  clear H
  go_enter Try.func70, Try.ntmps70
  go_wp2
  go_loopg [10, 11] k (fun kq v10 v11 w' => ∃ (x0_1 : List (S32)) (x10_1 : Int) (x11_1 : Int), v10 = .int .i64 x10_1 ∧ v11 = .int .i64 x11_1 ∧ Aside0 (slices_rotateCmpFunc_Job__job_Due_1.l0 kq x0_1 a2 x10_1 x11_1 = some r) ∧ Aside0 (kq ≤ k) ∧ Aside0 (Kd.R k32 32 w' w0.heap.size (fun k_ => (P0_ k_ ∨ w.heap.size ≤ k_)) u9000_ x0_1) ∧ Aside0 (Kept w w' (fun k_ => P0_ k_)) ∧ Aside0 (Below w0.heap.size w0 w'))
  case atStart => exact ⟨(l0), (wrap64 (a2 - a1)), (wrap64 (a3 - a2)), (by first | rfl | (simp; done) | (simp [*]; done)), (by first | rfl | (simp; done) | (simp [*]; done)), H', ⟨Nat.le_refl _⟩, ⟨by (with_reducible repeat (first | apply Kd.R_alloc | apply Kd.R_drewN | apply Kd.R_drew)); exact HO0.out⟩, ⟨by repeat (first | (with_reducible first | exact HK.out | apply Kept.alloc | apply Kept.drewN | apply Kept.drew) | exact HK.out)⟩, ⟨by repeat (first | (with_reducible first | exact HB.out | apply below_alloc | apply pw_below_drewN | apply below_drew1) | exact HB.out)⟩⟩
  case round =>
    clear H'
    try clear p2
    obtain ⟨x0_1, x10_1, x11_1, rfl, rfl, HA, HK1, HO_0, HK, HB⟩ := hrel
    cases gk with
    | zero => exact absurd HA.out (by simp [slices_rotateCmpFunc_Job__job_Due_1.l0])
    | succ k1 =>
      have H := HA.out
      clear HA
      simp only [slices_rotateCmpFunc_Job__job_Due_1.l0] at H
      by_cases c6 : x10_1 = x11_1
      · rw [if_pos c6] at H
        have c6b0 : (x10_1 == x11_1) = true := beq_iff_eq.mpr c6
        have c6b1 : (x10_1 != x11_1) = false := bne_eq_false_iff_eq.mpr c6
        clear c6
        replace H := Option.bind_eq_some_iff.mp H
        obtain ⟨t278, A70, H⟩ := H
        replace H : (some t278) = some r := H
        have A7 := Aside0.mk A70
        clear A70
        obtain rfl := Option.some.inj H
        obtain ⟨Ao8, co8, eo8⟩ := Kd.R_slice HO_0.out
        subst eo8
        go_wp2_with (first | ((with_reducible refine gate_callee (f := 72) rfl ?_); refine goesL_ (some 57) rfl rfl Try.func72 (by kernel_rfl) rfl #[.slice Ao8 x0_1.length co8, .int .i64 (wrap64 (a2 - x10_1)), .int .i64 a2, .int .i64 x10_1, .func (.func 47) #[] #[]] rfl (by (try simp only [List.map_toArray, List.map_cons, List.map_nil]); first | done | rfl | (simp only [List.length_drop, List.length_take]; rfl)) ?_; (with_reducible refine (slices_swapRangeCmpFunc_Job__job_Due_1.calls k1 (fun k_ => some k_ = (.slice Ao8 x0_1.length co8 : Value).ownBlock) (.slice Ao8 x0_1.length co8) x0_1 (wrap64 (a2 - x10_1)) a2 x10_1  t278 w0 _ ?side1 ?side2 A7.out).mono ?_); (case side1 => repeat (first | (with_reducible first | exact HB.out | apply below_alloc | apply pw_below_drewN | apply below_drew1) | exact HB.out)); (case side2 => exact Kd.R_tight rfl HO_0.out); rintro e w9 ⟨rfl, hy0, hb, hkp⟩; refine ⟨_, rfl, ?_⟩; have n0_ := Aside0.mk (Kd.R_reok rfl hy0 (fun k_ e_ => HO_0.out.1 k_ e_)); have n1_ := Aside0.mk (Kept.then_ (S := (fun k_ => P0_ k_)) (by repeat (first | (with_reducible first | exact HK.out | apply Kept.alloc | apply Kept.drewN | apply Kept.drew) | exact HK.out)) hkp (fun k_ hs_ => (fun e_ => (HO_0.out.1 k_ e_.symm)) hs_)); have n2_ := Aside0.mk (hb); clear HO_0; clear HK; clear HB; have HO_0 := n0_; have HK := n1_; have HB := n2_; clear n0_ n1_ n2_; (try clear hb); (try clear hkp); (try clear hy0)))
        first | go_end0 | ((try simp only [Exit.inBlock, Exit.then]); refine bodyPost_ret (results_none rfl _ _ _) rfl ?_)
        exact ⟨by first | rfl | (simp [errW_none, errW_some] <;> rfl) | (simp [*, errW_none, errW_some] <;> rfl), by (with_reducible repeat (first | apply Kd.R_alloc | apply Kd.R_drewN | apply Kd.R_drew)); exact HO_0.out, by repeat (first | (with_reducible first | exact HB.out | apply below_alloc | apply pw_below_drewN | apply below_drew1) | exact HB.out), by repeat (first | (with_reducible first | exact HK.out | apply Kept.alloc | apply Kept.drewN | apply Kept.drew) | exact HK.out)⟩
      · rw [if_neg c6] at H
        have c6b0 : (x10_1 == x11_1) = false := beq_eq_false_iff_ne.mpr c6
        have c6b1 : (x10_1 != x11_1) = true := bne_iff_ne.mpr c6
        by_cases c10 : x10_1 > x11_1
        · rw [if_pos c10] at H
          have c10b0 : decide (x11_1 < x10_1) = true := decide_eq_true c10
          clear c10
          replace H := Option.bind_eq_some_iff.mp H
          obtain ⟨t279, A110, H⟩ := H
          replace H : (slices_rotateCmpFunc_Job__job_Due_1.l0 k1 t279 a2 (wrap64 (x10_1 - x11_1)) x11_1) = some r := H
          have A11 := Aside0.mk A110
          clear A110
          have H' := Aside0.mk H
          clear H
          obtain ⟨Ao12, co12, eo12⟩ := Kd.R_slice HO_0.out
          subst eo12
          go_wp2_with (first | ((with_reducible refine gate_callee (f := 72) rfl ?_); refine goesL_ (some 31) rfl rfl Try.func72 (by kernel_rfl) rfl #[.slice Ao12 x0_1.length co12, .int .i64 (wrap64 (a2 - x10_1)), .int .i64 a2, .int .i64 x11_1, .func (.func 47) #[] #[]] rfl (by (try simp only [List.map_toArray, List.map_cons, List.map_nil]); first | done | rfl | (simp only [List.length_drop, List.length_take]; rfl)) ?_; (with_reducible refine (slices_swapRangeCmpFunc_Job__job_Due_1.calls k1 (fun k_ => some k_ = (.slice Ao12 x0_1.length co12 : Value).ownBlock) (.slice Ao12 x0_1.length co12) x0_1 (wrap64 (a2 - x10_1)) a2 x11_1  t279 w0 _ ?side1 ?side2 A11.out).mono ?_); (case side1 => repeat (first | (with_reducible first | exact HB.out | apply below_alloc | apply pw_below_drewN | apply below_drew1) | exact HB.out)); (case side2 => exact Kd.R_tight rfl HO_0.out); rintro e w13 ⟨rfl, hy0, hb, hkp⟩; refine ⟨_, rfl, ?_⟩; have n0_ := Aside0.mk (Kd.R_reok rfl hy0 (fun k_ e_ => HO_0.out.1 k_ e_)); have n1_ := Aside0.mk (Kept.then_ (S := (fun k_ => P0_ k_)) (by repeat (first | (with_reducible first | exact HK.out | apply Kept.alloc | apply Kept.drewN | apply Kept.drew) | exact HK.out)) hkp (fun k_ hs_ => (fun e_ => (HO_0.out.1 k_ e_.symm)) hs_)); have n2_ := Aside0.mk (hb); clear HO_0; clear HK; clear HB; have HO_0 := n0_; have HK := n1_; have HB := n2_; clear n0_ n1_ n2_; (try clear hb); (try clear hkp); (try clear hy0)))
          go_roundg k1
          case measure => have := HK1.out; omega
          case rel => exact ⟨(t279), (wrap64 (x10_1 - x11_1)), (x11_1), (by first | rfl | (simp; done) | (simp [*]; done)), (by first | rfl | (simp; done) | (simp [*]; done)), H', ⟨by have := HK1.out; omega⟩, ⟨by (with_reducible repeat (first | apply Kd.R_alloc | apply Kd.R_drewN | apply Kd.R_drew)); exact HO_0.out⟩, ⟨by repeat (first | (with_reducible first | exact HK.out | apply Kept.alloc | apply Kept.drewN | apply Kept.drew) | exact HK.out)⟩, ⟨by repeat (first | (with_reducible first | exact HB.out | apply below_alloc | apply pw_below_drewN | apply below_drew1) | exact HB.out)⟩⟩
        · rw [if_neg c10] at H
          have c10b0 : decide (x11_1 < x10_1) = false := decide_eq_false c10
          clear c10
          replace H := Option.bind_eq_some_iff.mp H
          obtain ⟨t280, A140, H⟩ := H
          replace H : (slices_rotateCmpFunc_Job__job_Due_1.l0 k1 t280 a2 x10_1 (wrap64 (x11_1 - x10_1))) = some r := H
          have A14 := Aside0.mk A140
          clear A140
          have H' := Aside0.mk H
          clear H
          obtain ⟨Ao15, co15, eo15⟩ := Kd.R_slice HO_0.out
          subst eo15
          go_wp2_with (first | ((with_reducible refine gate_callee (f := 72) rfl ?_); refine goesL_ (some 46) rfl rfl Try.func72 (by kernel_rfl) rfl #[.slice Ao15 x0_1.length co15, .int .i64 (wrap64 (a2 - x10_1)), .int .i64 (wrap64 ((wrap64 (a2 + x11_1)) - x10_1)), .int .i64 x10_1, .func (.func 47) #[] #[]] rfl (by (try simp only [List.map_toArray, List.map_cons, List.map_nil]); first | done | rfl | (simp only [List.length_drop, List.length_take]; rfl)) ?_; (with_reducible refine (slices_swapRangeCmpFunc_Job__job_Due_1.calls k1 (fun k_ => some k_ = (.slice Ao15 x0_1.length co15 : Value).ownBlock) (.slice Ao15 x0_1.length co15) x0_1 (wrap64 (a2 - x10_1)) (wrap64 ((wrap64 (a2 + x11_1)) - x10_1)) x10_1  t280 w0 _ ?side1 ?side2 A14.out).mono ?_); (case side1 => repeat (first | (with_reducible first | exact HB.out | apply below_alloc | apply pw_below_drewN | apply below_drew1) | exact HB.out)); (case side2 => exact Kd.R_tight rfl HO_0.out); rintro e w16 ⟨rfl, hy0, hb, hkp⟩; refine ⟨_, rfl, ?_⟩; have n0_ := Aside0.mk (Kd.R_reok rfl hy0 (fun k_ e_ => HO_0.out.1 k_ e_)); have n1_ := Aside0.mk (Kept.then_ (S := (fun k_ => P0_ k_)) (by repeat (first | (with_reducible first | exact HK.out | apply Kept.alloc | apply Kept.drewN | apply Kept.drew) | exact HK.out)) hkp (fun k_ hs_ => (fun e_ => (HO_0.out.1 k_ e_.symm)) hs_)); have n2_ := Aside0.mk (hb); clear HO_0; clear HK; clear HB; have HO_0 := n0_; have HK := n1_; have HB := n2_; clear n0_ n1_ n2_; (try clear hb); (try clear hkp); (try clear hy0)))
          go_roundg k1
          case measure => have := HK1.out; omega
          case rel => exact ⟨(t280), (x10_1), (wrap64 (x11_1 - x10_1)), (by first | rfl | (simp; done) | (simp [*]; done)), (by first | rfl | (simp; done) | (simp [*]; done)), H', ⟨by have := HK1.out; omega⟩, ⟨by (with_reducible repeat (first | apply Kd.R_alloc | apply Kd.R_drewN | apply Kd.R_drew)); exact HO_0.out⟩, ⟨by repeat (first | (with_reducible first | exact HK.out | apply Kept.alloc | apply Kept.drewN | apply Kept.drew) | exact HK.out)⟩, ⟨by repeat (first | (with_reducible first | exact HB.out | apply below_alloc | apply pw_below_drewN | apply below_drew1) | exact HB.out)⟩⟩

end Go.Proofs.Ytkhfgflcanmefaa.PAll
end
section
namespace Go.Proofs.Ytkhfgflcanmefaa.PAll
open Go.RowKit Go.Proofs.YtkhfgflcanmefaaW.PrintWords Go.Proofs.YtkhfgflcanmefaaW.PrintLast Go.Proofs.YtkhfgflcanmefaaW.PrintMore
attribute [local go_sem] max2_int min2_int max_two min_two max_three min_three max_four min_four   -- for this text's walks alone
set_option linter.unusedVariables false
set_option linter.unusedSimpArgs false

mutual
def slices_symMergeCmpFunc_Job__job_Due_1.l0 : Nat → List (S32) → Int → Int → Int → Option ((List (S32)))
 | 0, _, _, _, _ => none
 | k + 1, x0, x1, x10, x11 => if x10 < x11 then (if 0 ≤ (wrap64 ((IntKind.u64.wrap (wrap64 (x10 + x11))) / 2)) then (if (wrap64 ((IntKind.u64.wrap (wrap64 (x10 + x11))) / 2)) < (x0.length : Int) then (if 0 ≤ x1 then (if x1 < (x0.length : Int) then ((job_Due_1.f ((rd_T32 x0 (wrap64 ((IntKind.u64.wrap (wrap64 (x10 + x11))) / 2))).f0) ((rd_T32 x0 (wrap64 ((IntKind.u64.wrap (wrap64 (x10 + x11))) / 2))).f1) ((rd_T32 x0 (wrap64 ((IntKind.u64.wrap (wrap64 (x10 + x11))) / 2))).f2) ((rd_T32 x0 (wrap64 ((IntKind.u64.wrap (wrap64 (x10 + x11))) / 2))).f3) ((rd_T32 x0 (wrap64 ((IntKind.u64.wrap (wrap64 (x10 + x11))) / 2))).f4) ((rd_T32 x0 (wrap64 ((IntKind.u64.wrap (wrap64 (x10 + x11))) / 2))).f5) ((rd_T32 x0 (wrap64 ((IntKind.u64.wrap (wrap64 (x10 + x11))) / 2))).f6) ((rd_T32 x0 (wrap64 ((IntKind.u64.wrap (wrap64 (x10 + x11))) / 2))).f7) ((rd_T32 x0 (wrap64 ((IntKind.u64.wrap (wrap64 (x10 + x11))) / 2))).f8) ((rd_T32 x0 (wrap64 ((IntKind.u64.wrap (wrap64 (x10 + x11))) / 2))).f9) ((rd_T32 x0 (wrap64 ((IntKind.u64.wrap (wrap64 (x10 + x11))) / 2))).f10) ((rd_T32 x0 (wrap64 ((IntKind.u64.wrap (wrap64 (x10 + x11))) / 2))).f11) ((rd_T32 x0 x1).f0) ((rd_T32 x0 x1).f1) ((rd_T32 x0 x1).f2) ((rd_T32 x0 x1).f3) ((rd_T32 x0 x1).f4) ((rd_T32 x0 x1).f5) ((rd_T32 x0 x1).f6) ((rd_T32 x0 x1).f7) ((rd_T32 x0 x1).f8) ((rd_T32 x0 x1).f9) ((rd_T32 x0 x1).f10) ((rd_T32 x0 x1).f11)).bind fun t283 => (if t283 < 0 then (slices_symMergeCmpFunc_Job__job_Due_1.l0 k x0 x1 (wrap64 ((wrap64 ((IntKind.u64.wrap (wrap64 (x10 + x11))) / 2)) + 1)) x11) else (slices_symMergeCmpFunc_Job__job_Due_1.l0 k x0 x1 x10 (wrap64 ((IntKind.u64.wrap (wrap64 (x10 + x11))) / 2))))) else (none)) else (none)) else (none)) else (none)) else (slices_symMergeCmpFunc_Job__job_Due_1.l1 k x0 x10 x1)
def slices_symMergeCmpFunc_Job__job_Due_1.l1 : Nat → List (S32) → Int → Int → Option ((List (S32)))
 | 0, _, _, _ => none
 | k + 1, x0, x10, x13 => if x13 < (wrap64 (x10 - 1)) then (if 0 ≤ (wrap64 (x13 + 1)) then (if (wrap64 (x13 + 1)) < (x0.length : Int) then (if 0 ≤ x13 then (if x13 < (x0.length : Int) then (slices_symMergeCmpFunc_Job__job_Due_1.l1 k ((x0.set (x13 : Int).toNat (⟨(rd_T32 x0 (wrap64 (x13 + 1))).f0, (rd_T32 x0 (wrap64 (x13 + 1))).f1, (rd_T32 x0 (wrap64 (x13 + 1))).f2, (rd_T32 x0 (wrap64 (x13 + 1))).f3, (rd_T32 x0 (wrap64 (x13 + 1))).f4, (rd_T32 x0 (wrap64 (x13 + 1))).f5, (rd_T32 x0 (wrap64 (x13 + 1))).f6, (rd_T32 x0 (wrap64 (x13 + 1))).f7, (rd_T32 x0 (wrap64 (x13 + 1))).f8, (rd_T32 x0 (wrap64 (x13 + 1))).f9, (rd_T32 x0 (wrap64 (x13 + 1))).f10, (rd_T32 x0 (wrap64 (x13 + 1))).f11⟩ : S32)).set ((wrap64 (x13 + 1)) : Int).toNat (⟨(rd_T32 x0 x13).f0, (rd_T32 x0 x13).f1, (rd_T32 x0 x13).f2, (rd_T32 x0 x13).f3, (rd_T32 x0 x13).f4, (rd_T32 x0 x13).f5, (rd_T32 x0 x13).f6, (rd_T32 x0 x13).f7, (rd_T32 x0 x13).f8, (rd_T32 x0 x13).f9, (rd_T32 x0 x13).f10, (rd_T32 x0 x13).f11⟩ : S32)) x10 (wrap64 (x13 + 1))) else (none)) else (none)) else (none)) else (none)) else (some x0)
def slices_symMergeCmpFunc_Job__job_Due_1.l2 : Nat → List (S32) → Int → Int → Int → Option ((List (S32)))
 | 0, _, _, _, _ => none
 | k + 1, x0, x2, x14, x15 => if x14 < x15 then (if 0 ≤ x2 then (if x2 < (x0.length : Int) then (if 0 ≤ (wrap64 ((IntKind.u64.wrap (wrap64 (x14 + x15))) / 2)) then (if (wrap64 ((IntKind.u64.wrap (wrap64 (x14 + x15))) / 2)) < (x0.length : Int) then ((job_Due_1.f ((rd_T32 x0 x2).f0) ((rd_T32 x0 x2).f1) ((rd_T32 x0 x2).f2) ((rd_T32 x0 x2).f3) ((rd_T32 x0 x2).f4) ((rd_T32 x0 x2).f5) ((rd_T32 x0 x2).f6) ((rd_T32 x0 x2).f7) ((rd_T32 x0 x2).f8) ((rd_T32 x0 x2).f9) ((rd_T32 x0 x2).f10) ((rd_T32 x0 x2).f11) ((rd_T32 x0 (wrap64 ((IntKind.u64.wrap (wrap64 (x14 + x15))) / 2))).f0) ((rd_T32 x0 (wrap64 ((IntKind.u64.wrap (wrap64 (x14 + x15))) / 2))).f1) ((rd_T32 x0 (wrap64 ((IntKind.u64.wrap (wrap64 (x14 + x15))) / 2))).f2) ((rd_T32 x0 (wrap64 ((IntKind.u64.wrap (wrap64 (x14 + x15))) / 2))).f3) ((rd_T32 x0 (wrap64 ((IntKind.u64.wrap (wrap64 (x14 + x15))) / 2))).f4) ((rd_T32 x0 (wrap64 ((IntKind.u64.wrap (wrap64 (x14 + x15))) / 2))).f5) ((rd_T32 x0 (wrap64 ((IntKind.u64.wrap (wrap64 (x14 + x15))) / 2))).f6) ((rd_T32 x0 (wrap64 ((IntKind.u64.wrap (wrap64 (x14 + x15))) / 2))).f7) ((rd_T32 x0 (wrap64 ((IntKind.u64.wrap (wrap64 (x14 + x15))) / 2))).f8) ((rd_T32 x0 (wrap64 ((IntKind.u64.wrap (wrap64 (x14 + x15))) / 2))).f9) ((rd_T32 x0 (wrap64 ((IntKind.u64.wrap (wrap64 (x14 + x15))) / 2))).f10) ((rd_T32 x0 (wrap64 ((IntKind.u64.wrap (wrap64 (x14 + x15))) / 2))).f11)).bind fun t290 => (if t290 < 0 then (slices_symMergeCmpFunc_Job__job_Due_1.l2 k x0 x2 x14 (wrap64 ((IntKind.u64.wrap (wrap64 (x14 + x15))) / 2))) else (slices_symMergeCmpFunc_Job__job_Due_1.l2 k x0 x2 (wrap64 ((wrap64 ((IntKind.u64.wrap (wrap64 (x14 + x15))) / 2)) + 1)) x15))) else (none)) else (none)) else (none)) else (none)) else (slices_symMergeCmpFunc_Job__job_Due_1.l3 k x0 x14 x2)
def slices_symMergeCmpFunc_Job__job_Due_1.l3 : Nat → List (S32) → Int → Int → Option ((List (S32)))
 | 0, _, _, _ => none
 | k + 1, x0, x14, x17 => if x17 > x14 then (if 0 ≤ (wrap64 (x17 - 1)) then (if (wrap64 (x17 - 1)) < (x0.length : Int) then (if 0 ≤ x17 then (if x17 < (x0.length : Int) then (slices_symMergeCmpFunc_Job__job_Due_1.l3 k ((x0.set (x17 : Int).toNat (⟨(rd_T32 x0 (wrap64 (x17 - 1))).f0, (rd_T32 x0 (wrap64 (x17 - 1))).f1, (rd_T32 x0 (wrap64 (x17 - 1))).f2, (rd_T32 x0 (wrap64 (x17 - 1))).f3, (rd_T32 x0 (wrap64 (x17 - 1))).f4, (rd_T32 x0 (wrap64 (x17 - 1))).f5, (rd_T32 x0 (wrap64 (x17 - 1))).f6, (rd_T32 x0 (wrap64 (x17 - 1))).f7, (rd_T32 x0 (wrap64 (x17 - 1))).f8, (rd_T32 x0 (wrap64 (x17 - 1))).f9, (rd_T32 x0 (wrap64 (x17 - 1))).f10, (rd_T32 x0 (wrap64 (x17 - 1))).f11⟩ : S32)).set ((wrap64 (x17 - 1)) : Int).toNat (⟨(rd_T32 x0 x17).f0, (rd_T32 x0 x17).f1, (rd_T32 x0 x17).f2, (rd_T32 x0 x17).f3, (rd_T32 x0 x17).f4, (rd_T32 x0 x17).f5, (rd_T32 x0 x17).f6, (rd_T32 x0 x17).f7, (rd_T32 x0 x17).f8, (rd_T32 x0 x17).f9, (rd_T32 x0 x17).f10, (rd_T32 x0 x17).f11⟩ : S32)) x14 (wrap64 (x17 - 1))) else (none)) else (none)) else (none)) else (none)) else (some x0)
def slices_symMergeCmpFunc_Job__job_Due_1.j4 : Nat → List (S32) → Int → Int → Int → Int → Int → Int → Int → Option ((List (S32)))
 | 0, _, _, _, _, _, _, _, _ => none
 | k + 1, x0, x1, x2, x3, x18, x19, x20, x21 => slices_symMergeCmpFunc_Job__job_Due_1.l4 k x0 x1 x2 x3 x18 x19 x20 x21 (wrap64 (x19 - 1))
def slices_symMergeCmpFunc_Job__job_Due_1.l4 : Nat → List (S32) → Int → Int → Int → Int → Int → Int → Int → Int → Option ((List (S32)))
 | 0, _, _, _, _, _, _, _, _, _ => none
 | k + 1, x0, x1, x2, x3, x18, x19, x20, x21, x22 => if x20 < x21 then (if 0 ≤ (wrap64 (x22 - (wrap64 ((IntKind.u64.wrap (wrap64 (x20 + x21))) / 2)))) then (if (wrap64 (x22 - (wrap64 ((IntKind.u64.wrap (wrap64 (x20 + x21))) / 2)))) < (x0.length : Int) then (if 0 ≤ (wrap64 ((IntKind.u64.wrap (wrap64 (x20 + x21))) / 2)) then (if (wrap64 ((IntKind.u64.wrap (wrap64 (x20 + x21))) / 2)) < (x0.length : Int) then ((job_Due_1.f ((rd_T32 x0 (wrap64 (x22 - (wrap64 ((IntKind.u64.wrap (wrap64 (x20 + x21))) / 2))))).f0) ((rd_T32 x0 (wrap64 (x22 - (wrap64 ((IntKind.u64.wrap (wrap64 (x20 + x21))) / 2))))).f1) ((rd_T32 x0 (wrap64 (x22 - (wrap64 ((IntKind.u64.wrap (wrap64 (x20 + x21))) / 2))))).f2) ((rd_T32 x0 (wrap64 (x22 - (wrap64 ((IntKind.u64.wrap (wrap64 (x20 + x21))) / 2))))).f3) ((rd_T32 x0 (wrap64 (x22 - (wrap64 ((IntKind.u64.wrap (wrap64 (x20 + x21))) / 2))))).f4) ((rd_T32 x0 (wrap64 (x22 - (wrap64 ((IntKind.u64.wrap (wrap64 (x20 + x21))) / 2))))).f5) ((rd_T32 x0 (wrap64 (x22 - (wrap64 ((IntKind.u64.wrap (wrap64 (x20 + x21))) / 2))))).f6) ((rd_T32 x0 (wrap64 (x22 - (wrap64 ((IntKind.u64.wrap (wrap64 (x20 + x21))) / 2))))).f7) ((rd_T32 x0 (wrap64 (x22 - (wrap64 ((IntKind.u64.wrap (wrap64 (x20 + x21))) / 2))))).f8) ((rd_T32 x0 (wrap64 (x22 - (wrap64 ((IntKind.u64.wrap (wrap64 (x20 + x21))) / 2))))).f9) ((rd_T32 x0 (wrap64 (x22 - (wrap64 ((IntKind.u64.wrap (wrap64 (x20 + x21))) / 2))))).f10) ((rd_T32 x0 (wrap64 (x22 - (wrap64 ((IntKind.u64.wrap (wrap64 (x20 + x21))) / 2))))).f11) ((rd_T32 x0 (wrap64 ((IntKind.u64.wrap (wrap64 (x20 + x21))) / 2))).f0) ((rd_T32 x0 (wrap64 ((IntKind.u64.wrap (wrap64 (x20 + x21))) / 2))).f1) ((rd_T32 x0 (wrap64 ((IntKind.u64.wrap (wrap64 (x20 + x21))) / 2))).f2) ((rd_T32 x0 (wrap64 ((IntKind.u64.wrap (wrap64 (x20 + x21))) / 2))).f3) ((rd_T32 x0 (wrap64 ((IntKind.u64.wrap (wrap64 (x20 + x21))) / 2))).f4) ((rd_T32 x0 (wrap64 ((IntKind.u64.wrap (wrap64 (x20 + x21))) / 2))).f5) ((rd_T32 x0 (wrap64 ((IntKind.u64.wrap (wrap64 (x20 + x21))) / 2))).f6) ((rd_T32 x0 (wrap64 ((IntKind.u64.wrap (wrap64 (x20 + x21))) / 2))).f7) ((rd_T32 x0 (wrap64 ((IntKind.u64.wrap (wrap64 (x20 + x21))) / 2))).f8) ((rd_T32 x0 (wrap64 ((IntKind.u64.wrap (wrap64 (x20 + x21))) / 2))).f9) ((rd_T32 x0 (wrap64 ((IntKind.u64.wrap (wrap64 (x20 + x21))) / 2))).f10) ((rd_T32 x0 (wrap64 ((IntKind.u64.wrap (wrap64 (x20 + x21))) / 2))).f11)).bind fun t297 => (if t297 < 0 then (slices_symMergeCmpFunc_Job__job_Due_1.l4 k x0 x1 x2 x3 x18 x19 x20 (wrap64 ((IntKind.u64.wrap (wrap64 (x20 + x21))) / 2)) x22) else (slices_symMergeCmpFunc_Job__job_Due_1.l4 k x0 x1 x2 x3 x18 x19 (wrap64 ((wrap64 ((IntKind.u64.wrap (wrap64 (x20 + x21))) / 2)) + 1)) x21 x22))) else (none)) else (none)) else (none)) else (none)) else (if x20 < x2 then (slices_symMergeCmpFunc_Job__job_Due_1.j6 k x0 x1 x2 x3 x18 x20 (wrap64 (x19 - x20)) (decide (x2 < (wrap64 (x19 - x20))))) else (slices_symMergeCmpFunc_Job__job_Due_1.j6 k x0 x1 x2 x3 x18 x20 (wrap64 (x19 - x20)) false))
def slices_symMergeCmpFunc_Job__job_Due_1.j6 : Nat → List (S32) → Int → Int → Int → Int → Int → Int → Bool → Option ((List (S32)))
 | 0, _, _, _, _, _, _, _, _ => none
 | k + 1, x0, x1, x2, x3, x18, x20, x24, x185 => if x185 = true then ((slices_rotateCmpFunc_Job__job_Due_1.f k x0 x20 x2 x24).bind fun t298 => (slices_symMergeCmpFunc_Job__job_Due_1.j7 k t298 x1 x3 x18 x20 x24)) else (slices_symMergeCmpFunc_Job__job_Due_1.j7 k x0 x1 x3 x18 x20 x24)
def slices_symMergeCmpFunc_Job__job_Due_1.j7 : Nat → List (S32) → Int → Int → Int → Int → Int → Option ((List (S32)))
 | 0, _, _, _, _, _, _ => none
 | k + 1, x0, x1, x3, x18, x20, x24 => if x1 < x20 then (slices_symMergeCmpFunc_Job__job_Due_1.j8 k x0 x1 x3 x18 x20 x24 (decide (x20 < x18))) else (slices_symMergeCmpFunc_Job__job_Due_1.j8 k x0 x1 x3 x18 x20 x24 false)
def slices_symMergeCmpFunc_Job__job_Due_1.j8 : Nat → List (S32) → Int → Int → Int → Int → Int → Bool → Option ((List (S32)))
 | 0, _, _, _, _, _, _, _ => none
 | k + 1, x0, x1, x3, x18, x20, x24, x199 => if x199 = true then ((slices_symMergeCmpFunc_Job__job_Due_1.f k x0 x1 x20 x18).bind fun t299 => (if x18 < x24 then (if x24 < x3 then ((slices_symMergeCmpFunc_Job__job_Due_1.f k t299 x18 x24 x3).bind fun t300 => (some t300)) else (some t299)) else (some t299))) else (if x18 < x24 then (if x24 < x3 then ((slices_symMergeCmpFunc_Job__job_Due_1.f k x0 x18 x24 x3).bind fun t301 => (some t301)) else (some x0)) else (some x0))
def slices_symMergeCmpFunc_Job__job_Due_1.f : Nat → List (S32) → Int → Int → Int → Option ((List (S32)))
 | 0, _, _, _, _ => none
 | k + 1, l0, a1, a2, a3 => if (wrap64 (a2 - a1)) = 1 then (slices_symMergeCmpFunc_Job__job_Due_1.l0 k l0 a1 a2 a3) else (if (wrap64 (a3 - a2)) = 1 then (slices_symMergeCmpFunc_Job__job_Due_1.l2 k l0 a2 a1 a2) else (if a2 > (wrap64 ((IntKind.u64.wrap (wrap64 (a1 + a3))) / 2)) then (slices_symMergeCmpFunc_Job__job_Due_1.j4 k l0 a1 a2 a3 (wrap64 ((IntKind.u64.wrap (wrap64 (a1 + a3))) / 2)) (wrap64 ((wrap64 ((IntKind.u64.wrap (wrap64 (a1 + a3))) / 2)) + a2)) (wrap64 ((wrap64 ((wrap64 ((IntKind.u64.wrap (wrap64 (a1 + a3))) / 2)) + a2)) - a3)) (wrap64 ((IntKind.u64.wrap (wrap64 (a1 + a3))) / 2))) else (slices_symMergeCmpFunc_Job__job_Due_1.j4 k l0 a1 a2 a3 (wrap64 ((IntKind.u64.wrap (wrap64 (a1 + a3))) / 2)) (wrap64 ((wrap64 ((IntKind.u64.wrap (wrap64 (a1 + a3))) / 2)) + a2)) a1 a2)))
end
theorem slices_symMergeCmpFunc_Job__job_Due_1.mono_l : ∀ k, (∀ y0 y1 y2 y3, LeO (slices_symMergeCmpFunc_Job__job_Due_1.f k y0 y1 y2 y3) (slices_symMergeCmpFunc_Job__job_Due_1.f (k + 1) y0 y1 y2 y3)) ∧ (∀ y0 y1 y2 y3, LeO (slices_symMergeCmpFunc_Job__job_Due_1.l0 k y0 y1 y2 y3) (slices_symMergeCmpFunc_Job__job_Due_1.l0 (k + 1) y0 y1 y2 y3)) ∧ (∀ y0 y1 y2, LeO (slices_symMergeCmpFunc_Job__job_Due_1.l1 k y0 y1 y2) (slices_symMergeCmpFunc_Job__job_Due_1.l1 (k + 1) y0 y1 y2)) ∧ (∀ y0 y1 y2 y3, LeO (slices_symMergeCmpFunc_Job__job_Due_1.l2 k y0 y1 y2 y3) (slices_symMergeCmpFunc_Job__job_Due_1.l2 (k + 1) y0 y1 y2 y3)) ∧ (∀ y0 y1 y2, LeO (slices_symMergeCmpFunc_Job__job_Due_1.l3 k y0 y1 y2) (slices_symMergeCmpFunc_Job__job_Due_1.l3 (k + 1) y0 y1 y2)) ∧ (∀ y0 y1 y2 y3 y4 y5 y6 y7, LeO (slices_symMergeCmpFunc_Job__job_Due_1.j4 k y0 y1 y2 y3 y4 y5 y6 y7) (slices_symMergeCmpFunc_Job__job_Due_1.j4 (k + 1) y0 y1 y2 y3 y4 y5 y6 y7)) ∧ (∀ y0 y1 y2 y3 y4 y5 y6 y7 y8, LeO (slices_symMergeCmpFunc_Job__job_Due_1.l4 k y0 y1 y2 y3 y4 y5 y6 y7 y8) (slices_symMergeCmpFunc_Job__job_Due_1.l4 (k + 1) y0 y1 y2 y3 y4 y5 y6 y7 y8)) ∧ (∀ y0 y1 y2 y3 y4 y5 y6 y7, LeO (slices_symMergeCmpFunc_Job__job_Due_1.j6 k y0 y1 y2 y3 y4 y5 y6 y7) (slices_symMergeCmpFunc_Job__job_Due_1.j6 (k + 1) y0 y1 y2 y3 y4 y5 y6 y7)) ∧ (∀ y0 y1 y2 y3 y4 y5, LeO (slices_symMergeCmpFunc_Job__job_Due_1.j7 k y0 y1 y2 y3 y4 y5) (slices_symMergeCmpFunc_Job__job_Due_1.j7 (k + 1) y0 y1 y2 y3 y4 y5)) ∧ (∀ y0 y1 y2 y3 y4 y5 y6, LeO (slices_symMergeCmpFunc_Job__job_Due_1.j8 k y0 y1 y2 y3 y4 y5 y6) (slices_symMergeCmpFunc_Job__job_Due_1.j8 (k + 1) y0 y1 y2 y3 y4 y5 y6))
 | 0 => ⟨fun _ _ _ _ r h => by simp [slices_symMergeCmpFunc_Job__job_Due_1.f] at h, fun _ _ _ _ r h => by simp [slices_symMergeCmpFunc_Job__job_Due_1.l0] at h, fun _ _ _ r h => by simp [slices_symMergeCmpFunc_Job__job_Due_1.l1] at h, fun _ _ _ _ r h => by simp [slices_symMergeCmpFunc_Job__job_Due_1.l2] at h, fun _ _ _ r h => by simp [slices_symMergeCmpFunc_Job__job_Due_1.l3] at h, fun _ _ _ _ _ _ _ _ r h => by simp [slices_symMergeCmpFunc_Job__job_Due_1.j4] at h, fun _ _ _ _ _ _ _ _ _ r h => by simp [slices_symMergeCmpFunc_Job__job_Due_1.l4] at h, fun _ _ _ _ _ _ _ _ r h => by simp [slices_symMergeCmpFunc_Job__job_Due_1.j6] at h, fun _ _ _ _ _ _ r h => by simp [slices_symMergeCmpFunc_Job__job_Due_1.j7] at h, fun _ _ _ _ _ _ _ r h => by simp [slices_symMergeCmpFunc_Job__job_Due_1.j8] at h⟩
 | k + 1 => by
  obtain ⟨ih0, ih1, ih2, ih3, ih4, ih5, ih6, ih7, ih8, ih9⟩ := slices_symMergeCmpFunc_Job__job_Due_1.mono_l k
  refine ⟨?_, ?_, ?_, ?_, ?_, ?_, ?_, ?_, ?_, ?_⟩
  ·intro y0 y1 y2 y3
   unfold slices_symMergeCmpFunc_Job__job_Due_1.f
   repeat' first
   | (with_reducible exact ih0 _ _ _ _)
   | (with_reducible exact ih1 _ _ _ _)
   | (with_reducible exact ih2 _ _ _)
   | (with_reducible exact ih3 _ _ _ _)
   | (with_reducible exact ih4 _ _ _)
   | (with_reducible exact ih5 _ _ _ _ _ _ _ _)
   | (with_reducible exact ih6 _ _ _ _ _ _ _ _ _)
   | (with_reducible exact ih7 _ _ _ _ _ _ _ _)
   | (with_reducible exact ih8 _ _ _ _ _ _)
   | (with_reducible exact ih9 _ _ _ _ _ _ _)
   | (with_reducible exact slices_rotateCmpFunc_Job__job_Due_1.mono _ _ _ _ _)
   | (with_reducible exact LeO.refl _)
   | (with_reducible exact LeO.none _)
   | (with_reducible refine LeO.ite ?_ ?_)
   | (with_reducible refine LeO.bind ?_ (fun _ => ?_))
   | exact ih0 _ _ _ _
   | exact ih1 _ _ _ _
   | exact ih2 _ _ _
   | exact ih3 _ _ _ _
   | exact ih4 _ _ _
   | exact ih5 _ _ _ _ _ _ _ _
   | exact ih6 _ _ _ _ _ _ _ _ _
   | exact ih7 _ _ _ _ _ _ _ _
   | exact ih8 _ _ _ _ _ _
   | exact ih9 _ _ _ _ _ _ _
   | exact slices_rotateCmpFunc_Job__job_Due_1.mono _ _ _ _ _
   | exact LeO.none _
   | refine LeO.ite ?_ ?_
   | refine LeO.bind ?_ (fun _ => ?_)
  ·intro y0 y1 y2 y3
   unfold slices_symMergeCmpFunc_Job__job_Due_1.l0
   repeat' first
   | (with_reducible exact ih0 _ _ _ _)
   | (with_reducible exact ih1 _ _ _ _)
   | (with_reducible exact ih2 _ _ _)
   | (with_reducible exact ih3 _ _ _ _)
   | (with_reducible exact ih4 _ _ _)
   | (with_reducible exact ih5 _ _ _ _ _ _ _ _)
   | (with_reducible exact ih6 _ _ _ _ _ _ _ _ _)
   | (with_reducible exact ih7 _ _ _ _ _ _ _ _)
   | (with_reducible exact ih8 _ _ _ _ _ _)
   | (with_reducible exact ih9 _ _ _ _ _ _ _)
   | (with_reducible exact slices_rotateCmpFunc_Job__job_Due_1.mono _ _ _ _ _)
   | (with_reducible exact LeO.refl _)
   | (with_reducible exact LeO.none _)
   | (with_reducible refine LeO.ite ?_ ?_)
   | (with_reducible refine LeO.bind ?_ (fun _ => ?_))
   | exact ih0 _ _ _ _
   | exact ih1 _ _ _ _
   | exact ih2 _ _ _
   | exact ih3 _ _ _ _
   | exact ih4 _ _ _
   | exact ih5 _ _ _ _ _ _ _ _
   | exact ih6 _ _ _ _ _ _ _ _ _
   | exact ih7 _ _ _ _ _ _ _ _
   | exact ih8 _ _ _ _ _ _
   | exact ih9 _ _ _ _ _ _ _
   | exact slices_rotateCmpFunc_Job__job_Due_1.mono _ _ _ _ _
   | exact LeO.none _
   | refine LeO.ite ?_ ?_
   | refine LeO.bind ?_ (fun _ => ?_)
  ·intro y0 y1 y2
   unfold slices_symMergeCmpFunc_Job__job_Due_1.l1
   repeat' first
   | (with_reducible exact ih0 _ _ _ _)
   | (with_reducible exact ih1 _ _ _ _)
   | (with_reducible exact ih2 _ _ _)
   | (with_reducible exact ih3 _ _ _ _)
   | (with_reducible exact ih4 _ _ _)
   | (with_reducible exact ih5 _ _ _ _ _ _ _ _)
   | (with_reducible exact ih6 _ _ _ _ _ _ _ _ _)
   | (with_reducible exact ih7 _ _ _ _ _ _ _ _)
   | (with_reducible exact ih8 _ _ _ _ _ _)
   | (with_reducible exact ih9 _ _ _ _ _ _ _)
   | (with_reducible exact slices_rotateCmpFunc_Job__job_Due_1.mono _ _ _ _ _)
   | (with_reducible exact LeO.refl _)
   | (with_reducible exact LeO.none _)
   | (with_reducible refine LeO.ite ?_ ?_)
   | (with_reducible refine LeO.bind ?_ (fun _ => ?_))
   | exact ih0 _ _ _ _
   | exact ih1 _ _ _ _
   | exact ih2 _ _ _
   | exact ih3 _ _ _ _
   | exact ih4 _ _ _
   | exact ih5 _ _ _ _ _ _ _ _
   | exact ih6 _ _ _ _ _ _ _ _ _
   | exact ih7 _ _ _ _ _ _ _ _
   | exact ih8 _ _ _ _ _ _
   | exact ih9 _ _ _ _ _ _ _
   | exact slices_rotateCmpFunc_Job__job_Due_1.mono _ _ _ _ _
   | exact LeO.none _
   | refine LeO.ite ?_ ?_
   | refine LeO.bind ?_ (fun _ => ?_)
  ·intro y0 y1 y2 y3
   unfold slices_symMergeCmpFunc_Job__job_Due_1.l2
   repeat' first
   | (with_reducible exact ih0 _ _ _ _)
   | (with_reducible exact ih1 _ _ _ _)
   | (with_reducible exact ih2 _ _ _)
   | (with_reducible exact ih3 _ _ _ _)
   | (with_reducible exact ih4 _ _ _)
   | (with_reducible exact ih5 _ _ _ _ _ _ _ _)
   | (with_reducible exact ih6 _ _ _ _ _ _ _ _ _)
   | (with_reducible exact ih7 _ _ _ _ _ _ _ _)
   | (with_reducible exact ih8 _ _ _ _ _ _)
   | (with_reducible exact ih9 _ _ _ _ _ _ _)
   | (with_reducible exact slices_rotateCmpFunc_Job__job_Due_1.mono _ _ _ _ _)
   | (with_reducible exact LeO.refl _)
   | (with_reducible exact LeO.none _)
   | (with_reducible refine LeO.ite ?_ ?_)
   | (with_reducible refine LeO.bind ?_ (fun _ => ?_))
   | exact ih0 _ _ _ _
   | exact ih1 _ _ _ _
   | exact ih2 _ _ _
   | exact ih3 _ _ _ _
   | exact ih4 _ _ _
   | exact ih5 _ _ _ _ _ _ _ _
   | exact ih6 _ _ _ _ _ _ _ _ _
   | exact ih7 _ _ _ _ _ _ _ _
   | exact ih8 _ _ _ _ _ _
   | exact ih9 _ _ _ _ _ _ _
   | exact slices_rotateCmpFunc_Job__job_Due_1.mono _ _ _ _ _
   | exact LeO.none _
   | refine LeO.ite ?_ ?_
   | refine LeO.bind ?_ (fun _ => ?_)
  ·intro y0 y1 y2
   unfold slices_symMergeCmpFunc_Job__job_Due_1.l3
   repeat' first
   | (with_reducible exact ih0 _ _ _ _)
   | (with_reducible exact ih1 _ _ _ _)
   | (with_reducible exact ih2 _ _ _)
   | (with_reducible exact ih3 _ _ _ _)
   | (with_reducible exact ih4 _ _ _)
   | (with_reducible exact ih5 _ _ _ _ _ _ _ _)
   | (with_reducible exact ih6 _ _ _ _ _ _ _ _ _)
   | (with_reducible exact ih7 _ _ _ _ _ _ _ _)
   | (with_reducible exact ih8 _ _ _ _ _ _)
   | (with_reducible exact ih9 _ _ _ _ _ _ _)
   | (with_reducible exact slices_rotateCmpFunc_Job__job_Due_1.mono _ _ _ _ _)
   | (with_reducible exact LeO.refl _)
   | (with_reducible exact LeO.none _)
   | (with_reducible refine LeO.ite ?_ ?_)
   | (with_reducible refine LeO.bind ?_ (fun _ => ?_))
   | exact ih0 _ _ _ _
   | exact ih1 _ _ _ _
   | exact ih2 _ _ _
   | exact ih3 _ _ _ _
   | exact ih4 _ _ _
   | exact ih5 _ _ _ _ _ _ _ _
   | exact ih6 _ _ _ _ _ _ _ _ _
   | exact ih7 _ _ _ _ _ _ _ _
   | exact ih8 _ _ _ _ _ _
   | exact ih9 _ _ _ _ _ _ _
   | exact slices_rotateCmpFunc_Job__job_Due_1.mono _ _ _ _ _
   | exact LeO.none _
   | refine LeO.ite ?_ ?_
   | refine LeO.bind ?_ (fun _ => ?_)
  ·intro y0 y1 y2 y3 y4 y5 y6 y7
   unfold slices_symMergeCmpFunc_Job__job_Due_1.j4
   repeat' first
   | (with_reducible exact ih0 _ _ _ _)
   | (with_reducible exact ih1 _ _ _ _)
   | (with_reducible exact ih2 _ _ _)
   | (with_reducible exact ih3 _ _ _ _)
   | (with_reducible exact ih4 _ _ _)
   | (with_reducible exact ih5 _ _ _ _ _ _ _ _)
   | (with_reducible exact ih6 _ _ _ _ _ _ _ _ _)
   | (with_reducible exact ih7 _ _ _ _ _ _ _ _)
   | (with_reducible exact ih8 _ _ _ _ _ _)
   | (with_reducible exact ih9 _ _ _ _ _ _ _)
   | (with_reducible exact slices_rotateCmpFunc_Job__job_Due_1.mono _ _ _ _ _)
   | (with_reducible exact LeO.refl _)
   | (with_reducible exact LeO.none _)
   | (with_reducible refine LeO.ite ?_ ?_)
   | (with_reducible refine LeO.bind ?_ (fun _ => ?_))
   | exact ih0 _ _ _ _
   | exact ih1 _ _ _ _
   | exact ih2 _ _ _
   | exact ih3 _ _ _ _
   | exact ih4 _ _ _
   | exact ih5 _ _ _ _ _ _ _ _
   | exact ih6 _ _ _ _ _ _ _ _ _
   | exact ih7 _ _ _ _ _ _ _ _
   | exact ih8 _ _ _ _ _ _
   | exact ih9 _ _ _ _ _ _ _
   | exact slices_rotateCmpFunc_Job__job_Due_1.mono _ _ _ _ _
   | exact LeO.none _
   | refine LeO.ite ?_ ?_
   | refine LeO.bind ?_ (fun _ => ?_)
  ·intro y0 y1 y2 y3 y4 y5 y6 y7 y8
   unfold slices_symMergeCmpFunc_Job__job_Due_1.l4
   repeat' first
   | (with_reducible exact ih0 _ _ _ _)
   | (with_reducible exact ih1 _ _ _ _)
   | (with_reducible exact ih2 _ _ _)
   | (with_reducible exact ih3 _ _ _ _)
   | (with_reducible exact ih4 _ _ _)
   | (with_reducible exact ih5 _ _ _ _ _ _ _ _)
   | (with_reducible exact ih6 _ _ _ _ _ _ _ _ _)
   | (with_reducible exact ih7 _ _ _ _ _ _ _ _)
   | (with_reducible exact ih8 _ _ _ _ _ _)
   | (with_reducible exact ih9 _ _ _ _ _ _ _)
   | (with_reducible exact slices_rotateCmpFunc_Job__job_Due_1.mono _ _ _ _ _)
   | (with_reducible exact LeO.refl _)
   | (with_reducible exact LeO.none _)
   | (with_reducible refine LeO.ite ?_ ?_)
   | (with_reducible refine LeO.bind ?_ (fun _ => ?_))
   | exact ih0 _ _ _ _
   | exact ih1 _ _ _ _
   | exact ih2 _ _ _
   | exact ih3 _ _ _ _
   | exact ih4 _ _ _
   | exact ih5 _ _ _ _ _ _ _ _
   | exact ih6 _ _ _ _ _ _ _ _ _
   | exact ih7 _ _ _ _ _ _ _ _
   | exact ih8 _ _ _ _ _ _
   | exact ih9 _ _ _ _ _ _ _
   | exact slices_rotateCmpFunc_Job__job_Due_1.mono _ _ _ _ _
   | exact LeO.none _
   | refine LeO.ite ?_ ?_
   | refine LeO.bind ?_ (fun _ => ?_)
  ·intro y0 y1 y2 y3 y4 y5 y6 y7
   unfold slices_symMergeCmpFunc_Job__job_Due_1.j6
   repeat' first
   | (with_reducible exact ih0 _ _ _ _)
   | (with_reducible exact ih1 _ _ _ _)
   | (with_reducible exact ih2 _ _ _)
   | (with_reducible exact ih3 _ _ _ _)
   | (with_reducible exact ih4 _ _ _)
   | (with_reducible exact ih5 _ _ _ _ _ _ _ _)
   | (with_reducible exact ih6 _ _ _ _ _ _ _ _ _)
   | (with_reducible exact ih7 _ _ _ _ _ _ _ _)
   | (with_reducible exact ih8 _ _ _ _ _ _)
   | (with_reducible exact ih9 _ _ _ _ _ _ _)
   | (with_reducible exact slices_rotateCmpFunc_Job__job_Due_1.mono _ _ _ _ _)
   | (with_reducible exact LeO.refl _)
   | (with_reducible exact LeO.none _)
   | (with_reducible refine LeO.ite ?_ ?_)
   | (with_reducible refine LeO.bind ?_ (fun _ => ?_))
   | exact ih0 _ _ _ _
   | exact ih1 _ _ _ _
   | exact ih2 _ _ _
   | exact ih3 _ _ _ _
   | exact ih4 _ _ _
   | exact ih5 _ _ _ _ _ _ _ _
   | exact ih6 _ _ _ _ _ _ _ _ _
   | exact ih7 _ _ _ _ _ _ _ _
   | exact ih8 _ _ _ _ _ _
   | exact ih9 _ _ _ _ _ _ _
   | exact slices_rotateCmpFunc_Job__job_Due_1.mono _ _ _ _ _
   | exact LeO.none _
   | refine LeO.ite ?_ ?_
   | refine LeO.bind ?_ (fun _ => ?_)
  ·intro y0 y1 y2 y3 y4 y5
   unfold slices_symMergeCmpFunc_Job__job_Due_1.j7
   repeat' first
   | (with_reducible exact ih0 _ _ _ _)
   | (with_reducible exact ih1 _ _ _ _)
   | (with_reducible exact ih2 _ _ _)
   | (with_reducible exact ih3 _ _ _ _)
   | (with_reducible exact ih4 _ _ _)
   | (with_reducible exact ih5 _ _ _ _ _ _ _ _)
   | (with_reducible exact ih6 _ _ _ _ _ _ _ _ _)
   | (with_reducible exact ih7 _ _ _ _ _ _ _ _)
   | (with_reducible exact ih8 _ _ _ _ _ _)
   | (with_reducible exact ih9 _ _ _ _ _ _ _)
   | (with_reducible exact slices_rotateCmpFunc_Job__job_Due_1.mono _ _ _ _ _)
   | (with_reducible exact LeO.refl _)
   | (with_reducible exact LeO.none _)
   | (with_reducible refine LeO.ite ?_ ?_)
   | (with_reducible refine LeO.bind ?_ (fun _ => ?_))
   | exact ih0 _ _ _ _
   | exact ih1 _ _ _ _
   | exact ih2 _ _ _
   | exact ih3 _ _ _ _
   | exact ih4 _ _ _
   | exact ih5 _ _ _ _ _ _ _ _
   | exact ih6 _ _ _ _ _ _ _ _ _
   | exact ih7 _ _ _ _ _ _ _ _
   | exact ih8 _ _ _ _ _ _
   | exact ih9 _ _ _ _ _ _ _
   | exact slices_rotateCmpFunc_Job__job_Due_1.mono _ _ _ _ _
   | exact LeO.none _
   | refine LeO.ite ?_ ?_
   | refine LeO.bind ?_ (fun _ => ?_)
  ·intro y0 y1 y2 y3 y4 y5 y6
   unfold slices_symMergeCmpFunc_Job__job_Due_1.j8
   repeat' first
   | (with_reducible exact ih0 _ _ _ _)
   | (with_reducible exact ih1 _ _ _ _)
   | (with_reducible exact ih2 _ _ _)
   | (with_reducible exact ih3 _ _ _ _)
   | (with_reducible exact ih4 _ _ _)
   | (with_reducible exact ih5 _ _ _ _ _ _ _ _)
   | (with_reducible exact ih6 _ _ _ _ _ _ _ _ _)
   | (with_reducible exact ih7 _ _ _ _ _ _ _ _)
   | (with_reducible exact ih8 _ _ _ _ _ _)
   | (with_reducible exact ih9 _ _ _ _ _ _ _)
   | (with_reducible exact slices_rotateCmpFunc_Job__job_Due_1.mono _ _ _ _ _)
   | (with_reducible exact LeO.refl _)
   | (with_reducible exact LeO.none _)
   | (with_reducible refine LeO.ite ?_ ?_)
   | (with_reducible refine LeO.bind ?_ (fun _ => ?_))
   | exact ih0 _ _ _ _
   | exact ih1 _ _ _ _
   | exact ih2 _ _ _
   | exact ih3 _ _ _ _
   | exact ih4 _ _ _
   | exact ih5 _ _ _ _ _ _ _ _
   | exact ih6 _ _ _ _ _ _ _ _ _
   | exact ih7 _ _ _ _ _ _ _ _
   | exact ih8 _ _ _ _ _ _
   | exact ih9 _ _ _ _ _ _ _
   | exact slices_rotateCmpFunc_Job__job_Due_1.mono _ _ _ _ _
   | exact LeO.none _
   | refine LeO.ite ?_ ?_
   | refine LeO.bind ?_ (fun _ => ?_)
theorem slices_symMergeCmpFunc_Job__job_Due_1.mono : ∀ a0 a1 a2 a3 k, LeO (slices_symMergeCmpFunc_Job__job_Due_1.f k a0 a1 a2 a3) (slices_symMergeCmpFunc_Job__job_Due_1.f (k + 1) a0 a1 a2 a3) := by
 intro a0 a1 a2 a3 k
 obtain ⟨ih0, ih1, ih2, ih3, ih4, ih5, ih6, ih7, ih8, ih9⟩ := slices_symMergeCmpFunc_Job__job_Due_1.mono_l k
 exact ih0 a0 a1 a2 a3
def slices_symMergeCmpFunc_Job__job_Due_1.T5 : Bool × List (List Nat × List Nat) := (true, [([], []), ([], []), ([], []), ([1, 2], [1, 2]), ([3], [3]), ([], []), ([], []), ([5, 6], [5, 6]), ([7], [7]), ([0, 4, 8], [0, 4, 8]), ([9], [9])])
def slices_symMergeCmpFunc_Job__job_Due_1.B5 : List Nat := [0, 0, 0, 6, 14, 0, 0, 96, 224, 511, 1023]
theorem slices_symMergeCmpFunc_Job__job_Due_1.tab5 : rtab .any (opsOf Try.f68 5) = slices_symMergeCmpFunc_Job__job_Due_1.T5 := by kernel_rfl
theorem slices_symMergeCmpFunc_Job__job_Due_1.bits5 : waitsOk slices_symMergeCmpFunc_Job__job_Due_1.T5.2 slices_symMergeCmpFunc_Job__job_Due_1.B5 = true := by kernel_rfl
def slices_symMergeCmpFunc_Job__job_Due_1.T11 : Bool × List (List Nat × List Nat) := (true, [([], []), ([], []), ([], []), ([], []), ([3], [3]), ([], []), ([], []), ([6], [6]), ([5, 7], [5, 7]), ([8], [8]), ([], []), ([], []), ([10, 11], [10, 11]), ([12], [12]), ([0, 1, 0, 1, 5, 6, 7, 8, 9, 13], [0, 1]), ([14, 9, 0, 1, 5, 6, 7, 8, 9, 13], [9, 14]), ([2, 4, 0, 1, 2, 3, 4, 5, 6, 7, 8, 9, 10, 11, 12, 13, 14, 15], [2, 4]), ([16, 13, 15, 0, 1, 2, 3, 4, 5, 6, 7, 8, 9, 10, 11, 12, 13, 14, 15], [13, 16])])
def slices_symMergeCmpFunc_Job__job_Due_1.B11 : List Nat := [0, 0, 0, 0, 8, 0, 0, 64, 224, 480, 0, 0, 3072, 7168, 16355, 32739, 65535, 131071]
theorem slices_symMergeCmpFunc_Job__job_Due_1.tab11 : rtab .any (opsOf Try.f68 11) = slices_symMergeCmpFunc_Job__job_Due_1.T11 := by kernel_rfl
theorem slices_symMergeCmpFunc_Job__job_Due_1.bits11 : waitsOk slices_symMergeCmpFunc_Job__job_Due_1.T11.2 slices_symMergeCmpFunc_Job__job_Due_1.B11 = true := by kernel_rfl
def slices_symMergeCmpFunc_Job__job_Due_1.T17 : Bool × List (List Nat × List Nat) := (true, [([], []), ([], []), ([], []), ([1, 2], [1, 2]), ([3], [3]), ([], []), ([], []), ([5, 6], [5, 6]), ([7], [7]), ([0, 4, 8], [0, 4, 8]), ([9], [9]), ([10], [10])])
def slices_symMergeCmpFunc_Job__job_Due_1.B17 : List Nat := [0, 0, 0, 6, 14, 0, 0, 96, 224, 511, 1023, 2047]
theorem slices_symMergeCmpFunc_Job__job_Due_1.tab17 : rtab .any (opsOf Try.f68 17) = slices_symMergeCmpFunc_Job__job_Due_1.T17 := by kernel_rfl
theorem slices_symMergeCmpFunc_Job__job_Due_1.bits17 : waitsOk slices_symMergeCmpFunc_Job__job_Due_1.T17.2 slices_symMergeCmpFunc_Job__job_Due_1.B17 = true := by kernel_rfl
def slices_symMergeCmpFunc_Job__job_Due_1.T23 : Bool × List (List Nat × List Nat) := (true, [([], []), ([], []), ([], []), ([], []), ([3], [3]), ([], []), ([], []), ([6], [6]), ([5, 7], [5, 7]), ([8], [8]), ([], []), ([], []), ([10, 11], [10, 11]), ([12], [12]), ([0, 1, 0, 1, 5, 6, 7, 8, 9, 13], [0, 1]), ([14, 9, 0, 1, 5, 6, 7, 8, 9, 13], [9, 14]), ([2, 4, 0, 1, 2, 3, 4, 5, 6, 7, 8, 9, 10, 11, 12, 13, 14, 15], [2, 4]), ([16, 13, 15, 0, 1, 2, 3, 4, 5, 6, 7, 8, 9, 10, 11, 12, 13, 14, 15], [13, 16])])
def slices_symMergeCmpFunc_Job__job_Due_1.B23 : List Nat := [0, 0, 0, 0, 8, 0, 0, 64, 224, 480, 0, 0, 3072, 7168, 16355, 32739, 65535, 131071]
theorem slices_symMergeCmpFunc_Job__job_Due_1.tab23 : rtab .any (opsOf Try.f68 23) = slices_symMergeCmpFunc_Job__job_Due_1.T23 := by kernel_rfl
theorem slices_symMergeCmpFunc_Job__job_Due_1.bits23 : waitsOk slices_symMergeCmpFunc_Job__job_Due_1.T23.2 slices_symMergeCmpFunc_Job__job_Due_1.B23 = true := by kernel_rfl
def slices_symMergeCmpFunc_Job__job_Due_1.T35 : Bool × List (List Nat × List Nat) := (true, [([], []), ([], []), ([], []), ([], []), ([2, 3], [2, 3]), ([1, 4], [1, 4]), ([5], [5]), ([], []), ([], []), ([7, 8], [7, 8]), ([9], [9]), ([0, 6, 10], [0, 6, 10]), ([11], [11]), ([12], [12])])
def slices_symMergeCmpFunc_Job__job_Due_1.B35 : List Nat := [0, 0, 0, 0, 12, 30, 62, 0, 0, 384, 896, 2047, 4095, 8191]
theorem slices_symMergeCmpFunc_Job__job_Due_1.tab35 : rtab .any (opsOf Try.f68 35) = slices_symMergeCmpFunc_Job__job_Due_1.T35 := by kernel_rfl
theorem slices_symMergeCmpFunc_Job__job_Due_1.bits35 : waitsOk slices_symMergeCmpFunc_Job__job_Due_1.T35.2 slices_symMergeCmpFunc_Job__job_Due_1.B35 = true := by kernel_rfl
set_option maxHeartbeats 8000000 in
set_option maxRecDepth 100000 in
theorem slices_symMergeCmpFunc_Job__job_Due_1.calls (k : Nat) : ∀ (P0_ : Nat → Prop) (u9000_ : Value) (l0 : List (S32)) (a1 : Int) (a2 : Int) (a3 : Int)  (r : List (S32)) (w0 w : World) (hB : Below w0.heap.size w0 w) (ho0 : Kd.R k32 32 w w0.heap.size P0_ u9000_ l0) (h : slices_symMergeCmpFunc_Job__job_Due_1.f k l0 a1 a2 a3 = some r),
  Calls Try.prog 68 #[u9000_, .int .i64 a1, .int .i64 a2, .int .i64 a3, .func (.func 47) #[] #[]] w fun e w' => e = .returned (.tuple #[]) ∧ Kd.R k32 32 w' w0.heap.size (fun k_ => (P0_ k_ ∨ w.heap.size ≤ k_)) u9000_ r ∧ Below w0.heap.size w0 w' ∧ Kept w w' (fun k_ => P0_ k_) := by
 induction k using Nat.strongRecOn with
 | _ k ih =>
 intro P0_ u9000_ l0 a1 a2 a3 r w0 w hB ho0 h
 cases k with
 | zero => exact absurd h (by simp [slices_symMergeCmpFunc_Job__job_Due_1.f])
 | succ k =>
 simp only [slices_symMergeCmpFunc_Job__job_Due_1.f] at h
 have hu32 := Try.underlying32
 have HO0 := Aside0.mk (show Kd.R k32 32 w w0.heap.size (fun k_ => (P0_ k_ ∨ w.heap.size ≤ k_)) u9000_ l0 from Kd.R_mono ho0 (fun k_ hk => (.inl hk)))
 have HK := Aside0.mk (Kept.refl w (fun k_ => P0_ k_))
 have HW0 := Aside0.mk hB.size
 have HB := Aside0.mk hB
 clear hB
 have H : (if (wrap64 (a2 - a1)) = 1 then (slices_symMergeCmpFunc_Job__job_Due_1.l0 k l0 a1 a2 a3) else (if (wrap64 (a3 - a2)) = 1 then (slices_symMergeCmpFunc_Job__job_Due_1.l2 k l0 a2 a1 a2) else (if a2 > (wrap64 ((IntKind.u64.wrap (wrap64 (a1 + a3))) / 2)) then (slices_symMergeCmpFunc_Job__job_Due_1.j4 k l0 a1 a2 a3 (wrap64 ((IntKind.u64.wrap (wrap64 (a1 + a3))) / 2)) (wrap64 ((wrap64 ((IntKind.u64.wrap (wrap64 (a1 + a3))) / 2)) + a2)) (wrap64 ((wrap64 ((wrap64 ((IntKind.u64.wrap (wrap64 (a1 + a3))) / 2)) + a2)) - a3)) (wrap64 ((IntKind.u64.wrap (wrap64 (a1 + a3))) / 2))) else (slices_symMergeCmpFunc_Job__job_Due_1.j4 k l0 a1 a2 a3 (wrap64 ((IntKind.u64.wrap (wrap64 (a1 + a3))) / 2)) (wrap64 ((wrap64 ((IntKind.u64.wrap (wrap64 (a1 + a3))) / 2)) + a2)) a1 a2)))) = some r := h
 clear h
 by_cases c6 : (wrap64 (a2 - a1)) = 1
 ·rw [if_pos c6] at H
  have c6b0 : ((wrap64 (a2 - a1)) == 1) = true := beq_iff_eq.mpr c6
  have c6b1 : ((wrap64 (a2 - a1)) != 1) = false := bne_eq_false_iff_eq.mpr c6
  clear c6
  have H' := Aside0.mk H
  clear H
  go_enter Try.func68, Try.ntmps68
  go_wp2
  go_loopg [10, 11] k (fun kq v10 v11 w' => ∃ (x10_1 : Int) (x11_1 : Int), v10 = .int .i64 x10_1 ∧ v11 = .int .i64 x11_1 ∧ Aside0 (slices_symMergeCmpFunc_Job__job_Due_1.l0 kq l0 a1 x10_1 x11_1 = some r) ∧ Aside0 (kq ≤ k) ∧ Aside0 (Kd.R k32 32 w' w0.heap.size (fun k_ => (P0_ k_ ∨ w.heap.size ≤ k_)) u9000_ l0) ∧ Aside0 (Kept w w' (fun k_ => P0_ k_)) ∧ Aside0 (Below w0.heap.size w0 w'))
  case atStart => exact ⟨(a2), (a3), ez, ez, H', ⟨Nat.le_refl _⟩, ⟨mR HO0.out⟩, ⟨mK HK.out⟩, ⟨mB HB.out⟩⟩
  case round => as_aux_lemma =>
   clear H'
   (try clear p2); (try clear c6); (try clear c6b0); (try clear c6b1); (try clear p6)
   obtain ⟨x10_1, x11_1, rfl, rfl, HA, HK1, HO_0, HK, HB⟩ := hrel
   cases gk with
   | zero => exact absurd HA.out (by simp [slices_symMergeCmpFunc_Job__job_Due_1.l0])
   | succ k1 =>
    have H := HA.out
    clear HA
    simp only [slices_symMergeCmpFunc_Job__job_Due_1.l0] at H
    by_cases c7 : x10_1 < x11_1
    ·rw [if_pos c7] at H
     have c7b0 : decide (x10_1 < x11_1) = true := decide_eq_true c7
     clear c7
     obtain ⟨ji8, hji8⟩ : ∃ j_ : Int, (wrap64 ((IntKind.u64.wrap (wrap64 (x10_1 + x11_1))) / 2)) = j_ := ⟨_, rfl⟩
     replace H : (if 0 ≤ (ji8) then (if (ji8) < (l0.length : Int) then (if 0 ≤ a1 then (if a1 < (l0.length : Int) then ((job_Due_1.f ((rd_T32 l0 (ji8)).f0) ((rd_T32 l0 (ji8)).f1) ((rd_T32 l0 (ji8)).f2) ((rd_T32 l0 (ji8)).f3) ((rd_T32 l0 (ji8)).f4) ((rd_T32 l0 (ji8)).f5) ((rd_T32 l0 (ji8)).f6) ((rd_T32 l0 (ji8)).f7) ((rd_T32 l0 (ji8)).f8) ((rd_T32 l0 (ji8)).f9) ((rd_T32 l0 (ji8)).f10) ((rd_T32 l0 (ji8)).f11) ((rd_T32 l0 a1).f0) ((rd_T32 l0 a1).f1) ((rd_T32 l0 a1).f2) ((rd_T32 l0 a1).f3) ((rd_T32 l0 a1).f4) ((rd_T32 l0 a1).f5) ((rd_T32 l0 a1).f6) ((rd_T32 l0 a1).f7) ((rd_T32 l0 a1).f8) ((rd_T32 l0 a1).f9) ((rd_T32 l0 a1).f10) ((rd_T32 l0 a1).f11)).bind fun t283 => (if t283 < 0 then (slices_symMergeCmpFunc_Job__job_Due_1.l0 k1 l0 a1 (wrap64 ((ji8) + 1)) x11_1) else (slices_symMergeCmpFunc_Job__job_Due_1.l0 k1 l0 a1 x10_1 ji8))) else (none)) else (none)) else (none)) else (none)) = some r := by first | (rw [hji8] at H; exact H) | (simp only [hji8] at H ⊢; exact H)
     have hji8w : (IntKind.i64.wrap ((IntKind.u64.wrap (wrap64 (x10_1 + x11_1))) / 2)) = ji8 := (i64_w _).trans hji8
     by_cases c9 : 0 ≤ (ji8)
     ·rw [if_pos c9] at H
      have c9b0 : decide (0 ≤ (ji8)) = true := decide_eq_true c9
      clear c9
      by_cases c10 : (ji8) < (l0.length : Int)
      ·rw [if_pos c10] at H
       have c10b0 : decide ((ji8) < (l0.length : Int)) = true := decide_eq_true c10
       clear c10
       by_cases c11 : 0 ≤ a1
       ·rw [if_pos c11] at H
        have c11b0 : decide (0 ≤ a1) = true := decide_eq_true c11
        clear c11
        by_cases c12 : a1 < (l0.length : Int)
        ·rw [if_pos c12] at H
         have c12b0 : decide (a1 < (l0.length : Int)) = true := decide_eq_true c12
         clear c12
         replace H := Option.bind_eq_some_iff.mp H
         obtain ⟨t283, A130, H⟩ := H
         replace H : (if t283 < 0 then (slices_symMergeCmpFunc_Job__job_Due_1.l0 k1 l0 a1 (wrap64 ((ji8) + 1)) x11_1) else (slices_symMergeCmpFunc_Job__job_Due_1.l0 k1 l0 a1 x10_1 ji8)) = some r := H
         have A13 := Aside0.mk A130
         clear A130
         by_cases c14 : t283 < 0
         ·as_aux_lemma =>
          rw [if_pos c14] at H
          have c14b0 : decide (t283 < 0) = true := decide_eq_true c14
          clear c14
          have H' := Aside0.mk H
          clear H
          try go_wp2
          have n0_ := Aside0.mk (Kd.R_drew HO_0.out)
          have n1_ := Aside0.mk (Kept.drew HK.out)
          have n2_ := Aside0.mk (below_drew1 HB.out)
          clear HO_0; clear HK; clear HB
          have HO_0 := n0_
          have HK := n1_
          have HB := n2_
          clear n0_; clear n1_; clear n2_
          obtain ⟨Ao16, co16, eo16⟩ := Kd.R_slice HO_0.out
          (first | subst eo16 | (injection eo16 with f1_ f2_ f3_; have f4_ := f1_.symm; have f5_ := f3_.symm; clear f1_ f2_ f3_; subst f4_; subst f5_))
          have p281 : 0 ≤ ((ji8) : Int) := oda
          have q281 : (ji8) < (l0.length : Int) := oda
          obtain ⟨ad281, e281, hx281_0, hx281_1, hx281_2, hx281_3, hx281_4, hx281_5, hx281_6, hx281_7, hx281_8, hx281_9, hx281_10, hx281_11⟩ := at_T32 (Kd.R_reads' HO_0.out).2.2 (ji8) p281 q281
          cases e281
          replace p281 := eq_true p281
          replace q281 := eq_true q281
          have p282 : 0 ≤ (a1 : Int) := oda
          have q282 : a1 < (l0.length : Int) := oda
          obtain ⟨ad282, e282, hx282_0, hx282_1, hx282_2, hx282_3, hx282_4, hx282_5, hx282_6, hx282_7, hx282_8, hx282_9, hx282_10, hx282_11⟩ := at_T32 (Kd.R_reads' HO_0.out).2.2 a1 p282 q282
          obtain rfl : ad281 = ad282 := (by injection e282)
          replace p282 := eq_true p282
          replace q282 := eq_true q282
          refine start_ (n := 11) (S := fun w' => w'.cell? (ad281.add (((ji8)).toNat * 12)) = some (.int .i64 ((rd_T32 l0 (ji8)).f0)) ∧ w'.cell? ⟨(ad281.add (((ji8)).toNat * 12)).block, (ad281.add (((ji8)).toNat * 12)).off + 1, none⟩ = some (.int .i64 ((rd_T32 l0 (ji8)).f1)) ∧ w'.cell? ⟨(ad281.add (((ji8)).toNat * 12)).block, (ad281.add (((ji8)).toNat * 12)).off + 2, none⟩ = some (.int .i64 ((rd_T32 l0 (ji8)).f2)) ∧ w'.cell? ⟨(ad281.add (((ji8)).toNat * 12)).block, (ad281.add (((ji8)).toNat * 12)).off + 3, none⟩ = some (.int .i64 ((rd_T32 l0 (ji8)).f3)) ∧ w'.cell? ⟨(ad281.add (((ji8)).toNat * 12)).block, (ad281.add (((ji8)).toNat * 12)).off + 4, none⟩ = some (.int .i64 ((rd_T32 l0 (ji8)).f4)) ∧ w'.cell? ⟨(ad281.add (((ji8)).toNat * 12)).block, (ad281.add (((ji8)).toNat * 12)).off + 5, none⟩ = some (.int .i64 ((rd_T32 l0 (ji8)).f5)) ∧ w'.cell? ⟨(ad281.add (((ji8)).toNat * 12)).block, (ad281.add (((ji8)).toNat * 12)).off + 6, none⟩ = some (.int .i64 ((rd_T32 l0 (ji8)).f6)) ∧ w'.cell? ⟨(ad281.add (((ji8)).toNat * 12)).block, (ad281.add (((ji8)).toNat * 12)).off + 7, none⟩ = some (.int .i64 ((rd_T32 l0 (ji8)).f7)) ∧ w'.cell? ⟨(ad281.add (((ji8)).toNat * 12)).block, (ad281.add (((ji8)).toNat * 12)).off + 8, none⟩ = some (.int .i64 ((rd_T32 l0 (ji8)).f8)) ∧ w'.cell? ⟨(ad281.add (((ji8)).toNat * 12)).block, (ad281.add (((ji8)).toNat * 12)).off + 9, none⟩ = some (.int .i64 ((rd_T32 l0 (ji8)).f9)) ∧ w'.cell? ⟨(ad281.add (((ji8)).toNat * 12)).block, (ad281.add (((ji8)).toNat * 12)).off + 10, none⟩ = some (.int .i64 ((rd_T32 l0 (ji8)).f10)) ∧ w'.cell? ⟨(ad281.add (((ji8)).toNat * 12)).block, (ad281.add (((ji8)).toNat * 12)).off + 11, none⟩ = some (.slice ((rd_T32 l0 (ji8)).f11).A ((rd_T32 l0 (ji8)).f11).n ((rd_T32 l0 (ji8)).f11).c) ∧ w'.cell? (ad281.add ((a1).toNat * 12)) = some (.int .i64 ((rd_T32 l0 a1).f0)) ∧ w'.cell? ⟨(ad281.add ((a1).toNat * 12)).block, (ad281.add ((a1).toNat * 12)).off + 1, none⟩ = some (.int .i64 ((rd_T32 l0 a1).f1)) ∧ w'.cell? ⟨(ad281.add ((a1).toNat * 12)).block, (ad281.add ((a1).toNat * 12)).off + 2, none⟩ = some (.int .i64 ((rd_T32 l0 a1).f2)) ∧ w'.cell? ⟨(ad281.add ((a1).toNat * 12)).block, (ad281.add ((a1).toNat * 12)).off + 3, none⟩ = some (.int .i64 ((rd_T32 l0 a1).f3)) ∧ w'.cell? ⟨(ad281.add ((a1).toNat * 12)).block, (ad281.add ((a1).toNat * 12)).off + 4, none⟩ = some (.int .i64 ((rd_T32 l0 a1).f4)) ∧ w'.cell? ⟨(ad281.add ((a1).toNat * 12)).block, (ad281.add ((a1).toNat * 12)).off + 5, none⟩ = some (.int .i64 ((rd_T32 l0 a1).f5)) ∧ w'.cell? ⟨(ad281.add ((a1).toNat * 12)).block, (ad281.add ((a1).toNat * 12)).off + 6, none⟩ = some (.int .i64 ((rd_T32 l0 a1).f6)) ∧ w'.cell? ⟨(ad281.add ((a1).toNat * 12)).block, (ad281.add ((a1).toNat * 12)).off + 7, none⟩ = some (.int .i64 ((rd_T32 l0 a1).f7)) ∧ w'.cell? ⟨(ad281.add ((a1).toNat * 12)).block, (ad281.add ((a1).toNat * 12)).off + 8, none⟩ = some (.int .i64 ((rd_T32 l0 a1).f8)) ∧ w'.cell? ⟨(ad281.add ((a1).toNat * 12)).block, (ad281.add ((a1).toNat * 12)).off + 9, none⟩ = some (.int .i64 ((rd_T32 l0 a1).f9)) ∧ w'.cell? ⟨(ad281.add ((a1).toNat * 12)).block, (ad281.add ((a1).toNat * 12)).off + 10, none⟩ = some (.int .i64 ((rd_T32 l0 a1).f10)) ∧ w'.cell? ⟨(ad281.add ((a1).toNat * 12)).block, (ad281.add ((a1).toNat * 12)).off + 11, none⟩ = some (.slice ((rd_T32 l0 a1).f11).A ((rd_T32 l0 a1).f11).n ((rd_T32 l0 a1).f11).c)) (ds := []) #[false, false, false, false, false, false, false, false, false, false, false] (by kernel_rfl) rfl rfl ⟨hx281_0, hx281_1, hx281_2, hx281_3, hx281_4, hx281_5, hx281_6, hx281_7, hx281_8, hx281_9, hx281_10, hx281_11, hx282_0, hx282_1, hx282_2, hx282_3, hx282_4, hx282_5, hx282_6, hx282_7, hx282_8, hx282_9, hx282_10, hx282_11⟩ (fun hHeld => ?_); refine with_tabW slices_symMergeCmpFunc_Job__job_Due_1.tab5 slices_symMergeCmpFunc_Job__job_Due_1.bits5 (fun HT_ HW_ => ?_)
          generalize wr.drew = w15 at HO_0 HK HB hx281_0 hx281_1 hx281_10 hx281_11 hx281_2 hx281_3 hx281_4 hx281_5 hx281_6 hx281_7 hx281_8 hx281_9 hx282_0 hx282_1 hx282_10 hx282_11 hx282_2 hx282_3 hx282_4 hx282_5 hx282_6 hx282_7 hx282_8 hx282_9 hHeld ⊢
          refine plan_ [(0, 40), (1, 41), (2, 42), (3, 43), (5, 45), (6, 46), (7, 47)] ?_
          iterate 7 (refine planP_ (v := ?_) (a' := ?_) rfl rfl (any_of HT_.out (by kernel_rfl)) (fun _ _ _ h => h) (Or.inl ⟨by rfl, ?_⟩) ?_ ?_; rotate_left; (intro w'; go_simp; with_reducible rfl); rotate_left; (simp only [Act.put, List.setIfInBounds_toArray, List.set_cons_zero, List.set_cons_succ, i64_w, i32_w]; rfl))
          refine planEnd_ ?_
          refine plan_ [(4, 44), (8, 48)] ?_
          iterate 2 (refine planT_ (v := ?_) (a' := ?_) rfl rfl (take_ofW HT_.out HW_.out (by kernel_rfl)) (fun _ _ _ h => h) (Or.inl ⟨by rfl, ?_⟩) hHeld ?_ ?_; rotate_left; (rintro w' ⟨s0, s1, s2, s3, s4, s5, s6, s7, s8, s9, s10, s11, s12, s13, s14, s15, s16, s17, s18, s19, s20, s21, s22, s23⟩; go_simp; with_reducible rfl); rotate_left; (simp only [Act.put, List.setIfInBounds_toArray, List.set_cons_zero, List.set_cons_succ, i64_w, i32_w]; rfl))
          refine planEnd_ ?_
          refine one_ (i := 9) (N := some 49) #[true, true, true, true, true, true, true, true, true, true, false] rfl rfl (one_of HT_.out (by kernel_rfl)) (by decide) (fun K hK => ?_)
          refine goesV_ Try.func47 (by kernel_rfl) rfl #[.agg #[.int .i64 ((rd_T32 l0 (ji8)).f0), .int .i64 ((rd_T32 l0 (ji8)).f1), .int .i64 ((rd_T32 l0 (ji8)).f2), .int .i64 ((rd_T32 l0 (ji8)).f3), .int .i64 ((rd_T32 l0 (ji8)).f4), .int .i64 ((rd_T32 l0 (ji8)).f5), .int .i64 ((rd_T32 l0 (ji8)).f6), .int .i64 ((rd_T32 l0 (ji8)).f7), .int .i64 ((rd_T32 l0 (ji8)).f8), .int .i64 ((rd_T32 l0 (ji8)).f9), .int .i64 ((rd_T32 l0 (ji8)).f10), .slice ((rd_T32 l0 (ji8)).f11).A ((rd_T32 l0 (ji8)).f11).n ((rd_T32 l0 (ji8)).f11).c], .agg #[.int .i64 ((rd_T32 l0 a1).f0), .int .i64 ((rd_T32 l0 a1).f1), .int .i64 ((rd_T32 l0 a1).f2), .int .i64 ((rd_T32 l0 a1).f3), .int .i64 ((rd_T32 l0 a1).f4), .int .i64 ((rd_T32 l0 a1).f5), .int .i64 ((rd_T32 l0 a1).f6), .int .i64 ((rd_T32 l0 a1).f7), .int .i64 ((rd_T32 l0 a1).f8), .int .i64 ((rd_T32 l0 a1).f9), .int .i64 ((rd_T32 l0 a1).f10), .slice ((rd_T32 l0 a1).f11).A ((rd_T32 l0 a1).f11).n ((rd_T32 l0 a1).f11).c]] (by rfl) rfl rfl (by (try simp only [List.map_toArray, List.map_cons, List.map_nil]); first | done | (simp only [hji8]; rfl) | rfl | (simp only [List.length_drop, List.length_take]; rfl)) rfl ?_
          with_reducible refine (job_Due_1.calls ((rd_T32 l0 (ji8)).f0) ((rd_T32 l0 (ji8)).f1) ((rd_T32 l0 (ji8)).f2) ((rd_T32 l0 (ji8)).f3) ((rd_T32 l0 (ji8)).f4) ((rd_T32 l0 (ji8)).f5) ((rd_T32 l0 (ji8)).f6) ((rd_T32 l0 (ji8)).f7) ((rd_T32 l0 (ji8)).f8) ((rd_T32 l0 (ji8)).f9) ((rd_T32 l0 (ji8)).f10) ((rd_T32 l0 (ji8)).f11) ((rd_T32 l0 a1).f0) ((rd_T32 l0 a1).f1) ((rd_T32 l0 a1).f2) ((rd_T32 l0 a1).f3) ((rd_T32 l0 a1).f4) ((rd_T32 l0 a1).f5) ((rd_T32 l0 a1).f6) ((rd_T32 l0 a1).f7) ((rd_T32 l0 a1).f8) ((rd_T32 l0 a1).f9) ((rd_T32 l0 a1).f10) ((rd_T32 l0 a1).f11) t283 _ A13.out).mono ?_
          rintro e w17 ⟨rfl, hb⟩
          have HS0_ := (hb.cell (World.block_lt_of_cell? _ _ (hHeld.1))).trans (hHeld.1)
          have HS1_ := (hb.cell (World.block_lt_of_cell? _ _ (hHeld.2.1))).trans (hHeld.2.1)
          have HS2_ := (hb.cell (World.block_lt_of_cell? _ _ (hHeld.2.2.1))).trans (hHeld.2.2.1)
          have HS3_ := (hb.cell (World.block_lt_of_cell? _ _ (hHeld.2.2.2.1))).trans (hHeld.2.2.2.1)
          have HS4_ := (hb.cell (World.block_lt_of_cell? _ _ (hHeld.2.2.2.2.1))).trans (hHeld.2.2.2.2.1)
          have HS5_ := (hb.cell (World.block_lt_of_cell? _ _ (hHeld.2.2.2.2.2.1))).trans (hHeld.2.2.2.2.2.1)
          have HS6_ := (hb.cell (World.block_lt_of_cell? _ _ (hHeld.2.2.2.2.2.2.1))).trans (hHeld.2.2.2.2.2.2.1)
          have HS7_ := (hb.cell (World.block_lt_of_cell? _ _ (hHeld.2.2.2.2.2.2.2.1))).trans (hHeld.2.2.2.2.2.2.2.1)
          have HS8_ := (hb.cell (World.block_lt_of_cell? _ _ (hHeld.2.2.2.2.2.2.2.2.1))).trans (hHeld.2.2.2.2.2.2.2.2.1)
          have HS9_ := (hb.cell (World.block_lt_of_cell? _ _ (hHeld.2.2.2.2.2.2.2.2.2.1))).trans (hHeld.2.2.2.2.2.2.2.2.2.1)
          have HS10_ := (hb.cell (World.block_lt_of_cell? _ _ (hHeld.2.2.2.2.2.2.2.2.2.2.1))).trans (hHeld.2.2.2.2.2.2.2.2.2.2.1)
          have HS11_ := (hb.cell (World.block_lt_of_cell? _ _ (hHeld.2.2.2.2.2.2.2.2.2.2.2.1))).trans (hHeld.2.2.2.2.2.2.2.2.2.2.2.1)
          have HS12_ := (hb.cell (World.block_lt_of_cell? _ _ (hHeld.2.2.2.2.2.2.2.2.2.2.2.2.1))).trans (hHeld.2.2.2.2.2.2.2.2.2.2.2.2.1)
          have HS13_ := (hb.cell (World.block_lt_of_cell? _ _ (hHeld.2.2.2.2.2.2.2.2.2.2.2.2.2.1))).trans (hHeld.2.2.2.2.2.2.2.2.2.2.2.2.2.1)
          have HS14_ := (hb.cell (World.block_lt_of_cell? _ _ (hHeld.2.2.2.2.2.2.2.2.2.2.2.2.2.2.1))).trans (hHeld.2.2.2.2.2.2.2.2.2.2.2.2.2.2.1)
          have HS15_ := (hb.cell (World.block_lt_of_cell? _ _ (hHeld.2.2.2.2.2.2.2.2.2.2.2.2.2.2.2.1))).trans (hHeld.2.2.2.2.2.2.2.2.2.2.2.2.2.2.2.1)
          have HS16_ := (hb.cell (World.block_lt_of_cell? _ _ (hHeld.2.2.2.2.2.2.2.2.2.2.2.2.2.2.2.2.1))).trans (hHeld.2.2.2.2.2.2.2.2.2.2.2.2.2.2.2.2.1)
          have HS17_ := (hb.cell (World.block_lt_of_cell? _ _ (hHeld.2.2.2.2.2.2.2.2.2.2.2.2.2.2.2.2.2.1))).trans (hHeld.2.2.2.2.2.2.2.2.2.2.2.2.2.2.2.2.2.1)
          have HS18_ := (hb.cell (World.block_lt_of_cell? _ _ (hHeld.2.2.2.2.2.2.2.2.2.2.2.2.2.2.2.2.2.2.1))).trans (hHeld.2.2.2.2.2.2.2.2.2.2.2.2.2.2.2.2.2.2.1)
          have HS19_ := (hb.cell (World.block_lt_of_cell? _ _ (hHeld.2.2.2.2.2.2.2.2.2.2.2.2.2.2.2.2.2.2.2.1))).trans (hHeld.2.2.2.2.2.2.2.2.2.2.2.2.2.2.2.2.2.2.2.1)
          have HS20_ := (hb.cell (World.block_lt_of_cell? _ _ (hHeld.2.2.2.2.2.2.2.2.2.2.2.2.2.2.2.2.2.2.2.2.1))).trans (hHeld.2.2.2.2.2.2.2.2.2.2.2.2.2.2.2.2.2.2.2.2.1)
          have HS21_ := (hb.cell (World.block_lt_of_cell? _ _ (hHeld.2.2.2.2.2.2.2.2.2.2.2.2.2.2.2.2.2.2.2.2.2.1))).trans (hHeld.2.2.2.2.2.2.2.2.2.2.2.2.2.2.2.2.2.2.2.2.2.1)
          have HS22_ := (hb.cell (World.block_lt_of_cell? _ _ (hHeld.2.2.2.2.2.2.2.2.2.2.2.2.2.2.2.2.2.2.2.2.2.2.1))).trans (hHeld.2.2.2.2.2.2.2.2.2.2.2.2.2.2.2.2.2.2.2.2.2.2.1)
          have HS23_ := (hb.cell (World.block_lt_of_cell? _ _ (hHeld.2.2.2.2.2.2.2.2.2.2.2.2.2.2.2.2.2.2.2.2.2.2.2))).trans (hHeld.2.2.2.2.2.2.2.2.2.2.2.2.2.2.2.2.2.2.2.2.2.2.2)
          refine ⟨_, rfl, ?_⟩
          have n0_ := Aside0.mk (Kd.R_below (mR HO_0.out) hb)
          have n1_ := Aside0.mk (Kept.below (S := (fun k_ => P0_ k_)) (mK HK.out) hb)
          have n2_ := Aside0.mk (below_step (mB HB.out) hb)
          clear HO_0; clear HK; clear HB
          have HO_0 := n0_
          have HK := n1_
          have HB := n2_
          clear n0_; clear n1_; clear n2_
          (try clear hb); (try clear hb2); (try clear hk); (try clear hi)
          refine hK.out _ _ ⟨HS0_, HS1_, HS2_, HS3_, HS4_, HS5_, HS6_, HS7_, HS8_, HS9_, HS10_, HS11_, HS12_, HS13_, HS14_, HS15_, HS16_, HS17_, HS18_, HS19_, HS20_, HS21_, HS22_, HS23_⟩ (fun hHeld => ?_)
          clear hK; clear K
          refine norm_ (a' := ?_) ?_ ?_
          rotate_left
          ·show Act.put _ (some 49) _ = _
           simp only [Act.put, List.setIfInBounds_toArray, List.set_cons_zero, List.set_cons_succ, i64_w, i32_w]
           rfl
          refine plan_ [(10, 50)] ?_
          refine planP_ (v := ?_) (a' := ?_) rfl rfl (any_of HT_.out (by kernel_rfl)) (fun _ _ _ h => h) (Or.inl ⟨by rfl, ?_⟩) ?_ ?_; rotate_left; (intro w'; go_simp; with_reducible rfl); rotate_left; (simp only [Act.put, List.setIfInBounds_toArray, List.set_cons_zero, List.set_cons_succ, i64_w, i32_w]; rfl)
          refine planEnd_ ?_
          refine done_ (done_of HT_.out (by kernel_rfl)) ?_
          try go_wp2
          go_roundg k1
          case measure => have := HK1.out; omega
          case rel => exact ⟨(wrap64 ((ji8) + 1)), (x11_1), (by first | rfl | (simp; done) | (simp only [← hji8] <;> (first | rfl | simp)) | (simp [*]; done)), ez, H', ⟨by have := HK1.out; omega⟩, ⟨mR HO_0.out⟩, ⟨mK HK.out⟩, ⟨mB HB.out⟩⟩
         ·as_aux_lemma =>
          rw [if_neg c14] at H
          have c14b0 : decide (t283 < 0) = false := decide_eq_false c14
          clear c14
          have H' := Aside0.mk H
          clear H
          try go_wp2
          have n0_ := Aside0.mk (Kd.R_drew HO_0.out)
          have n1_ := Aside0.mk (Kept.drew HK.out)
          have n2_ := Aside0.mk (below_drew1 HB.out)
          clear HO_0; clear HK; clear HB
          have HO_0 := n0_
          have HK := n1_
          have HB := n2_
          clear n0_; clear n1_; clear n2_
          obtain ⟨Ao19, co19, eo19⟩ := Kd.R_slice HO_0.out
          (first | subst eo19 | (injection eo19 with f1_ f2_ f3_; have f4_ := f1_.symm; have f5_ := f3_.symm; clear f1_ f2_ f3_; subst f4_; subst f5_))
          have p281 : 0 ≤ ((ji8) : Int) := oda
          have q281 : (ji8) < (l0.length : Int) := oda
          obtain ⟨ad281, e281, hx281_0, hx281_1, hx281_2, hx281_3, hx281_4, hx281_5, hx281_6, hx281_7, hx281_8, hx281_9, hx281_10, hx281_11⟩ := at_T32 (Kd.R_reads' HO_0.out).2.2 (ji8) p281 q281
          cases e281
          replace p281 := eq_true p281
          replace q281 := eq_true q281
          have p282 : 0 ≤ (a1 : Int) := oda
          have q282 : a1 < (l0.length : Int) := oda
          obtain ⟨ad282, e282, hx282_0, hx282_1, hx282_2, hx282_3, hx282_4, hx282_5, hx282_6, hx282_7, hx282_8, hx282_9, hx282_10, hx282_11⟩ := at_T32 (Kd.R_reads' HO_0.out).2.2 a1 p282 q282
          obtain rfl : ad281 = ad282 := (by injection e282)
          replace p282 := eq_true p282
          replace q282 := eq_true q282
          refine start_ (n := 11) (S := fun w' => w'.cell? (ad281.add (((ji8)).toNat * 12)) = some (.int .i64 ((rd_T32 l0 (ji8)).f0)) ∧ w'.cell? ⟨(ad281.add (((ji8)).toNat * 12)).block, (ad281.add (((ji8)).toNat * 12)).off + 1, none⟩ = some (.int .i64 ((rd_T32 l0 (ji8)).f1)) ∧ w'.cell? ⟨(ad281.add (((ji8)).toNat * 12)).block, (ad281.add (((ji8)).toNat * 12)).off + 2, none⟩ = some (.int .i64 ((rd_T32 l0 (ji8)).f2)) ∧ w'.cell? ⟨(ad281.add (((ji8)).toNat * 12)).block, (ad281.add (((ji8)).toNat * 12)).off + 3, none⟩ = some (.int .i64 ((rd_T32 l0 (ji8)).f3)) ∧ w'.cell? ⟨(ad281.add (((ji8)).toNat * 12)).block, (ad281.add (((ji8)).toNat * 12)).off + 4, none⟩ = some (.int .i64 ((rd_T32 l0 (ji8)).f4)) ∧ w'.cell? ⟨(ad281.add (((ji8)).toNat * 12)).block, (ad281.add (((ji8)).toNat * 12)).off + 5, none⟩ = some (.int .i64 ((rd_T32 l0 (ji8)).f5)) ∧ w'.cell? ⟨(ad281.add (((ji8)).toNat * 12)).block, (ad281.add (((ji8)).toNat * 12)).off + 6, none⟩ = some (.int .i64 ((rd_T32 l0 (ji8)).f6)) ∧ w'.cell? ⟨(ad281.add (((ji8)).toNat * 12)).block, (ad281.add (((ji8)).toNat * 12)).off + 7, none⟩ = some (.int .i64 ((rd_T32 l0 (ji8)).f7)) ∧ w'.cell? ⟨(ad281.add (((ji8)).toNat * 12)).block, (ad281.add (((ji8)).toNat * 12)).off + 8, none⟩ = some (.int .i64 ((rd_T32 l0 (ji8)).f8)) ∧ w'.cell? ⟨(ad281.add (((ji8)).toNat * 12)).block, (ad281.add (((ji8)).toNat * 12)).off + 9, none⟩ = some (.int .i64 ((rd_T32 l0 (ji8)).f9)) ∧ w'.cell? ⟨(ad281.add (((ji8)).toNat * 12)).block, (ad281.add (((ji8)).toNat * 12)).off + 10, none⟩ = some (.int .i64 ((rd_T32 l0 (ji8)).f10)) ∧ w'.cell? ⟨(ad281.add (((ji8)).toNat * 12)).block, (ad281.add (((ji8)).toNat * 12)).off + 11, none⟩ = some (.slice ((rd_T32 l0 (ji8)).f11).A ((rd_T32 l0 (ji8)).f11).n ((rd_T32 l0 (ji8)).f11).c) ∧ w'.cell? (ad281.add ((a1).toNat * 12)) = some (.int .i64 ((rd_T32 l0 a1).f0)) ∧ w'.cell? ⟨(ad281.add ((a1).toNat * 12)).block, (ad281.add ((a1).toNat * 12)).off + 1, none⟩ = some (.int .i64 ((rd_T32 l0 a1).f1)) ∧ w'.cell? ⟨(ad281.add ((a1).toNat * 12)).block, (ad281.add ((a1).toNat * 12)).off + 2, none⟩ = some (.int .i64 ((rd_T32 l0 a1).f2)) ∧ w'.cell? ⟨(ad281.add ((a1).toNat * 12)).block, (ad281.add ((a1).toNat * 12)).off + 3, none⟩ = some (.int .i64 ((rd_T32 l0 a1).f3)) ∧ w'.cell? ⟨(ad281.add ((a1).toNat * 12)).block, (ad281.add ((a1).toNat * 12)).off + 4, none⟩ = some (.int .i64 ((rd_T32 l0 a1).f4)) ∧ w'.cell? ⟨(ad281.add ((a1).toNat * 12)).block, (ad281.add ((a1).toNat * 12)).off + 5, none⟩ = some (.int .i64 ((rd_T32 l0 a1).f5)) ∧ w'.cell? ⟨(ad281.add ((a1).toNat * 12)).block, (ad281.add ((a1).toNat * 12)).off + 6, none⟩ = some (.int .i64 ((rd_T32 l0 a1).f6)) ∧ w'.cell? ⟨(ad281.add ((a1).toNat * 12)).block, (ad281.add ((a1).toNat * 12)).off + 7, none⟩ = some (.int .i64 ((rd_T32 l0 a1).f7)) ∧ w'.cell? ⟨(ad281.add ((a1).toNat * 12)).block, (ad281.add ((a1).toNat * 12)).off + 8, none⟩ = some (.int .i64 ((rd_T32 l0 a1).f8)) ∧ w'.cell? ⟨(ad281.add ((a1).toNat * 12)).block, (ad281.add ((a1).toNat * 12)).off + 9, none⟩ = some (.int .i64 ((rd_T32 l0 a1).f9)) ∧ w'.cell? ⟨(ad281.add ((a1).toNat * 12)).block, (ad281.add ((a1).toNat * 12)).off + 10, none⟩ = some (.int .i64 ((rd_T32 l0 a1).f10)) ∧ w'.cell? ⟨(ad281.add ((a1).toNat * 12)).block, (ad281.add ((a1).toNat * 12)).off + 11, none⟩ = some (.slice ((rd_T32 l0 a1).f11).A ((rd_T32 l0 a1).f11).n ((rd_T32 l0 a1).f11).c)) (ds := []) #[false, false, false, false, false, false, false, false, false, false, false] (by kernel_rfl) rfl rfl ⟨hx281_0, hx281_1, hx281_2, hx281_3, hx281_4, hx281_5, hx281_6, hx281_7, hx281_8, hx281_9, hx281_10, hx281_11, hx282_0, hx282_1, hx282_2, hx282_3, hx282_4, hx282_5, hx282_6, hx282_7, hx282_8, hx282_9, hx282_10, hx282_11⟩ (fun hHeld => ?_); refine with_tabW slices_symMergeCmpFunc_Job__job_Due_1.tab5 slices_symMergeCmpFunc_Job__job_Due_1.bits5 (fun HT_ HW_ => ?_)
          generalize wr.drew = w18 at HO_0 HK HB hx281_0 hx281_1 hx281_10 hx281_11 hx281_2 hx281_3 hx281_4 hx281_5 hx281_6 hx281_7 hx281_8 hx281_9 hx282_0 hx282_1 hx282_10 hx282_11 hx282_2 hx282_3 hx282_4 hx282_5 hx282_6 hx282_7 hx282_8 hx282_9 hHeld ⊢
          refine plan_ [(0, 40), (1, 41), (2, 42), (3, 43), (5, 45), (6, 46), (7, 47)] ?_
          iterate 7 (refine planP_ (v := ?_) (a' := ?_) rfl rfl (any_of HT_.out (by kernel_rfl)) (fun _ _ _ h => h) (Or.inl ⟨by rfl, ?_⟩) ?_ ?_; rotate_left; (intro w'; go_simp; with_reducible rfl); rotate_left; (simp only [Act.put, List.setIfInBounds_toArray, List.set_cons_zero, List.set_cons_succ, i64_w, i32_w]; rfl))
          refine planEnd_ ?_
          refine plan_ [(4, 44), (8, 48)] ?_
          iterate 2 (refine planT_ (v := ?_) (a' := ?_) rfl rfl (take_ofW HT_.out HW_.out (by kernel_rfl)) (fun _ _ _ h => h) (Or.inl ⟨by rfl, ?_⟩) hHeld ?_ ?_; rotate_left; (rintro w' ⟨s0, s1, s2, s3, s4, s5, s6, s7, s8, s9, s10, s11, s12, s13, s14, s15, s16, s17, s18, s19, s20, s21, s22, s23⟩; go_simp; with_reducible rfl); rotate_left; (simp only [Act.put, List.setIfInBounds_toArray, List.set_cons_zero, List.set_cons_succ, i64_w, i32_w]; rfl))
          refine planEnd_ ?_
          refine one_ (i := 9) (N := some 49) #[true, true, true, true, true, true, true, true, true, true, false] rfl rfl (one_of HT_.out (by kernel_rfl)) (by decide) (fun K hK => ?_)
          refine goesV_ Try.func47 (by kernel_rfl) rfl #[.agg #[.int .i64 ((rd_T32 l0 (ji8)).f0), .int .i64 ((rd_T32 l0 (ji8)).f1), .int .i64 ((rd_T32 l0 (ji8)).f2), .int .i64 ((rd_T32 l0 (ji8)).f3), .int .i64 ((rd_T32 l0 (ji8)).f4), .int .i64 ((rd_T32 l0 (ji8)).f5), .int .i64 ((rd_T32 l0 (ji8)).f6), .int .i64 ((rd_T32 l0 (ji8)).f7), .int .i64 ((rd_T32 l0 (ji8)).f8), .int .i64 ((rd_T32 l0 (ji8)).f9), .int .i64 ((rd_T32 l0 (ji8)).f10), .slice ((rd_T32 l0 (ji8)).f11).A ((rd_T32 l0 (ji8)).f11).n ((rd_T32 l0 (ji8)).f11).c], .agg #[.int .i64 ((rd_T32 l0 a1).f0), .int .i64 ((rd_T32 l0 a1).f1), .int .i64 ((rd_T32 l0 a1).f2), .int .i64 ((rd_T32 l0 a1).f3), .int .i64 ((rd_T32 l0 a1).f4), .int .i64 ((rd_T32 l0 a1).f5), .int .i64 ((rd_T32 l0 a1).f6), .int .i64 ((rd_T32 l0 a1).f7), .int .i64 ((rd_T32 l0 a1).f8), .int .i64 ((rd_T32 l0 a1).f9), .int .i64 ((rd_T32 l0 a1).f10), .slice ((rd_T32 l0 a1).f11).A ((rd_T32 l0 a1).f11).n ((rd_T32 l0 a1).f11).c]] (by rfl) rfl rfl (by (try simp only [List.map_toArray, List.map_cons, List.map_nil]); first | done | (simp only [hji8]; rfl) | rfl | (simp only [List.length_drop, List.length_take]; rfl)) rfl ?_
          with_reducible refine (job_Due_1.calls ((rd_T32 l0 (ji8)).f0) ((rd_T32 l0 (ji8)).f1) ((rd_T32 l0 (ji8)).f2) ((rd_T32 l0 (ji8)).f3) ((rd_T32 l0 (ji8)).f4) ((rd_T32 l0 (ji8)).f5) ((rd_T32 l0 (ji8)).f6) ((rd_T32 l0 (ji8)).f7) ((rd_T32 l0 (ji8)).f8) ((rd_T32 l0 (ji8)).f9) ((rd_T32 l0 (ji8)).f10) ((rd_T32 l0 (ji8)).f11) ((rd_T32 l0 a1).f0) ((rd_T32 l0 a1).f1) ((rd_T32 l0 a1).f2) ((rd_T32 l0 a1).f3) ((rd_T32 l0 a1).f4) ((rd_T32 l0 a1).f5) ((rd_T32 l0 a1).f6) ((rd_T32 l0 a1).f7) ((rd_T32 l0 a1).f8) ((rd_T32 l0 a1).f9) ((rd_T32 l0 a1).f10) ((rd_T32 l0 a1).f11) t283 _ A13.out).mono ?_
          rintro e w20 ⟨rfl, hb⟩
          have HS0_ := (hb.cell (World.block_lt_of_cell? _ _ (hHeld.1))).trans (hHeld.1)
          have HS1_ := (hb.cell (World.block_lt_of_cell? _ _ (hHeld.2.1))).trans (hHeld.2.1)
          have HS2_ := (hb.cell (World.block_lt_of_cell? _ _ (hHeld.2.2.1))).trans (hHeld.2.2.1)
          have HS3_ := (hb.cell (World.block_lt_of_cell? _ _ (hHeld.2.2.2.1))).trans (hHeld.2.2.2.1)
          have HS4_ := (hb.cell (World.block_lt_of_cell? _ _ (hHeld.2.2.2.2.1))).trans (hHeld.2.2.2.2.1)
          have HS5_ := (hb.cell (World.block_lt_of_cell? _ _ (hHeld.2.2.2.2.2.1))).trans (hHeld.2.2.2.2.2.1)
          have HS6_ := (hb.cell (World.block_lt_of_cell? _ _ (hHeld.2.2.2.2.2.2.1))).trans (hHeld.2.2.2.2.2.2.1)
          have HS7_ := (hb.cell (World.block_lt_of_cell? _ _ (hHeld.2.2.2.2.2.2.2.1))).trans (hHeld.2.2.2.2.2.2.2.1)
          have HS8_ := (hb.cell (World.block_lt_of_cell? _ _ (hHeld.2.2.2.2.2.2.2.2.1))).trans (hHeld.2.2.2.2.2.2.2.2.1)
          have HS9_ := (hb.cell (World.block_lt_of_cell? _ _ (hHeld.2.2.2.2.2.2.2.2.2.1))).trans (hHeld.2.2.2.2.2.2.2.2.2.1)
          have HS10_ := (hb.cell (World.block_lt_of_cell? _ _ (hHeld.2.2.2.2.2.2.2.2.2.2.1))).trans (hHeld.2.2.2.2.2.2.2.2.2.2.1)
          have HS11_ := (hb.cell (World.block_lt_of_cell? _ _ (hHeld.2.2.2.2.2.2.2.2.2.2.2.1))).trans (hHeld.2.2.2.2.2.2.2.2.2.2.2.1)
          have HS12_ := (hb.cell (World.block_lt_of_cell? _ _ (hHeld.2.2.2.2.2.2.2.2.2.2.2.2.1))).trans (hHeld.2.2.2.2.2.2.2.2.2.2.2.2.1)
          have HS13_ := (hb.cell (World.block_lt_of_cell? _ _ (hHeld.2.2.2.2.2.2.2.2.2.2.2.2.2.1))).trans (hHeld.2.2.2.2.2.2.2.2.2.2.2.2.2.1)
          have HS14_ := (hb.cell (World.block_lt_of_cell? _ _ (hHeld.2.2.2.2.2.2.2.2.2.2.2.2.2.2.1))).trans (hHeld.2.2.2.2.2.2.2.2.2.2.2.2.2.2.1)
          have HS15_ := (hb.cell (World.block_lt_of_cell? _ _ (hHeld.2.2.2.2.2.2.2.2.2.2.2.2.2.2.2.1))).trans (hHeld.2.2.2.2.2.2.2.2.2.2.2.2.2.2.2.1)
          have HS16_ := (hb.cell (World.block_lt_of_cell? _ _ (hHeld.2.2.2.2.2.2.2.2.2.2.2.2.2.2.2.2.1))).trans (hHeld.2.2.2.2.2.2.2.2.2.2.2.2.2.2.2.2.1)
          have HS17_ := (hb.cell (World.block_lt_of_cell? _ _ (hHeld.2.2.2.2.2.2.2.2.2.2.2.2.2.2.2.2.2.1))).trans (hHeld.2.2.2.2.2.2.2.2.2.2.2.2.2.2.2.2.2.1)
          have HS18_ := (hb.cell (World.block_lt_of_cell? _ _ (hHeld.2.2.2.2.2.2.2.2.2.2.2.2.2.2.2.2.2.2.1))).trans (hHeld.2.2.2.2.2.2.2.2.2.2.2.2.2.2.2.2.2.2.1)
          have HS19_ := (hb.cell (World.block_lt_of_cell? _ _ (hHeld.2.2.2.2.2.2.2.2.2.2.2.2.2.2.2.2.2.2.2.1))).trans (hHeld.2.2.2.2.2.2.2.2.2.2.2.2.2.2.2.2.2.2.2.1)
          have HS20_ := (hb.cell (World.block_lt_of_cell? _ _ (hHeld.2.2.2.2.2.2.2.2.2.2.2.2.2.2.2.2.2.2.2.2.1))).trans (hHeld.2.2.2.2.2.2.2.2.2.2.2.2.2.2.2.2.2.2.2.2.1)
          have HS21_ := (hb.cell (World.block_lt_of_cell? _ _ (hHeld.2.2.2.2.2.2.2.2.2.2.2.2.2.2.2.2.2.2.2.2.2.1))).trans (hHeld.2.2.2.2.2.2.2.2.2.2.2.2.2.2.2.2.2.2.2.2.2.1)
          have HS22_ := (hb.cell (World.block_lt_of_cell? _ _ (hHeld.2.2.2.2.2.2.2.2.2.2.2.2.2.2.2.2.2.2.2.2.2.2.1))).trans (hHeld.2.2.2.2.2.2.2.2.2.2.2.2.2.2.2.2.2.2.2.2.2.2.1)
          have HS23_ := (hb.cell (World.block_lt_of_cell? _ _ (hHeld.2.2.2.2.2.2.2.2.2.2.2.2.2.2.2.2.2.2.2.2.2.2.2))).trans (hHeld.2.2.2.2.2.2.2.2.2.2.2.2.2.2.2.2.2.2.2.2.2.2.2)
          refine ⟨_, rfl, ?_⟩
          have n0_ := Aside0.mk (Kd.R_below (mR HO_0.out) hb)
          have n1_ := Aside0.mk (Kept.below (S := (fun k_ => P0_ k_)) (mK HK.out) hb)
          have n2_ := Aside0.mk (below_step (mB HB.out) hb)
          clear HO_0; clear HK; clear HB
          have HO_0 := n0_
          have HK := n1_
          have HB := n2_
          clear n0_; clear n1_; clear n2_
          (try clear hb); (try clear hb2); (try clear hk); (try clear hi)
          refine hK.out _ _ ⟨HS0_, HS1_, HS2_, HS3_, HS4_, HS5_, HS6_, HS7_, HS8_, HS9_, HS10_, HS11_, HS12_, HS13_, HS14_, HS15_, HS16_, HS17_, HS18_, HS19_, HS20_, HS21_, HS22_, HS23_⟩ (fun hHeld => ?_)
          clear hK; clear K
          refine norm_ (a' := ?_) ?_ ?_
          rotate_left
          ·show Act.put _ (some 49) _ = _
           simp only [Act.put, List.setIfInBounds_toArray, List.set_cons_zero, List.set_cons_succ, i64_w, i32_w]
           rfl
          refine plan_ [(10, 50)] ?_
          refine planP_ (v := ?_) (a' := ?_) rfl rfl (any_of HT_.out (by kernel_rfl)) (fun _ _ _ h => h) (Or.inl ⟨by rfl, ?_⟩) ?_ ?_; rotate_left; (intro w'; go_simp; with_reducible rfl); rotate_left; (simp only [Act.put, List.setIfInBounds_toArray, List.set_cons_zero, List.set_cons_succ, i64_w, i32_w]; rfl)
          refine planEnd_ ?_
          refine done_ (done_of HT_.out (by kernel_rfl)) ?_
          try go_wp2
          go_roundg k1
          case measure => have := HK1.out; omega
          case rel => exact ⟨(x10_1), (ji8), ez, (by first | rfl | (simp; done) | (simp only [← hji8] <;> (first | rfl | simp)) | (simp [*]; done)), H', ⟨by have := HK1.out; omega⟩, ⟨mR HO_0.out⟩, ⟨mK HK.out⟩, ⟨mB HB.out⟩⟩
        ·rw [if_neg c12] at H
         exact absurd H (by simp)
       ·rw [if_neg c11] at H
        exact absurd H (by simp)
      ·rw [if_neg c10] at H
       exact absurd H (by simp)
     ·rw [if_neg c9] at H
      exact absurd H (by simp)
    ·rw [if_neg c7] at H
     have c7b0 : decide (x10_1 < x11_1) = false := decide_eq_false c7
     clear c7
     have H' := Aside0.mk H
     clear H
     go_wp2
     go_loopg [13] k1 (fun kq v13 w' => ∃ (x0_2 : List (S32)) (x13_2 : Int), v13 = .int .i64 x13_2 ∧ Aside0 (slices_symMergeCmpFunc_Job__job_Due_1.l1 kq x0_2 x10_1 x13_2 = some r) ∧ Aside0 (kq ≤ k1) ∧ Aside0 (Kd.R k32 32 w' w0.heap.size (fun k_ => (P0_ k_ ∨ w.heap.size ≤ k_)) u9000_ x0_2) ∧ Aside0 (Kept w w' (fun k_ => P0_ k_)) ∧ Aside0 (Below w0.heap.size w0 w'))
     case atStart => exact ⟨(l0), (a1), ez, H', ⟨Nat.le_refl _⟩, ⟨mR HO_0.out⟩, ⟨mK HK.out⟩, ⟨mB HB.out⟩⟩
     case round => as_aux_lemma =>
      clear H'
      (try clear c1); (try clear p2); (try clear q2); (try clear hx2); (try clear c4); (try clear c6); (try clear c6b0); (try clear c6b1); (try clear p6); (try clear c7); (try clear c7b0); (try clear c9); (try clear c9b0); (try clear c10); (try clear c10b0); (try clear c11); (try clear c11b0); (try clear c12); (try clear c12b0); (try clear c14); (try clear c14b0); (try clear hx281_0); (try clear hx281_1); (try clear hx281_10); (try clear hx281_11); (try clear hx281_2); (try clear hx281_3); (try clear hx281_4); (try clear hx281_5); (try clear hx281_6); (try clear hx281_7); (try clear hx281_8); (try clear hx281_9); (try clear hx282_0); (try clear hx282_1); (try clear hx282_10); (try clear hx282_11); (try clear hx282_2); (try clear hx282_3); (try clear hx282_4); (try clear hx282_5); (try clear hx282_6); (try clear hx282_7); (try clear hx282_8); (try clear hx282_9); (try clear p2); (try clear p281); (try clear p282); (try clear p6); (try clear q281); (try clear q282)
      obtain ⟨x0_2, x13_2, rfl, HA, HK2, HO_0, HK, HB⟩ := hrel
      cases gk with
      | zero => exact absurd HA.out (by simp [slices_symMergeCmpFunc_Job__job_Due_1.l1])
      | succ k2 =>
       have H := HA.out
       clear HA
       simp only [slices_symMergeCmpFunc_Job__job_Due_1.l1] at H
       by_cases c21 : x13_2 < (wrap64 (x10_1 - 1))
       ·rw [if_pos c21] at H
        have c21b0 : decide (x13_2 < (wrap64 (x10_1 - 1))) = true := decide_eq_true c21
        clear c21
        obtain ⟨ji22, hji22⟩ : ∃ j_ : Int, (wrap64 (x13_2 + 1)) = j_ := ⟨_, rfl⟩
        replace H : (if 0 ≤ (ji22) then (if (ji22) < (x0_2.length : Int) then (if 0 ≤ x13_2 then (if x13_2 < (x0_2.length : Int) then (slices_symMergeCmpFunc_Job__job_Due_1.l1 k2 ((x0_2.set (x13_2 : Int).toNat (⟨(rd_T32 x0_2 (ji22)).f0, (rd_T32 x0_2 (ji22)).f1, (rd_T32 x0_2 (ji22)).f2, (rd_T32 x0_2 (ji22)).f3, (rd_T32 x0_2 (ji22)).f4, (rd_T32 x0_2 (ji22)).f5, (rd_T32 x0_2 (ji22)).f6, (rd_T32 x0_2 (ji22)).f7, (rd_T32 x0_2 (ji22)).f8, (rd_T32 x0_2 (ji22)).f9, (rd_T32 x0_2 (ji22)).f10, (rd_T32 x0_2 (ji22)).f11⟩ : S32)).set ((ji22) : Int).toNat (⟨(rd_T32 x0_2 x13_2).f0, (rd_T32 x0_2 x13_2).f1, (rd_T32 x0_2 x13_2).f2, (rd_T32 x0_2 x13_2).f3, (rd_T32 x0_2 x13_2).f4, (rd_T32 x0_2 x13_2).f5, (rd_T32 x0_2 x13_2).f6, (rd_T32 x0_2 x13_2).f7, (rd_T32 x0_2 x13_2).f8, (rd_T32 x0_2 x13_2).f9, (rd_T32 x0_2 x13_2).f10, (rd_T32 x0_2 x13_2).f11⟩ : S32)) x10_1 ji22) else (none)) else (none)) else (none)) else (none)) = some r := by first | (rw [hji22] at H; exact H) | (simp only [hji22] at H ⊢; exact H)
        have hji22w : (IntKind.i64.wrap (x13_2 + 1)) = ji22 := (i64_w _).trans hji22
        by_cases c23 : 0 ≤ (ji22)
        ·rw [if_pos c23] at H
         have c23b0 : decide (0 ≤ (ji22)) = true := decide_eq_true c23
         clear c23
         by_cases c24 : (ji22) < (x0_2.length : Int)
         ·rw [if_pos c24] at H
          have c24b0 : decide ((ji22) < (x0_2.length : Int)) = true := decide_eq_true c24
          clear c24
          by_cases c25 : 0 ≤ x13_2
          ·rw [if_pos c25] at H
           have c25b0 : decide (0 ≤ x13_2) = true := decide_eq_true c25
           clear c25
           by_cases c26 : x13_2 < (x0_2.length : Int)
           ·rw [if_pos c26] at H
            have c26b0 : decide (x13_2 < (x0_2.length : Int)) = true := decide_eq_true c26
            clear c26
            obtain ⟨y286, hy286⟩ : ∃ y_ : List (S32), y_ = (x0_2.set (x13_2 : Int).toNat (⟨(rd_T32 x0_2 (ji22)).f0, (rd_T32 x0_2 (ji22)).f1, (rd_T32 x0_2 (ji22)).f2, (rd_T32 x0_2 (ji22)).f3, (rd_T32 x0_2 (ji22)).f4, (rd_T32 x0_2 (ji22)).f5, (rd_T32 x0_2 (ji22)).f6, (rd_T32 x0_2 (ji22)).f7, (rd_T32 x0_2 (ji22)).f8, (rd_T32 x0_2 (ji22)).f9, (rd_T32 x0_2 (ji22)).f10, (rd_T32 x0_2 (ji22)).f11⟩ : S32)) := ⟨_, rfl⟩
            replace H : (slices_symMergeCmpFunc_Job__job_Due_1.l1 k2 (y286.set ((ji22) : Int).toNat (⟨(rd_T32 x0_2 x13_2).f0, (rd_T32 x0_2 x13_2).f1, (rd_T32 x0_2 x13_2).f2, (rd_T32 x0_2 x13_2).f3, (rd_T32 x0_2 x13_2).f4, (rd_T32 x0_2 x13_2).f5, (rd_T32 x0_2 x13_2).f6, (rd_T32 x0_2 x13_2).f7, (rd_T32 x0_2 x13_2).f8, (rd_T32 x0_2 x13_2).f9, (rd_T32 x0_2 x13_2).f10, (rd_T32 x0_2 x13_2).f11⟩ : S32)) x10_1 ji22) = some r := mH hy286 H
            have Ny286 := Aside0.mk hy286
            clear hy286
            obtain ⟨y287, hy287⟩ : ∃ y_ : List (S32), y_ = (y286.set ((ji22) : Int).toNat (⟨(rd_T32 x0_2 x13_2).f0, (rd_T32 x0_2 x13_2).f1, (rd_T32 x0_2 x13_2).f2, (rd_T32 x0_2 x13_2).f3, (rd_T32 x0_2 x13_2).f4, (rd_T32 x0_2 x13_2).f5, (rd_T32 x0_2 x13_2).f6, (rd_T32 x0_2 x13_2).f7, (rd_T32 x0_2 x13_2).f8, (rd_T32 x0_2 x13_2).f9, (rd_T32 x0_2 x13_2).f10, (rd_T32 x0_2 x13_2).f11⟩ : S32)) := ⟨_, rfl⟩
            replace H : (slices_symMergeCmpFunc_Job__job_Due_1.l1 k2 y287 x10_1 ji22) = some r := mH hy287 H
            have Ny287 := Aside0.mk hy287
            clear hy287
            have H' := Aside0.mk H
            clear H
            try go_wp2
            have n0_ := Aside0.mk (Kd.R_drew HO_0.out)
            have n1_ := Aside0.mk (Kept.drew HK.out)
            have n2_ := Aside0.mk (below_drew1 HB.out)
            clear HO_0; clear HK; clear HB
            have HO_0 := n0_
            have HK := n1_
            have HB := n2_
            clear n0_; clear n1_; clear n2_
            obtain ⟨Ao30, co30, eo30⟩ := Kd.R_slice HO_0.out
            (first | subst eo30 | (injection eo30 with f1_ f2_ f3_; have f4_ := f1_.symm; have f5_ := f3_.symm; clear f1_ f2_ f3_; subst f4_; subst f5_))
            have p284 : 0 ≤ ((ji22) : Int) := oda
            have q284 : (ji22) < (x0_2.length : Int) := oda
            obtain ⟨ad284, e284, hx284_0, hx284_1, hx284_2, hx284_3, hx284_4, hx284_5, hx284_6, hx284_7, hx284_8, hx284_9, hx284_10, hx284_11⟩ := at_T32 (Kd.R_reads' HO_0.out).2.2 (ji22) p284 q284
            cases e284
            replace p284 := eq_true p284
            replace q284 := eq_true q284
            have p285 : 0 ≤ (x13_2 : Int) := oda
            have q285 : x13_2 < (x0_2.length : Int) := oda
            obtain ⟨ad285, e285, hx285_0, hx285_1, hx285_2, hx285_3, hx285_4, hx285_5, hx285_6, hx285_7, hx285_8, hx285_9, hx285_10, hx285_11⟩ := at_T32 (Kd.R_reads' HO_0.out).2.2 x13_2 p285 q285
            obtain rfl : ad284 = ad285 := (by injection e285)
            replace p285 := eq_true p285
            replace q285 := eq_true q285
            have p27 : 0 ≤ (x13_2 : Int) := oda
            have q27 : (x13_2 : Int) < ((x0_2.length : Int) : Int) := oda
            obtain ⟨go27, co27, eo27, gb27, gl27, cl27, HG27⟩ := Kd.R_form HO_0.out (by omega)
            (first | cases eo27 | (injection eo27 with ea_ en_ ec_; (first | subst ea_ | (injection ea_ with ea_; subst ea_)); subst ec_; clear en_))
            have GB27 := Aside0.mk gb27
            have GG27 := Aside0.mk HG27
            clear gb27; clear gl27; clear HG27
            have HMgo27 := Aside0.mk (show (P0_ go27 ∨ w.heap.size ≤ go27) from (HO_0.out.1 _ rfl))
            (first | simp only [add_plain] at hx284_0 | skip)
            (first | simp only [add_plain] at hx284_1 | skip)
            (first | simp only [add_plain] at hx284_2 | skip)
            (first | simp only [add_plain] at hx284_3 | skip)
            (first | simp only [add_plain] at hx284_4 | skip)
            (first | simp only [add_plain] at hx284_5 | skip)
            (first | simp only [add_plain] at hx284_6 | skip)
            (first | simp only [add_plain] at hx284_7 | skip)
            (first | simp only [add_plain] at hx284_8 | skip)
            (first | simp only [add_plain] at hx284_9 | skip)
            (first | simp only [add_plain] at hx284_10 | skip)
            (first | simp only [add_plain] at hx284_11 | skip)
            (first | simp only [add_plain] at hx285_0 | skip)
            (first | simp only [add_plain] at hx285_1 | skip)
            (first | simp only [add_plain] at hx285_2 | skip)
            (first | simp only [add_plain] at hx285_3 | skip)
            (first | simp only [add_plain] at hx285_4 | skip)
            (first | simp only [add_plain] at hx285_5 | skip)
            (first | simp only [add_plain] at hx285_6 | skip)
            (first | simp only [add_plain] at hx285_7 | skip)
            (first | simp only [add_plain] at hx285_8 | skip)
            (first | simp only [add_plain] at hx285_9 | skip)
            (first | simp only [add_plain] at hx285_10 | skip)
            (first | simp only [add_plain] at hx285_11 | skip)
            refine start_ (n := 18) (S := fun w' => w'.cell? ⟨go27, (((ji22)).toNat * 12), none⟩ = some (.int .i64 ((rd_T32 x0_2 (ji22)).f0)) ∧ w'.cell? ⟨go27, (((ji22)).toNat * 12) + 1, none⟩ = some (.int .i64 ((rd_T32 x0_2 (ji22)).f1)) ∧ w'.cell? ⟨go27, (((ji22)).toNat * 12) + 2, none⟩ = some (.int .i64 ((rd_T32 x0_2 (ji22)).f2)) ∧ w'.cell? ⟨go27, (((ji22)).toNat * 12) + 3, none⟩ = some (.int .i64 ((rd_T32 x0_2 (ji22)).f3)) ∧ w'.cell? ⟨go27, (((ji22)).toNat * 12) + 4, none⟩ = some (.int .i64 ((rd_T32 x0_2 (ji22)).f4)) ∧ w'.cell? ⟨go27, (((ji22)).toNat * 12) + 5, none⟩ = some (.int .i64 ((rd_T32 x0_2 (ji22)).f5)) ∧ w'.cell? ⟨go27, (((ji22)).toNat * 12) + 6, none⟩ = some (.int .i64 ((rd_T32 x0_2 (ji22)).f6)) ∧ w'.cell? ⟨go27, (((ji22)).toNat * 12) + 7, none⟩ = some (.int .i64 ((rd_T32 x0_2 (ji22)).f7)) ∧ w'.cell? ⟨go27, (((ji22)).toNat * 12) + 8, none⟩ = some (.int .i64 ((rd_T32 x0_2 (ji22)).f8)) ∧ w'.cell? ⟨go27, (((ji22)).toNat * 12) + 9, none⟩ = some (.int .i64 ((rd_T32 x0_2 (ji22)).f9)) ∧ w'.cell? ⟨go27, (((ji22)).toNat * 12) + 10, none⟩ = some (.int .i64 ((rd_T32 x0_2 (ji22)).f10)) ∧ w'.cell? ⟨go27, (((ji22)).toNat * 12) + 11, none⟩ = some (.slice ((rd_T32 x0_2 (ji22)).f11).A ((rd_T32 x0_2 (ji22)).f11).n ((rd_T32 x0_2 (ji22)).f11).c) ∧ w'.cell? ⟨go27, ((x13_2).toNat * 12), none⟩ = some (.int .i64 ((rd_T32 x0_2 x13_2).f0)) ∧ w'.cell? ⟨go27, ((x13_2).toNat * 12) + 1, none⟩ = some (.int .i64 ((rd_T32 x0_2 x13_2).f1)) ∧ w'.cell? ⟨go27, ((x13_2).toNat * 12) + 2, none⟩ = some (.int .i64 ((rd_T32 x0_2 x13_2).f2)) ∧ w'.cell? ⟨go27, ((x13_2).toNat * 12) + 3, none⟩ = some (.int .i64 ((rd_T32 x0_2 x13_2).f3)) ∧ w'.cell? ⟨go27, ((x13_2).toNat * 12) + 4, none⟩ = some (.int .i64 ((rd_T32 x0_2 x13_2).f4)) ∧ w'.cell? ⟨go27, ((x13_2).toNat * 12) + 5, none⟩ = some (.int .i64 ((rd_T32 x0_2 x13_2).f5)) ∧ w'.cell? ⟨go27, ((x13_2).toNat * 12) + 6, none⟩ = some (.int .i64 ((rd_T32 x0_2 x13_2).f6)) ∧ w'.cell? ⟨go27, ((x13_2).toNat * 12) + 7, none⟩ = some (.int .i64 ((rd_T32 x0_2 x13_2).f7)) ∧ w'.cell? ⟨go27, ((x13_2).toNat * 12) + 8, none⟩ = some (.int .i64 ((rd_T32 x0_2 x13_2).f8)) ∧ w'.cell? ⟨go27, ((x13_2).toNat * 12) + 9, none⟩ = some (.int .i64 ((rd_T32 x0_2 x13_2).f9)) ∧ w'.cell? ⟨go27, ((x13_2).toNat * 12) + 10, none⟩ = some (.int .i64 ((rd_T32 x0_2 x13_2).f10)) ∧ w'.cell? ⟨go27, ((x13_2).toNat * 12) + 11, none⟩ = some (.slice ((rd_T32 x0_2 x13_2).f11).A ((rd_T32 x0_2 x13_2).f11).n ((rd_T32 x0_2 x13_2).f11).c)) (ds := [15, 17]) #[false, false, false, false, false, false, false, false, false, false, false, false, false, false, false, false, false, false] (by kernel_rfl) rfl rfl ⟨hx284_0, hx284_1, hx284_2, hx284_3, hx284_4, hx284_5, hx284_6, hx284_7, hx284_8, hx284_9, hx284_10, hx284_11, hx285_0, hx285_1, hx285_2, hx285_3, hx285_4, hx285_5, hx285_6, hx285_7, hx285_8, hx285_9, hx285_10, hx285_11⟩ (fun hHeld => ?_); refine with_tabW slices_symMergeCmpFunc_Job__job_Due_1.tab11 slices_symMergeCmpFunc_Job__job_Due_1.bits11 (fun HT_ HW_ => ?_)
            generalize wr.drew = w29 at HO_0 HK HB GG27 hx284_0 hx284_1 hx284_10 hx284_11 hx284_2 hx284_3 hx284_4 hx284_5 hx284_6 hx284_7 hx284_8 hx284_9 hx285_0 hx285_1 hx285_10 hx285_11 hx285_2 hx285_3 hx285_4 hx285_5 hx285_6 hx285_7 hx285_8 hx285_9 hHeld ⊢
            refine plan_ [(0, 61), (1, 62), (2, 63), (3, 64), (4, 65), (5, 66), (6, 67), (7, 68), (8, 69), (10, 71), (11, 72), (12, 73)] ?_
            iterate 12 (refine planP_ (v := ?_) (a' := ?_) rfl rfl (any_of HT_.out (by kernel_rfl)) (fun _ _ _ h => h) (Or.inl ⟨by rfl, ?_⟩) ?_ ?_; rotate_left; (intro w'; go_simp; with_reducible rfl); rotate_left; (simp only [Act.put, List.setIfInBounds_toArray, List.set_cons_zero, List.set_cons_succ, i64_w, i32_w]; rfl))
            refine planEnd_ ?_
            refine plan_ [(9, 70), (13, 74)] ?_
            iterate 2 (refine planT_ (v := ?_) (a' := ?_) rfl rfl (take_ofW HT_.out HW_.out (by kernel_rfl)) (fun _ _ _ h => h) (Or.inl ⟨by rfl, ?_⟩) hHeld ?_ ?_; rotate_left; (rintro w' ⟨s0, s1, s2, s3, s4, s5, s6, s7, s8, s9, s10, s11, s12, s13, s14, s15, s16, s17, s18, s19, s20, s21, s22, s23⟩; go_simp; with_reducible rfl); rotate_left; (simp only [Act.put, List.setIfInBounds_toArray, List.set_cons_zero, List.set_cons_succ, i64_w, i32_w]; rfl))
            refine planEnd_ ?_
            refine plan_ [(14, 75)] ?_
            refine planP_ (v := ?_) (a' := ?_) rfl rfl (any_of HT_.out (by kernel_rfl)) (fun _ _ _ h => h) (Or.inl ⟨by rfl, ?_⟩) ?_ ?_; rotate_left; (intro w'; go_simp; with_reducible rfl); rotate_left; (simp only [Act.put, List.setIfInBounds_toArray, List.set_cons_zero, List.set_cons_succ, i64_w, i32_w]; rfl)
            refine planEnd_ ?_
            refine last_ (i := 15) (N := none) #[true, true, true, true, true, true, true, true, true, true, true, true, true, true, true, true, false, false] rfl rfl (one_of HT_.out (by kernel_rfl)) (by decide) (fun K hK => ?_)
            refine storeW_ k32 (w0 := w0) (g := go27) (x13_2) z32 (⟨(rd_T32 x0_2 (ji22)).f0, (rd_T32 x0_2 (ji22)).f1, (rd_T32 x0_2 (ji22)).f2, (rd_T32 x0_2 (ji22)).f3, (rd_T32 x0_2 (ji22)).f4, (rd_T32 x0_2 (ji22)).f5, (rd_T32 x0_2 (ji22)).f6, (rd_T32 x0_2 (ji22)).f7, (rd_T32 x0_2 (ji22)).f8, (rd_T32 x0_2 (ji22)).f9, (rd_T32 x0_2 (ji22)).f10, (rd_T32 x0_2 (ji22)).f11⟩ : S32) [.int .i64 ((rd_T32 x0_2 (ji22)).f0), .int .i64 ((rd_T32 x0_2 (ji22)).f1), .int .i64 ((rd_T32 x0_2 (ji22)).f2), .int .i64 ((rd_T32 x0_2 (ji22)).f3), .int .i64 ((rd_T32 x0_2 (ji22)).f4), .int .i64 ((rd_T32 x0_2 (ji22)).f5), .int .i64 ((rd_T32 x0_2 (ji22)).f6), .int .i64 ((rd_T32 x0_2 (ji22)).f7), .int .i64 ((rd_T32 x0_2 (ji22)).f8), .int .i64 ((rd_T32 x0_2 (ji22)).f9), .int .i64 ((rd_T32 x0_2 (ji22)).f10), .slice ((rd_T32 x0_2 (ji22)).f11).A ((rd_T32 x0_2 (ji22)).f11).n ((rd_T32 x0_2 (ji22)).f11).c] (by rfl) rfl rfl (by first | rfl | (go_simp; done) | (go_simp; rfl)) rfl (by first | rfl | (go_simp; done) | (go_simp; rfl)) rfl (by kernel_rfl) rfl one12 HO_0.out (of_eq_true p285) (of_eq_true q285) (k32_mkM _ _ _ (⟨(rd_T32 x0_2 (ji22)).f0, (rd_T32 x0_2 (ji22)).f1, (rd_T32 x0_2 (ji22)).f2, (rd_T32 x0_2 (ji22)).f3, (rd_T32 x0_2 (ji22)).f4, (rd_T32 x0_2 (ji22)).f5, (rd_T32 x0_2 (ji22)).f6, (rd_T32 x0_2 (ji22)).f7, (rd_T32 x0_2 (ji22)).f8, (rd_T32 x0_2 (ji22)).f9, (rd_T32 x0_2 (ji22)).f10, (rd_T32 x0_2 (ji22)).f11⟩ : S32)) (fun _ hk => hk) HB.out ?_
            intro wa hoa hba hga
            rw [← Ny286.out] at hoa
            have n0_ := Aside0.mk hoa
            have n1_ := Aside0.mk hba
            have n2_ := Aside0.mk (Kept.of_grown hga HK.out (fun k e_ => by injection e_ with e_; subst e_; exact HMgo27.out))
            clear HO_0; clear HB; clear HK; clear hoa; clear hba; clear hga
            have HO_0 := n0_
            have HB := n1_
            have HK := n2_
            clear n0_; clear n1_; clear n2_
            refine hK.out _ _ ?_
            clear hK; clear K
            refine plan_ [(16, 76)] ?_
            refine planP_ (v := ?_) (a' := ?_) rfl rfl (any_of HT_.out (by kernel_rfl)) (fun _ _ _ h => h) (Or.inl ⟨by rfl, ?_⟩) ?_ ?_; rotate_left; (intro w'; go_simp; with_reducible rfl); rotate_left; (simp only [Act.put, List.setIfInBounds_toArray, List.set_cons_zero, List.set_cons_succ, i64_w, i32_w]; rfl)
            refine planEnd_ ?_
            refine last_ (i := 17) (N := none) #[true, true, true, true, true, true, true, true, true, true, true, true, true, true, true, true, true, true] rfl rfl (one_of HT_.out (by kernel_rfl)) (by decide) (fun K hK => ?_)
            refine storeW_ k32 (w0 := w0) (g := go27) (ji22) z32 (⟨(rd_T32 x0_2 (x13_2)).f0, (rd_T32 x0_2 (x13_2)).f1, (rd_T32 x0_2 (x13_2)).f2, (rd_T32 x0_2 (x13_2)).f3, (rd_T32 x0_2 (x13_2)).f4, (rd_T32 x0_2 (x13_2)).f5, (rd_T32 x0_2 (x13_2)).f6, (rd_T32 x0_2 (x13_2)).f7, (rd_T32 x0_2 (x13_2)).f8, (rd_T32 x0_2 (x13_2)).f9, (rd_T32 x0_2 (x13_2)).f10, (rd_T32 x0_2 (x13_2)).f11⟩ : S32) [.int .i64 ((rd_T32 x0_2 (x13_2)).f0), .int .i64 ((rd_T32 x0_2 (x13_2)).f1), .int .i64 ((rd_T32 x0_2 (x13_2)).f2), .int .i64 ((rd_T32 x0_2 (x13_2)).f3), .int .i64 ((rd_T32 x0_2 (x13_2)).f4), .int .i64 ((rd_T32 x0_2 (x13_2)).f5), .int .i64 ((rd_T32 x0_2 (x13_2)).f6), .int .i64 ((rd_T32 x0_2 (x13_2)).f7), .int .i64 ((rd_T32 x0_2 (x13_2)).f8), .int .i64 ((rd_T32 x0_2 (x13_2)).f9), .int .i64 ((rd_T32 x0_2 (x13_2)).f10), .slice ((rd_T32 x0_2 (x13_2)).f11).A ((rd_T32 x0_2 (x13_2)).f11).n ((rd_T32 x0_2 (x13_2)).f11).c] (by rfl) rfl rfl (by first | rfl | (go_simp; done) | (go_simp; rfl)) rfl (by first | rfl | (go_simp; done) | (go_simp; rfl)) rfl (by kernel_rfl) rfl one12 HO_0.out (of_eq_true p284) (of_eq_true q284) (k32_mkM _ _ _ (⟨(rd_T32 x0_2 (x13_2)).f0, (rd_T32 x0_2 (x13_2)).f1, (rd_T32 x0_2 (x13_2)).f2, (rd_T32 x0_2 (x13_2)).f3, (rd_T32 x0_2 (x13_2)).f4, (rd_T32 x0_2 (x13_2)).f5, (rd_T32 x0_2 (x13_2)).f6, (rd_T32 x0_2 (x13_2)).f7, (rd_T32 x0_2 (x13_2)).f8, (rd_T32 x0_2 (x13_2)).f9, (rd_T32 x0_2 (x13_2)).f10, (rd_T32 x0_2 (x13_2)).f11⟩ : S32)) (fun _ hk => hk) HB.out ?_
            intro wb hob hbb hgb
            rw [← Ny287.out] at hob
            have n0_ := Aside0.mk hob
            have n1_ := Aside0.mk hbb
            have n2_ := Aside0.mk (Kept.of_grown hgb HK.out (fun k e_ => by injection e_ with e_; subst e_; exact HMgo27.out))
            clear HO_0; clear HB; clear HK; clear hob; clear hbb; clear hgb
            have HO_0 := n0_
            have HB := n1_
            have HK := n2_
            clear n0_; clear n1_; clear n2_
            refine hK.out _ _ ?_
            clear hK; clear K
            refine done_ (done_of HT_.out (by kernel_rfl)) ?_
            try go_wp2
            go_roundg k2
            case measure => have := HK1.out; have := HK2.out; omega
            case rel => exact ⟨(y287), (ji22), (by first | rfl | (simp; done) | (simp only [← hji22] <;> (first | rfl | simp)) | (simp [*]; done)), H', ⟨by have := HK1.out; have := HK2.out; omega⟩, ⟨mR HO_0.out⟩, ⟨by repeat (first | (with_reducible first | exact HK.out | apply Kept.alloc | apply Kept.drewN | apply Kept.drew | refine Kept.setCell ?_ HMgo27.out _ | refine Kept.setCell ?_ HMgo27.out _ | refine Kept.setCell ?_ HMgo27.out _ | refine Kept.setCell ?_ HMgo27.out _ | refine Kept.setCell ?_ HMgo27.out _ | refine Kept.setCell ?_ HMgo27.out _ | refine Kept.setCell ?_ HMgo27.out _ | refine Kept.setCell ?_ HMgo27.out _ | refine Kept.setCell ?_ HMgo27.out _ | refine Kept.setCell ?_ HMgo27.out _ | refine Kept.setCell ?_ HMgo27.out _ | refine Kept.setCell ?_ HMgo27.out _ | refine Kept.setCell ?_ HMgo27.out _ | refine Kept.setCell ?_ HMgo27.out _ | refine Kept.setCell ?_ HMgo27.out _ | refine Kept.setCell ?_ HMgo27.out _ | refine Kept.setCell ?_ HMgo27.out _ | refine Kept.setCell ?_ HMgo27.out _ | refine Kept.setCell ?_ HMgo27.out _ | refine Kept.setCell ?_ HMgo27.out _ | refine Kept.setCell ?_ HMgo27.out _ | refine Kept.setCell ?_ HMgo27.out _ | refine Kept.setCell ?_ HMgo27.out _ | refine Kept.setCell ?_ HMgo27.out _) | exact HK.out)⟩, ⟨mBs HB.out⟩⟩
           ·rw [if_neg c26] at H
            exact absurd H (by simp)
          ·rw [if_neg c25] at H
           exact absurd H (by simp)
         ·rw [if_neg c24] at H
          exact absurd H (by simp)
        ·rw [if_neg c23] at H
         exact absurd H (by simp)
       ·rw [if_neg c21] at H
        have c21b0 : decide (x13_2 < (wrap64 (x10_1 - 1))) = false := decide_eq_false c21
        clear c21
        obtain rfl := Option.some.inj H
        go_wp2
        first | go_end0 | ((try simp only [Exit.inBlock, Exit.then]); refine bodyPost_ret (results_none rfl _ _ _) rfl ?_)
        exact ⟨by first | rfl | (simp [errW_none, errW_some] <;> rfl) | (simp [*, errW_none, errW_some] <;> rfl), mR HO_0.out, by repeat (first | (with_reducible first | exact HB.out | apply below_alloc | apply pw_below_drewN | apply below_drew1) | exact HB.out), by repeat (first | (with_reducible first | exact HK.out | apply Kept.alloc | apply Kept.drewN | apply Kept.drew) | exact HK.out)⟩
 ·rw [if_neg c6] at H
  have c6b0 : ((wrap64 (a2 - a1)) == 1) = false := beq_eq_false_iff_ne.mpr c6
  have c6b1 : ((wrap64 (a2 - a1)) != 1) = true := bne_iff_ne.mpr c6
  by_cases c33 : (wrap64 (a3 - a2)) = 1
  ·rw [if_pos c33] at H
   have c33b0 : ((wrap64 (a3 - a2)) == 1) = true := beq_iff_eq.mpr c33
   have c33b1 : ((wrap64 (a3 - a2)) != 1) = false := bne_eq_false_iff_eq.mpr c33
   clear c33
   have H' := Aside0.mk H
   clear H
   go_enter Try.func68, Try.ntmps68
   go_wp2
   go_loopg [14, 15] k (fun kq v14 v15 w' => ∃ (x14_1 : Int) (x15_1 : Int), v14 = .int .i64 x14_1 ∧ v15 = .int .i64 x15_1 ∧ Aside0 (slices_symMergeCmpFunc_Job__job_Due_1.l2 kq l0 a2 x14_1 x15_1 = some r) ∧ Aside0 (kq ≤ k) ∧ Aside0 (Kd.R k32 32 w' w0.heap.size (fun k_ => (P0_ k_ ∨ w.heap.size ≤ k_)) u9000_ l0) ∧ Aside0 (Kept w w' (fun k_ => P0_ k_)) ∧ Aside0 (Below w0.heap.size w0 w'))
   case atStart => exact ⟨(a1), (a2), ez, ez, H', ⟨Nat.le_refl _⟩, ⟨mR HO0.out⟩, ⟨mK HK.out⟩, ⟨mB HB.out⟩⟩
   case round => as_aux_lemma =>
    clear H'
    (try clear c1); (try clear c2); (try clear p2); (try clear q2); (try clear hx2); (try clear c3); (try clear c4); (try clear c6); (try clear c6b0); (try clear c6b1); (try clear p6); (try clear c7); (try clear c7b0); (try clear c9); (try clear c9b0); (try clear c10); (try clear c10b0); (try clear c11); (try clear c11b0); (try clear c12); (try clear c12b0); (try clear c14); (try clear c14b0); (try clear c21); (try clear c21b0); (try clear c23); (try clear c23b0); (try clear c24); (try clear c24b0); (try clear c25); (try clear c25b0); (try clear c26); (try clear c26b0); (try clear c27); (try clear p27); (try clear q27); (try clear hx27); (try clear hf27); (try clear c28); (try clear p28); (try clear q28); (try clear hx28); (try clear hf28); (try clear c31); (try clear c32); (try clear c33); (try clear c33b0); (try clear c33b1); (try clear hx27_0); (try clear hx27_1); (try clear hx27_10); (try clear hx27_11); (try clear hx27_2); (try clear hx27_3); (try clear hx27_4); (try clear hx27_5); (try clear hx27_6); (try clear hx27_7); (try clear hx27_8); (try clear hx27_9); (try clear hx281_0); (try clear hx281_1); (try clear hx281_10); (try clear hx281_11); (try clear hx281_2); (try clear hx281_3); (try clear hx281_4); (try clear hx281_5); (try clear hx281_6); (try clear hx281_7); (try clear hx281_8); (try clear hx281_9); (try clear hx282_0); (try clear hx282_1); (try clear hx282_10); (try clear hx282_11); (try clear hx282_2); (try clear hx282_3); (try clear hx282_4); (try clear hx282_5); (try clear hx282_6); (try clear hx282_7); (try clear hx282_8); (try clear hx282_9); (try clear hx284_0); (try clear hx284_1); (try clear hx284_10); (try clear hx284_11); (try clear hx284_2); (try clear hx284_3); (try clear hx284_4); (try clear hx284_5); (try clear hx284_6); (try clear hx284_7); (try clear hx284_8); (try clear hx284_9); (try clear hx285_0); (try clear hx285_1); (try clear hx285_10); (try clear hx285_11); (try clear hx285_2); (try clear hx285_3); (try clear hx285_4); (try clear hx285_5); (try clear hx285_6); (try clear hx285_7); (try clear hx285_8); (try clear hx285_9); (try clear hx28_0); (try clear hx28_1); (try clear hx28_10); (try clear hx28_11); (try clear hx28_2); (try clear hx28_3); (try clear hx28_4); (try clear hx28_5); (try clear hx28_6); (try clear hx28_7); (try clear hx28_8); (try clear hx28_9); (try clear p2); (try clear p27); (try clear p28); (try clear p281); (try clear p282); (try clear p284); (try clear p285); (try clear p6); (try clear q2); (try clear q27); (try clear q28); (try clear q281); (try clear q282); (try clear q284); (try clear q285)
    obtain ⟨x14_1, x15_1, rfl, rfl, HA, HK1, HO_0, HK, HB⟩ := hrel
    cases gk with
    | zero => exact absurd HA.out (by simp [slices_symMergeCmpFunc_Job__job_Due_1.l2])
    | succ k1 =>
     have H := HA.out
     clear HA
     simp only [slices_symMergeCmpFunc_Job__job_Due_1.l2] at H
     by_cases c34 : x14_1 < x15_1
     ·rw [if_pos c34] at H
      have c34b0 : decide (x14_1 < x15_1) = true := decide_eq_true c34
      clear c34
      by_cases c35 : 0 ≤ a2
      ·rw [if_pos c35] at H
       have c35b0 : decide (0 ≤ a2) = true := decide_eq_true c35
       clear c35
       by_cases c36 : a2 < (l0.length : Int)
       ·rw [if_pos c36] at H
        have c36b0 : decide (a2 < (l0.length : Int)) = true := decide_eq_true c36
        clear c36
        obtain ⟨ji37, hji37⟩ : ∃ j_ : Int, (wrap64 ((IntKind.u64.wrap (wrap64 (x14_1 + x15_1))) / 2)) = j_ := ⟨_, rfl⟩
        replace H : (if 0 ≤ (ji37) then (if (ji37) < (l0.length : Int) then ((job_Due_1.f ((rd_T32 l0 a2).f0) ((rd_T32 l0 a2).f1) ((rd_T32 l0 a2).f2) ((rd_T32 l0 a2).f3) ((rd_T32 l0 a2).f4) ((rd_T32 l0 a2).f5) ((rd_T32 l0 a2).f6) ((rd_T32 l0 a2).f7) ((rd_T32 l0 a2).f8) ((rd_T32 l0 a2).f9) ((rd_T32 l0 a2).f10) ((rd_T32 l0 a2).f11) ((rd_T32 l0 (ji37)).f0) ((rd_T32 l0 (ji37)).f1) ((rd_T32 l0 (ji37)).f2) ((rd_T32 l0 (ji37)).f3) ((rd_T32 l0 (ji37)).f4) ((rd_T32 l0 (ji37)).f5) ((rd_T32 l0 (ji37)).f6) ((rd_T32 l0 (ji37)).f7) ((rd_T32 l0 (ji37)).f8) ((rd_T32 l0 (ji37)).f9) ((rd_T32 l0 (ji37)).f10) ((rd_T32 l0 (ji37)).f11)).bind fun t290 => (if t290 < 0 then (slices_symMergeCmpFunc_Job__job_Due_1.l2 k1 l0 a2 x14_1 ji37) else (slices_symMergeCmpFunc_Job__job_Due_1.l2 k1 l0 a2 (wrap64 ((ji37) + 1)) x15_1))) else (none)) else (none)) = some r := by first | (rw [hji37] at H; exact H) | (simp only [hji37] at H ⊢; exact H)
        have hji37w : (IntKind.i64.wrap ((IntKind.u64.wrap (wrap64 (x14_1 + x15_1))) / 2)) = ji37 := (i64_w _).trans hji37
        by_cases c38 : 0 ≤ (ji37)
        ·rw [if_pos c38] at H
         have c38b0 : decide (0 ≤ (ji37)) = true := decide_eq_true c38
         clear c38
         by_cases c39 : (ji37) < (l0.length : Int)
         ·rw [if_pos c39] at H
          have c39b0 : decide ((ji37) < (l0.length : Int)) = true := decide_eq_true c39
          clear c39
          replace H := Option.bind_eq_some_iff.mp H
          obtain ⟨t290, A400, H⟩ := H
          replace H : (if t290 < 0 then (slices_symMergeCmpFunc_Job__job_Due_1.l2 k1 l0 a2 x14_1 ji37) else (slices_symMergeCmpFunc_Job__job_Due_1.l2 k1 l0 a2 (wrap64 ((ji37) + 1)) x15_1)) = some r := H
          have A40 := Aside0.mk A400
          clear A400
          by_cases c41 : t290 < 0
          ·as_aux_lemma =>
           rw [if_pos c41] at H
           have c41b0 : decide (t290 < 0) = true := decide_eq_true c41
           clear c41
           have H' := Aside0.mk H
           clear H
           try go_wp2
           have n0_ := Aside0.mk (Kd.R_drew HO_0.out)
           have n1_ := Aside0.mk (Kept.drew HK.out)
           have n2_ := Aside0.mk (below_drew1 HB.out)
           clear HO_0; clear HK; clear HB
           have HO_0 := n0_
           have HK := n1_
           have HB := n2_
           clear n0_; clear n1_; clear n2_
           obtain ⟨Ao43, co43, eo43⟩ := Kd.R_slice HO_0.out
           (first | subst eo43 | (injection eo43 with f1_ f2_ f3_; have f4_ := f1_.symm; have f5_ := f3_.symm; clear f1_ f2_ f3_; subst f4_; subst f5_))
           have p288 : 0 ≤ (a2 : Int) := oda
           have q288 : a2 < (l0.length : Int) := oda
           obtain ⟨ad288, e288, hx288_0, hx288_1, hx288_2, hx288_3, hx288_4, hx288_5, hx288_6, hx288_7, hx288_8, hx288_9, hx288_10, hx288_11⟩ := at_T32 (Kd.R_reads' HO_0.out).2.2 a2 p288 q288
           cases e288
           replace p288 := eq_true p288
           replace q288 := eq_true q288
           have p289 : 0 ≤ ((ji37) : Int) := oda
           have q289 : (ji37) < (l0.length : Int) := oda
           obtain ⟨ad289, e289, hx289_0, hx289_1, hx289_2, hx289_3, hx289_4, hx289_5, hx289_6, hx289_7, hx289_8, hx289_9, hx289_10, hx289_11⟩ := at_T32 (Kd.R_reads' HO_0.out).2.2 (ji37) p289 q289
           obtain rfl : ad288 = ad289 := (by injection e289)
           replace p289 := eq_true p289
           replace q289 := eq_true q289
           refine start_ (n := 12) (S := fun w' => w'.cell? (ad288.add ((a2).toNat * 12)) = some (.int .i64 ((rd_T32 l0 a2).f0)) ∧ w'.cell? ⟨(ad288.add ((a2).toNat * 12)).block, (ad288.add ((a2).toNat * 12)).off + 1, none⟩ = some (.int .i64 ((rd_T32 l0 a2).f1)) ∧ w'.cell? ⟨(ad288.add ((a2).toNat * 12)).block, (ad288.add ((a2).toNat * 12)).off + 2, none⟩ = some (.int .i64 ((rd_T32 l0 a2).f2)) ∧ w'.cell? ⟨(ad288.add ((a2).toNat * 12)).block, (ad288.add ((a2).toNat * 12)).off + 3, none⟩ = some (.int .i64 ((rd_T32 l0 a2).f3)) ∧ w'.cell? ⟨(ad288.add ((a2).toNat * 12)).block, (ad288.add ((a2).toNat * 12)).off + 4, none⟩ = some (.int .i64 ((rd_T32 l0 a2).f4)) ∧ w'.cell? ⟨(ad288.add ((a2).toNat * 12)).block, (ad288.add ((a2).toNat * 12)).off + 5, none⟩ = some (.int .i64 ((rd_T32 l0 a2).f5)) ∧ w'.cell? ⟨(ad288.add ((a2).toNat * 12)).block, (ad288.add ((a2).toNat * 12)).off + 6, none⟩ = some (.int .i64 ((rd_T32 l0 a2).f6)) ∧ w'.cell? ⟨(ad288.add ((a2).toNat * 12)).block, (ad288.add ((a2).toNat * 12)).off + 7, none⟩ = some (.int .i64 ((rd_T32 l0 a2).f7)) ∧ w'.cell? ⟨(ad288.add ((a2).toNat * 12)).block, (ad288.add ((a2).toNat * 12)).off + 8, none⟩ = some (.int .i64 ((rd_T32 l0 a2).f8)) ∧ w'.cell? ⟨(ad288.add ((a2).toNat * 12)).block, (ad288.add ((a2).toNat * 12)).off + 9, none⟩ = some (.int .i64 ((rd_T32 l0 a2).f9)) ∧ w'.cell? ⟨(ad288.add ((a2).toNat * 12)).block, (ad288.add ((a2).toNat * 12)).off + 10, none⟩ = some (.int .i64 ((rd_T32 l0 a2).f10)) ∧ w'.cell? ⟨(ad288.add ((a2).toNat * 12)).block, (ad288.add ((a2).toNat * 12)).off + 11, none⟩ = some (.slice ((rd_T32 l0 a2).f11).A ((rd_T32 l0 a2).f11).n ((rd_T32 l0 a2).f11).c) ∧ w'.cell? (ad288.add (((ji37)).toNat * 12)) = some (.int .i64 ((rd_T32 l0 (ji37)).f0)) ∧ w'.cell? ⟨(ad288.add (((ji37)).toNat * 12)).block, (ad288.add (((ji37)).toNat * 12)).off + 1, none⟩ = some (.int .i64 ((rd_T32 l0 (ji37)).f1)) ∧ w'.cell? ⟨(ad288.add (((ji37)).toNat * 12)).block, (ad288.add (((ji37)).toNat * 12)).off + 2, none⟩ = some (.int .i64 ((rd_T32 l0 (ji37)).f2)) ∧ w'.cell? ⟨(ad288.add (((ji37)).toNat * 12)).block, (ad288.add (((ji37)).toNat * 12)).off + 3, none⟩ = some (.int .i64 ((rd_T32 l0 (ji37)).f3)) ∧ w'.cell? ⟨(ad288.add (((ji37)).toNat * 12)).block, (ad288.add (((ji37)).toNat * 12)).off + 4, none⟩ = some (.int .i64 ((rd_T32 l0 (ji37)).f4)) ∧ w'.cell? ⟨(ad288.add (((ji37)).toNat * 12)).block, (ad288.add (((ji37)).toNat * 12)).off + 5, none⟩ = some (.int .i64 ((rd_T32 l0 (ji37)).f5)) ∧ w'.cell? ⟨(ad288.add (((ji37)).toNat * 12)).block, (ad288.add (((ji37)).toNat * 12)).off + 6, none⟩ = some (.int .i64 ((rd_T32 l0 (ji37)).f6)) ∧ w'.cell? ⟨(ad288.add (((ji37)).toNat * 12)).block, (ad288.add (((ji37)).toNat * 12)).off + 7, none⟩ = some (.int .i64 ((rd_T32 l0 (ji37)).f7)) ∧ w'.cell? ⟨(ad288.add (((ji37)).toNat * 12)).block, (ad288.add (((ji37)).toNat * 12)).off + 8, none⟩ = some (.int .i64 ((rd_T32 l0 (ji37)).f8)) ∧ w'.cell? ⟨(ad288.add (((ji37)).toNat * 12)).block, (ad288.add (((ji37)).toNat * 12)).off + 9, none⟩ = some (.int .i64 ((rd_T32 l0 (ji37)).f9)) ∧ w'.cell? ⟨(ad288.add (((ji37)).toNat * 12)).block, (ad288.add (((ji37)).toNat * 12)).off + 10, none⟩ = some (.int .i64 ((rd_T32 l0 (ji37)).f10)) ∧ w'.cell? ⟨(ad288.add (((ji37)).toNat * 12)).block, (ad288.add (((ji37)).toNat * 12)).off + 11, none⟩ = some (.slice ((rd_T32 l0 (ji37)).f11).A ((rd_T32 l0 (ji37)).f11).n ((rd_T32 l0 (ji37)).f11).c)) (ds := []) #[false, false, false, false, false, false, false, false, false, false, false, false] (by kernel_rfl) rfl rfl ⟨hx288_0, hx288_1, hx288_2, hx288_3, hx288_4, hx288_5, hx288_6, hx288_7, hx288_8, hx288_9, hx288_10, hx288_11, hx289_0, hx289_1, hx289_2, hx289_3, hx289_4, hx289_5, hx289_6, hx289_7, hx289_8, hx289_9, hx289_10, hx289_11⟩ (fun hHeld => ?_); refine with_tabW slices_symMergeCmpFunc_Job__job_Due_1.tab17 slices_symMergeCmpFunc_Job__job_Due_1.bits17 (fun HT_ HW_ => ?_)
           generalize wr.drew = w42 at HO_0 HK HB hx288_0 hx288_1 hx288_10 hx288_11 hx288_2 hx288_3 hx288_4 hx288_5 hx288_6 hx288_7 hx288_8 hx288_9 hx289_0 hx289_1 hx289_10 hx289_11 hx289_2 hx289_3 hx289_4 hx289_5 hx289_6 hx289_7 hx289_8 hx289_9 hHeld ⊢
           refine plan_ [(0, 92), (1, 93), (2, 94), (3, 95), (5, 97), (6, 98), (7, 99)] ?_
           iterate 7 (refine planP_ (v := ?_) (a' := ?_) rfl rfl (any_of HT_.out (by kernel_rfl)) (fun _ _ _ h => h) (Or.inl ⟨by rfl, ?_⟩) ?_ ?_; rotate_left; (intro w'; go_simp; with_reducible rfl); rotate_left; (simp only [Act.put, List.setIfInBounds_toArray, List.set_cons_zero, List.set_cons_succ, i64_w, i32_w]; rfl))
           refine planEnd_ ?_
           refine plan_ [(4, 96), (8, 100)] ?_
           iterate 2 (refine planT_ (v := ?_) (a' := ?_) rfl rfl (take_ofW HT_.out HW_.out (by kernel_rfl)) (fun _ _ _ h => h) (Or.inl ⟨by rfl, ?_⟩) hHeld ?_ ?_; rotate_left; (rintro w' ⟨s0, s1, s2, s3, s4, s5, s6, s7, s8, s9, s10, s11, s12, s13, s14, s15, s16, s17, s18, s19, s20, s21, s22, s23⟩; go_simp; with_reducible rfl); rotate_left; (simp only [Act.put, List.setIfInBounds_toArray, List.set_cons_zero, List.set_cons_succ, i64_w, i32_w]; rfl))
           refine planEnd_ ?_
           refine one_ (i := 9) (N := some 101) #[true, true, true, true, true, true, true, true, true, true, false, false] rfl rfl (one_of HT_.out (by kernel_rfl)) (by decide) (fun K hK => ?_)
           refine goesV_ Try.func47 (by kernel_rfl) rfl #[.agg #[.int .i64 ((rd_T32 l0 a2).f0), .int .i64 ((rd_T32 l0 a2).f1), .int .i64 ((rd_T32 l0 a2).f2), .int .i64 ((rd_T32 l0 a2).f3), .int .i64 ((rd_T32 l0 a2).f4), .int .i64 ((rd_T32 l0 a2).f5), .int .i64 ((rd_T32 l0 a2).f6), .int .i64 ((rd_T32 l0 a2).f7), .int .i64 ((rd_T32 l0 a2).f8), .int .i64 ((rd_T32 l0 a2).f9), .int .i64 ((rd_T32 l0 a2).f10), .slice ((rd_T32 l0 a2).f11).A ((rd_T32 l0 a2).f11).n ((rd_T32 l0 a2).f11).c], .agg #[.int .i64 ((rd_T32 l0 (ji37)).f0), .int .i64 ((rd_T32 l0 (ji37)).f1), .int .i64 ((rd_T32 l0 (ji37)).f2), .int .i64 ((rd_T32 l0 (ji37)).f3), .int .i64 ((rd_T32 l0 (ji37)).f4), .int .i64 ((rd_T32 l0 (ji37)).f5), .int .i64 ((rd_T32 l0 (ji37)).f6), .int .i64 ((rd_T32 l0 (ji37)).f7), .int .i64 ((rd_T32 l0 (ji37)).f8), .int .i64 ((rd_T32 l0 (ji37)).f9), .int .i64 ((rd_T32 l0 (ji37)).f10), .slice ((rd_T32 l0 (ji37)).f11).A ((rd_T32 l0 (ji37)).f11).n ((rd_T32 l0 (ji37)).f11).c]] (by rfl) rfl rfl (by (try simp only [List.map_toArray, List.map_cons, List.map_nil]); first | done | (simp only [hji37]; rfl) | rfl | (simp only [List.length_drop, List.length_take]; rfl)) rfl ?_
           with_reducible refine (job_Due_1.calls ((rd_T32 l0 a2).f0) ((rd_T32 l0 a2).f1) ((rd_T32 l0 a2).f2) ((rd_T32 l0 a2).f3) ((rd_T32 l0 a2).f4) ((rd_T32 l0 a2).f5) ((rd_T32 l0 a2).f6) ((rd_T32 l0 a2).f7) ((rd_T32 l0 a2).f8) ((rd_T32 l0 a2).f9) ((rd_T32 l0 a2).f10) ((rd_T32 l0 a2).f11) ((rd_T32 l0 (ji37)).f0) ((rd_T32 l0 (ji37)).f1) ((rd_T32 l0 (ji37)).f2) ((rd_T32 l0 (ji37)).f3) ((rd_T32 l0 (ji37)).f4) ((rd_T32 l0 (ji37)).f5) ((rd_T32 l0 (ji37)).f6) ((rd_T32 l0 (ji37)).f7) ((rd_T32 l0 (ji37)).f8) ((rd_T32 l0 (ji37)).f9) ((rd_T32 l0 (ji37)).f10) ((rd_T32 l0 (ji37)).f11) t290 _ A40.out).mono ?_
           rintro e w44 ⟨rfl, hb⟩
           have HS0_ := (hb.cell (World.block_lt_of_cell? _ _ (hHeld.1))).trans (hHeld.1)
           have HS1_ := (hb.cell (World.block_lt_of_cell? _ _ (hHeld.2.1))).trans (hHeld.2.1)
           have HS2_ := (hb.cell (World.block_lt_of_cell? _ _ (hHeld.2.2.1))).trans (hHeld.2.2.1)
           have HS3_ := (hb.cell (World.block_lt_of_cell? _ _ (hHeld.2.2.2.1))).trans (hHeld.2.2.2.1)
           have HS4_ := (hb.cell (World.block_lt_of_cell? _ _ (hHeld.2.2.2.2.1))).trans (hHeld.2.2.2.2.1)
           have HS5_ := (hb.cell (World.block_lt_of_cell? _ _ (hHeld.2.2.2.2.2.1))).trans (hHeld.2.2.2.2.2.1)
           have HS6_ := (hb.cell (World.block_lt_of_cell? _ _ (hHeld.2.2.2.2.2.2.1))).trans (hHeld.2.2.2.2.2.2.1)
           have HS7_ := (hb.cell (World.block_lt_of_cell? _ _ (hHeld.2.2.2.2.2.2.2.1))).trans (hHeld.2.2.2.2.2.2.2.1)
           have HS8_ := (hb.cell (World.block_lt_of_cell? _ _ (hHeld.2.2.2.2.2.2.2.2.1))).trans (hHeld.2.2.2.2.2.2.2.2.1)
           have HS9_ := (hb.cell (World.block_lt_of_cell? _ _ (hHeld.2.2.2.2.2.2.2.2.2.1))).trans (hHeld.2.2.2.2.2.2.2.2.2.1)
           have HS10_ := (hb.cell (World.block_lt_of_cell? _ _ (hHeld.2.2.2.2.2.2.2.2.2.2.1))).trans (hHeld.2.2.2.2.2.2.2.2.2.2.1)
           have HS11_ := (hb.cell (World.block_lt_of_cell? _ _ (hHeld.2.2.2.2.2.2.2.2.2.2.2.1))).trans (hHeld.2.2.2.2.2.2.2.2.2.2.2.1)
           have HS12_ := (hb.cell (World.block_lt_of_cell? _ _ (hHeld.2.2.2.2.2.2.2.2.2.2.2.2.1))).trans (hHeld.2.2.2.2.2.2.2.2.2.2.2.2.1)
           have HS13_ := (hb.cell (World.block_lt_of_cell? _ _ (hHeld.2.2.2.2.2.2.2.2.2.2.2.2.2.1))).trans (hHeld.2.2.2.2.2.2.2.2.2.2.2.2.2.1)
           have HS14_ := (hb.cell (World.block_lt_of_cell? _ _ (hHeld.2.2.2.2.2.2.2.2.2.2.2.2.2.2.1))).trans (hHeld.2.2.2.2.2.2.2.2.2.2.2.2.2.2.1)
           have HS15_ := (hb.cell (World.block_lt_of_cell? _ _ (hHeld.2.2.2.2.2.2.2.2.2.2.2.2.2.2.2.1))).trans (hHeld.2.2.2.2.2.2.2.2.2.2.2.2.2.2.2.1)
           have HS16_ := (hb.cell (World.block_lt_of_cell? _ _ (hHeld.2.2.2.2.2.2.2.2.2.2.2.2.2.2.2.2.1))).trans (hHeld.2.2.2.2.2.2.2.2.2.2.2.2.2.2.2.2.1)
           have HS17_ := (hb.cell (World.block_lt_of_cell? _ _ (hHeld.2.2.2.2.2.2.2.2.2.2.2.2.2.2.2.2.2.1))).trans (hHeld.2.2.2.2.2.2.2.2.2.2.2.2.2.2.2.2.2.1)
           have HS18_ := (hb.cell (World.block_lt_of_cell? _ _ (hHeld.2.2.2.2.2.2.2.2.2.2.2.2.2.2.2.2.2.2.1))).trans (hHeld.2.2.2.2.2.2.2.2.2.2.2.2.2.2.2.2.2.2.1)
           have HS19_ := (hb.cell (World.block_lt_of_cell? _ _ (hHeld.2.2.2.2.2.2.2.2.2.2.2.2.2.2.2.2.2.2.2.1))).trans (hHeld.2.2.2.2.2.2.2.2.2.2.2.2.2.2.2.2.2.2.2.1)
           have HS20_ := (hb.cell (World.block_lt_of_cell? _ _ (hHeld.2.2.2.2.2.2.2.2.2.2.2.2.2.2.2.2.2.2.2.2.1))).trans (hHeld.2.2.2.2.2.2.2.2.2.2.2.2.2.2.2.2.2.2.2.2.1)
           have HS21_ := (hb.cell (World.block_lt_of_cell? _ _ (hHeld.2.2.2.2.2.2.2.2.2.2.2.2.2.2.2.2.2.2.2.2.2.1))).trans (hHeld.2.2.2.2.2.2.2.2.2.2.2.2.2.2.2.2.2.2.2.2.2.1)
           have HS22_ := (hb.cell (World.block_lt_of_cell? _ _ (hHeld.2.2.2.2.2.2.2.2.2.2.2.2.2.2.2.2.2.2.2.2.2.2.1))).trans (hHeld.2.2.2.2.2.2.2.2.2.2.2.2.2.2.2.2.2.2.2.2.2.2.1)
           have HS23_ := (hb.cell (World.block_lt_of_cell? _ _ (hHeld.2.2.2.2.2.2.2.2.2.2.2.2.2.2.2.2.2.2.2.2.2.2.2))).trans (hHeld.2.2.2.2.2.2.2.2.2.2.2.2.2.2.2.2.2.2.2.2.2.2.2)
           refine ⟨_, rfl, ?_⟩
           have n0_ := Aside0.mk (Kd.R_below (mR HO_0.out) hb)
           have n1_ := Aside0.mk (Kept.below (S := (fun k_ => P0_ k_)) (mK HK.out) hb)
           have n2_ := Aside0.mk (below_step (mB HB.out) hb)
           clear HO_0; clear HK; clear HB
           have HO_0 := n0_
           have HK := n1_
           have HB := n2_
           clear n0_; clear n1_; clear n2_
           (try clear hb); (try clear hb2); (try clear hk); (try clear hi)
           refine hK.out _ _ ⟨HS0_, HS1_, HS2_, HS3_, HS4_, HS5_, HS6_, HS7_, HS8_, HS9_, HS10_, HS11_, HS12_, HS13_, HS14_, HS15_, HS16_, HS17_, HS18_, HS19_, HS20_, HS21_, HS22_, HS23_⟩ (fun hHeld => ?_)
           clear hK; clear K
           refine norm_ (a' := ?_) ?_ ?_
           rotate_left
           ·show Act.put _ (some 101) _ = _
            simp only [Act.put, List.setIfInBounds_toArray, List.set_cons_zero, List.set_cons_succ, i64_w, i32_w]
            rfl
           refine plan_ [(10, 102), (11, 103)] ?_
           iterate 2 (refine planP_ (v := ?_) (a' := ?_) rfl rfl (any_of HT_.out (by kernel_rfl)) (fun _ _ _ h => h) (Or.inl ⟨by rfl, ?_⟩) ?_ ?_; rotate_left; (intro w'; go_simp; with_reducible rfl); rotate_left; (simp only [Act.put, List.setIfInBounds_toArray, List.set_cons_zero, List.set_cons_succ, i64_w, i32_w]; rfl))
           refine planEnd_ ?_
           refine done_ (done_of HT_.out (by kernel_rfl)) ?_
           try go_wp2
           go_roundg k1
           case measure => have := HK1.out; omega
           case rel => exact ⟨(x14_1), (ji37), ez, (by first | rfl | (simp; done) | (simp only [← hji37] <;> (first | rfl | simp)) | (simp [*]; done)), H', ⟨by have := HK1.out; omega⟩, ⟨mR HO_0.out⟩, ⟨mK HK.out⟩, ⟨mB HB.out⟩⟩
          ·as_aux_lemma =>
           rw [if_neg c41] at H
           have c41b0 : decide (t290 < 0) = false := decide_eq_false c41
           clear c41
           have H' := Aside0.mk H
           clear H
           try go_wp2
           have n0_ := Aside0.mk (Kd.R_drew HO_0.out)
           have n1_ := Aside0.mk (Kept.drew HK.out)
           have n2_ := Aside0.mk (below_drew1 HB.out)
           clear HO_0; clear HK; clear HB
           have HO_0 := n0_
           have HK := n1_
           have HB := n2_
           clear n0_; clear n1_; clear n2_
           obtain ⟨Ao46, co46, eo46⟩ := Kd.R_slice HO_0.out
           (first | subst eo46 | (injection eo46 with f1_ f2_ f3_; have f4_ := f1_.symm; have f5_ := f3_.symm; clear f1_ f2_ f3_; subst f4_; subst f5_))
           have p288 : 0 ≤ (a2 : Int) := oda
           have q288 : a2 < (l0.length : Int) := oda
           obtain ⟨ad288, e288, hx288_0, hx288_1, hx288_2, hx288_3, hx288_4, hx288_5, hx288_6, hx288_7, hx288_8, hx288_9, hx288_10, hx288_11⟩ := at_T32 (Kd.R_reads' HO_0.out).2.2 a2 p288 q288
           cases e288
           replace p288 := eq_true p288
           replace q288 := eq_true q288
           have p289 : 0 ≤ ((ji37) : Int) := oda
           have q289 : (ji37) < (l0.length : Int) := oda
           obtain ⟨ad289, e289, hx289_0, hx289_1, hx289_2, hx289_3, hx289_4, hx289_5, hx289_6, hx289_7, hx289_8, hx289_9, hx289_10, hx289_11⟩ := at_T32 (Kd.R_reads' HO_0.out).2.2 (ji37) p289 q289
           obtain rfl : ad288 = ad289 := (by injection e289)
           replace p289 := eq_true p289
           replace q289 := eq_true q289
           refine start_ (n := 12) (S := fun w' => w'.cell? (ad288.add ((a2).toNat * 12)) = some (.int .i64 ((rd_T32 l0 a2).f0)) ∧ w'.cell? ⟨(ad288.add ((a2).toNat * 12)).block, (ad288.add ((a2).toNat * 12)).off + 1, none⟩ = some (.int .i64 ((rd_T32 l0 a2).f1)) ∧ w'.cell? ⟨(ad288.add ((a2).toNat * 12)).block, (ad288.add ((a2).toNat * 12)).off + 2, none⟩ = some (.int .i64 ((rd_T32 l0 a2).f2)) ∧ w'.cell? ⟨(ad288.add ((a2).toNat * 12)).block, (ad288.add ((a2).toNat * 12)).off + 3, none⟩ = some (.int .i64 ((rd_T32 l0 a2).f3)) ∧ w'.cell? ⟨(ad288.add ((a2).toNat * 12)).block, (ad288.add ((a2).toNat * 12)).off + 4, none⟩ = some (.int .i64 ((rd_T32 l0 a2).f4)) ∧ w'.cell? ⟨(ad288.add ((a2).toNat * 12)).block, (ad288.add ((a2).toNat * 12)).off + 5, none⟩ = some (.int .i64 ((rd_T32 l0 a2).f5)) ∧ w'.cell? ⟨(ad288.add ((a2).toNat * 12)).block, (ad288.add ((a2).toNat * 12)).off + 6, none⟩ = some (.int .i64 ((rd_T32 l0 a2).f6)) ∧ w'.cell? ⟨(ad288.add ((a2).toNat * 12)).block, (ad288.add ((a2).toNat * 12)).off + 7, none⟩ = some (.int .i64 ((rd_T32 l0 a2).f7)) ∧ w'.cell? ⟨(ad288.add ((a2).toNat * 12)).block, (ad288.add ((a2).toNat * 12)).off + 8, none⟩ = some (.int .i64 ((rd_T32 l0 a2).f8)) ∧ w'.cell? ⟨(ad288.add ((a2).toNat * 12)).block, (ad288.add ((a2).toNat * 12)).off + 9, none⟩ = some (.int .i64 ((rd_T32 l0 a2).f9)) ∧ w'.cell? ⟨(ad288.add ((a2).toNat * 12)).block, (ad288.add ((a2).toNat * 12)).off + 10, none⟩ = some (.int .i64 ((rd_T32 l0 a2).f10)) ∧ w'.cell? ⟨(ad288.add ((a2).toNat * 12)).block, (ad288.add ((a2).toNat * 12)).off + 11, none⟩ = some (.slice ((rd_T32 l0 a2).f11).A ((rd_T32 l0 a2).f11).n ((rd_T32 l0 a2).f11).c) ∧ w'.cell? (ad288.add (((ji37)).toNat * 12)) = some (.int .i64 ((rd_T32 l0 (ji37)).f0)) ∧ w'.cell? ⟨(ad288.add (((ji37)).toNat * 12)).block, (ad288.add (((ji37)).toNat * 12)).off + 1, none⟩ = some (.int .i64 ((rd_T32 l0 (ji37)).f1)) ∧ w'.cell? ⟨(ad288.add (((ji37)).toNat * 12)).block, (ad288.add (((ji37)).toNat * 12)).off + 2, none⟩ = some (.int .i64 ((rd_T32 l0 (ji37)).f2)) ∧ w'.cell? ⟨(ad288.add (((ji37)).toNat * 12)).block, (ad288.add (((ji37)).toNat * 12)).off + 3, none⟩ = some (.int .i64 ((rd_T32 l0 (ji37)).f3)) ∧ w'.cell? ⟨(ad288.add (((ji37)).toNat * 12)).block, (ad288.add (((ji37)).toNat * 12)).off + 4, none⟩ = some (.int .i64 ((rd_T32 l0 (ji37)).f4)) ∧ w'.cell? ⟨(ad288.add (((ji37)).toNat * 12)).block, (ad288.add (((ji37)).toNat * 12)).off + 5, none⟩ = some (.int .i64 ((rd_T32 l0 (ji37)).f5)) ∧ w'.cell? ⟨(ad288.add (((ji37)).toNat * 12)).block, (ad288.add (((ji37)).toNat * 12)).off + 6, none⟩ = some (.int .i64 ((rd_T32 l0 (ji37)).f6)) ∧ w'.cell? ⟨(ad288.add (((ji37)).toNat * 12)).block, (ad288.add (((ji37)).toNat * 12)).off + 7, none⟩ = some (.int .i64 ((rd_T32 l0 (ji37)).f7)) ∧ w'.cell? ⟨(ad288.add (((ji37)).toNat * 12)).block, (ad288.add (((ji37)).toNat * 12)).off + 8, none⟩ = some (.int .i64 ((rd_T32 l0 (ji37)).f8)) ∧ w'.cell? ⟨(ad288.add (((ji37)).toNat * 12)).block, (ad288.add (((ji37)).toNat * 12)).off + 9, none⟩ = some (.int .i64 ((rd_T32 l0 (ji37)).f9)) ∧ w'.cell? ⟨(ad288.add (((ji37)).toNat * 12)).block, (ad288.add (((ji37)).toNat * 12)).off + 10, none⟩ = some (.int .i64 ((rd_T32 l0 (ji37)).f10)) ∧ w'.cell? ⟨(ad288.add (((ji37)).toNat * 12)).block, (ad288.add (((ji37)).toNat * 12)).off + 11, none⟩ = some (.slice ((rd_T32 l0 (ji37)).f11).A ((rd_T32 l0 (ji37)).f11).n ((rd_T32 l0 (ji37)).f11).c)) (ds := []) #[false, false, false, false, false, false, false, false, false, false, false, false] (by kernel_rfl) rfl rfl ⟨hx288_0, hx288_1, hx288_2, hx288_3, hx288_4, hx288_5, hx288_6, hx288_7, hx288_8, hx288_9, hx288_10, hx288_11, hx289_0, hx289_1, hx289_2, hx289_3, hx289_4, hx289_5, hx289_6, hx289_7, hx289_8, hx289_9, hx289_10, hx289_11⟩ (fun hHeld => ?_); refine with_tabW slices_symMergeCmpFunc_Job__job_Due_1.tab17 slices_symMergeCmpFunc_Job__job_Due_1.bits17 (fun HT_ HW_ => ?_)
           generalize wr.drew = w45 at HO_0 HK HB hx288_0 hx288_1 hx288_10 hx288_11 hx288_2 hx288_3 hx288_4 hx288_5 hx288_6 hx288_7 hx288_8 hx288_9 hx289_0 hx289_1 hx289_10 hx289_11 hx289_2 hx289_3 hx289_4 hx289_5 hx289_6 hx289_7 hx289_8 hx289_9 hHeld ⊢
           refine plan_ [(0, 92), (1, 93), (2, 94), (3, 95), (5, 97), (6, 98), (7, 99)] ?_
           iterate 7 (refine planP_ (v := ?_) (a' := ?_) rfl rfl (any_of HT_.out (by kernel_rfl)) (fun _ _ _ h => h) (Or.inl ⟨by rfl, ?_⟩) ?_ ?_; rotate_left; (intro w'; go_simp; with_reducible rfl); rotate_left; (simp only [Act.put, List.setIfInBounds_toArray, List.set_cons_zero, List.set_cons_succ, i64_w, i32_w]; rfl))
           refine planEnd_ ?_
           refine plan_ [(4, 96), (8, 100)] ?_
           iterate 2 (refine planT_ (v := ?_) (a' := ?_) rfl rfl (take_ofW HT_.out HW_.out (by kernel_rfl)) (fun _ _ _ h => h) (Or.inl ⟨by rfl, ?_⟩) hHeld ?_ ?_; rotate_left; (rintro w' ⟨s0, s1, s2, s3, s4, s5, s6, s7, s8, s9, s10, s11, s12, s13, s14, s15, s16, s17, s18, s19, s20, s21, s22, s23⟩; go_simp; with_reducible rfl); rotate_left; (simp only [Act.put, List.setIfInBounds_toArray, List.set_cons_zero, List.set_cons_succ, i64_w, i32_w]; rfl))
           refine planEnd_ ?_
           refine one_ (i := 9) (N := some 101) #[true, true, true, true, true, true, true, true, true, true, false, false] rfl rfl (one_of HT_.out (by kernel_rfl)) (by decide) (fun K hK => ?_)
           refine goesV_ Try.func47 (by kernel_rfl) rfl #[.agg #[.int .i64 ((rd_T32 l0 a2).f0), .int .i64 ((rd_T32 l0 a2).f1), .int .i64 ((rd_T32 l0 a2).f2), .int .i64 ((rd_T32 l0 a2).f3), .int .i64 ((rd_T32 l0 a2).f4), .int .i64 ((rd_T32 l0 a2).f5), .int .i64 ((rd_T32 l0 a2).f6), .int .i64 ((rd_T32 l0 a2).f7), .int .i64 ((rd_T32 l0 a2).f8), .int .i64 ((rd_T32 l0 a2).f9), .int .i64 ((rd_T32 l0 a2).f10), .slice ((rd_T32 l0 a2).f11).A ((rd_T32 l0 a2).f11).n ((rd_T32 l0 a2).f11).c], .agg #[.int .i64 ((rd_T32 l0 (ji37)).f0), .int .i64 ((rd_T32 l0 (ji37)).f1), .int .i64 ((rd_T32 l0 (ji37)).f2), .int .i64 ((rd_T32 l0 (ji37)).f3), .int .i64 ((rd_T32 l0 (ji37)).f4), .int .i64 ((rd_T32 l0 (ji37)).f5), .int .i64 ((rd_T32 l0 (ji37)).f6), .int .i64 ((rd_T32 l0 (ji37)).f7), .int .i64 ((rd_T32 l0 (ji37)).f8), .int .i64 ((rd_T32 l0 (ji37)).f9), .int .i64 ((rd_T32 l0 (ji37)).f10), .slice ((rd_T32 l0 (ji37)).f11).A ((rd_T32 l0 (ji37)).f11).n ((rd_T32 l0 (ji37)).f11).c]] (by rfl) rfl rfl (by (try simp only [List.map_toArray, List.map_cons, List.map_nil]); first | done | (simp only [hji37]; rfl) | rfl | (simp only [List.length_drop, List.length_take]; rfl)) rfl ?_
           with_reducible refine (job_Due_1.calls ((rd_T32 l0 a2).f0) ((rd_T32 l0 a2).f1) ((rd_T32 l0 a2).f2) ((rd_T32 l0 a2).f3) ((rd_T32 l0 a2).f4) ((rd_T32 l0 a2).f5) ((rd_T32 l0 a2).f6) ((rd_T32 l0 a2).f7) ((rd_T32 l0 a2).f8) ((rd_T32 l0 a2).f9) ((rd_T32 l0 a2).f10) ((rd_T32 l0 a2).f11) ((rd_T32 l0 (ji37)).f0) ((rd_T32 l0 (ji37)).f1) ((rd_T32 l0 (ji37)).f2) ((rd_T32 l0 (ji37)).f3) ((rd_T32 l0 (ji37)).f4) ((rd_T32 l0 (ji37)).f5) ((rd_T32 l0 (ji37)).f6) ((rd_T32 l0 (ji37)).f7) ((rd_T32 l0 (ji37)).f8) ((rd_T32 l0 (ji37)).f9) ((rd_T32 l0 (ji37)).f10) ((rd_T32 l0 (ji37)).f11) t290 _ A40.out).mono ?_
           rintro e w47 ⟨rfl, hb⟩
           have HS0_ := (hb.cell (World.block_lt_of_cell? _ _ (hHeld.1))).trans (hHeld.1)
           have HS1_ := (hb.cell (World.block_lt_of_cell? _ _ (hHeld.2.1))).trans (hHeld.2.1)
           have HS2_ := (hb.cell (World.block_lt_of_cell? _ _ (hHeld.2.2.1))).trans (hHeld.2.2.1)
           have HS3_ := (hb.cell (World.block_lt_of_cell? _ _ (hHeld.2.2.2.1))).trans (hHeld.2.2.2.1)
           have HS4_ := (hb.cell (World.block_lt_of_cell? _ _ (hHeld.2.2.2.2.1))).trans (hHeld.2.2.2.2.1)
           have HS5_ := (hb.cell (World.block_lt_of_cell? _ _ (hHeld.2.2.2.2.2.1))).trans (hHeld.2.2.2.2.2.1)
           have HS6_ := (hb.cell (World.block_lt_of_cell? _ _ (hHeld.2.2.2.2.2.2.1))).trans (hHeld.2.2.2.2.2.2.1)
           have HS7_ := (hb.cell (World.block_lt_of_cell? _ _ (hHeld.2.2.2.2.2.2.2.1))).trans (hHeld.2.2.2.2.2.2.2.1)
           have HS8_ := (hb.cell (World.block_lt_of_cell? _ _ (hHeld.2.2.2.2.2.2.2.2.1))).trans (hHeld.2.2.2.2.2.2.2.2.1)
           have HS9_ := (hb.cell (World.block_lt_of_cell? _ _ (hHeld.2.2.2.2.2.2.2.2.2.1))).trans (hHeld.2.2.2.2.2.2.2.2.2.1)
           have HS10_ := (hb.cell (World.block_lt_of_cell? _ _ (hHeld.2.2.2.2.2.2.2.2.2.2.1))).trans (hHeld.2.2.2.2.2.2.2.2.2.2.1)
           have HS11_ := (hb.cell (World.block_lt_of_cell? _ _ (hHeld.2.2.2.2.2.2.2.2.2.2.2.1))).trans (hHeld.2.2.2.2.2.2.2.2.2.2.2.1)
           have HS12_ := (hb.cell (World.block_lt_of_cell? _ _ (hHeld.2.2.2.2.2.2.2.2.2.2.2.2.1))).trans (hHeld.2.2.2.2.2.2.2.2.2.2.2.2.1)
           have HS13_ := (hb.cell (World.block_lt_of_cell? _ _ (hHeld.2.2.2.2.2.2.2.2.2.2.2.2.2.1))).trans (hHeld.2.2.2.2.2.2.2.2.2.2.2.2.2.1)
           have HS14_ := (hb.cell (World.block_lt_of_cell? _ _ (hHeld.2.2.2.2.2.2.2.2.2.2.2.2.2.2.1))).trans (hHeld.2.2.2.2.2.2.2.2.2.2.2.2.2.2.1)
           have HS15_ := (hb.cell (World.block_lt_of_cell? _ _ (hHeld.2.2.2.2.2.2.2.2.2.2.2.2.2.2.2.1))).trans (hHeld.2.2.2.2.2.2.2.2.2.2.2.2.2.2.2.1)
           have HS16_ := (hb.cell (World.block_lt_of_cell? _ _ (hHeld.2.2.2.2.2.2.2.2.2.2.2.2.2.2.2.2.1))).trans (hHeld.2.2.2.2.2.2.2.2.2.2.2.2.2.2.2.2.1)
           have HS17_ := (hb.cell (World.block_lt_of_cell? _ _ (hHeld.2.2.2.2.2.2.2.2.2.2.2.2.2.2.2.2.2.1))).trans (hHeld.2.2.2.2.2.2.2.2.2.2.2.2.2.2.2.2.2.1)
           have HS18_ := (hb.cell (World.block_lt_of_cell? _ _ (hHeld.2.2.2.2.2.2.2.2.2.2.2.2.2.2.2.2.2.2.1))).trans (hHeld.2.2.2.2.2.2.2.2.2.2.2.2.2.2.2.2.2.2.1)
           have HS19_ := (hb.cell (World.block_lt_of_cell? _ _ (hHeld.2.2.2.2.2.2.2.2.2.2.2.2.2.2.2.2.2.2.2.1))).trans (hHeld.2.2.2.2.2.2.2.2.2.2.2.2.2.2.2.2.2.2.2.1)
           have HS20_ := (hb.cell (World.block_lt_of_cell? _ _ (hHeld.2.2.2.2.2.2.2.2.2.2.2.2.2.2.2.2.2.2.2.2.1))).trans (hHeld.2.2.2.2.2.2.2.2.2.2.2.2.2.2.2.2.2.2.2.2.1)
           have HS21_ := (hb.cell (World.block_lt_of_cell? _ _ (hHeld.2.2.2.2.2.2.2.2.2.2.2.2.2.2.2.2.2.2.2.2.2.1))).trans (hHeld.2.2.2.2.2.2.2.2.2.2.2.2.2.2.2.2.2.2.2.2.2.1)
           have HS22_ := (hb.cell (World.block_lt_of_cell? _ _ (hHeld.2.2.2.2.2.2.2.2.2.2.2.2.2.2.2.2.2.2.2.2.2.2.1))).trans (hHeld.2.2.2.2.2.2.2.2.2.2.2.2.2.2.2.2.2.2.2.2.2.2.1)
           have HS23_ := (hb.cell (World.block_lt_of_cell? _ _ (hHeld.2.2.2.2.2.2.2.2.2.2.2.2.2.2.2.2.2.2.2.2.2.2.2))).trans (hHeld.2.2.2.2.2.2.2.2.2.2.2.2.2.2.2.2.2.2.2.2.2.2.2)
           refine ⟨_, rfl, ?_⟩
           have n0_ := Aside0.mk (Kd.R_below (mR HO_0.out) hb)
           have n1_ := Aside0.mk (Kept.below (S := (fun k_ => P0_ k_)) (mK HK.out) hb)
           have n2_ := Aside0.mk (below_step (mB HB.out) hb)
           clear HO_0; clear HK; clear HB
           have HO_0 := n0_
           have HK := n1_
           have HB := n2_
           clear n0_; clear n1_; clear n2_
           (try clear hb); (try clear hb2); (try clear hk); (try clear hi)
           refine hK.out _ _ ⟨HS0_, HS1_, HS2_, HS3_, HS4_, HS5_, HS6_, HS7_, HS8_, HS9_, HS10_, HS11_, HS12_, HS13_, HS14_, HS15_, HS16_, HS17_, HS18_, HS19_, HS20_, HS21_, HS22_, HS23_⟩ (fun hHeld => ?_)
           clear hK; clear K
           refine norm_ (a' := ?_) ?_ ?_
           rotate_left
           ·show Act.put _ (some 101) _ = _
            simp only [Act.put, List.setIfInBounds_toArray, List.set_cons_zero, List.set_cons_succ, i64_w, i32_w]
            rfl
           refine plan_ [(10, 102), (11, 103)] ?_
           iterate 2 (refine planP_ (v := ?_) (a' := ?_) rfl rfl (any_of HT_.out (by kernel_rfl)) (fun _ _ _ h => h) (Or.inl ⟨by rfl, ?_⟩) ?_ ?_; rotate_left; (intro w'; go_simp; with_reducible rfl); rotate_left; (simp only [Act.put, List.setIfInBounds_toArray, List.set_cons_zero, List.set_cons_succ, i64_w, i32_w]; rfl))
           refine planEnd_ ?_
           refine done_ (done_of HT_.out (by kernel_rfl)) ?_
           try go_wp2
           go_roundg k1
           case measure => have := HK1.out; omega
           case rel => exact ⟨(wrap64 ((ji37) + 1)), (x15_1), (by first | rfl | (simp; done) | (simp only [← hji37] <;> (first | rfl | simp)) | (simp [*]; done)), ez, H', ⟨by have := HK1.out; omega⟩, ⟨mR HO_0.out⟩, ⟨mK HK.out⟩, ⟨mB HB.out⟩⟩
         ·rw [if_neg c39] at H
          exact absurd H (by simp)
        ·rw [if_neg c38] at H
         exact absurd H (by simp)
       ·rw [if_neg c36] at H
        exact absurd H (by simp)
      ·rw [if_neg c35] at H
       exact absurd H (by simp)
     ·rw [if_neg c34] at H
      have c34b0 : decide (x14_1 < x15_1) = false := decide_eq_false c34
      clear c34
      have H' := Aside0.mk H
      clear H
      go_wp2
      go_loopg [17] k1 (fun kq v17 w' => ∃ (x0_2 : List (S32)) (x17_2 : Int), v17 = .int .i64 x17_2 ∧ Aside0 (slices_symMergeCmpFunc_Job__job_Due_1.l3 kq x0_2 x14_1 x17_2 = some r) ∧ Aside0 (kq ≤ k1) ∧ Aside0 (Kd.R k32 32 w' w0.heap.size (fun k_ => (P0_ k_ ∨ w.heap.size ≤ k_)) u9000_ x0_2) ∧ Aside0 (Kept w w' (fun k_ => P0_ k_)) ∧ Aside0 (Below w0.heap.size w0 w'))
      case atStart => exact ⟨(l0), (a2), ez, H', ⟨Nat.le_refl _⟩, ⟨mR HO_0.out⟩, ⟨mK HK.out⟩, ⟨mB HB.out⟩⟩
      case round => as_aux_lemma =>
       clear H'
       (try clear c1); (try clear c2); (try clear p2); (try clear q2); (try clear hx2); (try clear c3); (try clear c4); (try clear c6); (try clear c6b0); (try clear c6b1); (try clear p6); (try clear c7); (try clear c7b0); (try clear c9); (try clear c9b0); (try clear c10); (try clear c10b0); (try clear c11); (try clear c11b0); (try clear c12); (try clear c12b0); (try clear c14); (try clear c14b0); (try clear c21); (try clear c21b0); (try clear c23); (try clear c23b0); (try clear c24); (try clear c24b0); (try clear c25); (try clear c25b0); (try clear c26); (try clear c26b0); (try clear c27); (try clear p27); (try clear q27); (try clear hx27); (try clear hf27); (try clear c28); (try clear p28); (try clear q28); (try clear hx28); (try clear hf28); (try clear c31); (try clear c32); (try clear c33); (try clear c33b0); (try clear c33b1); (try clear c34); (try clear c34b0); (try clear c35); (try clear c35b0); (try clear c36); (try clear c36b0); (try clear c38); (try clear c38b0); (try clear c39); (try clear c39b0); (try clear c41); (try clear c41b0); (try clear c47); (try clear hx27_0); (try clear hx27_1); (try clear hx27_10); (try clear hx27_11); (try clear hx27_2); (try clear hx27_3); (try clear hx27_4); (try clear hx27_5); (try clear hx27_6); (try clear hx27_7); (try clear hx27_8); (try clear hx27_9); (try clear hx281_0); (try clear hx281_1); (try clear hx281_10); (try clear hx281_11); (try clear hx281_2); (try clear hx281_3); (try clear hx281_4); (try clear hx281_5); (try clear hx281_6); (try clear hx281_7); (try clear hx281_8); (try clear hx281_9); (try clear hx282_0); (try clear hx282_1); (try clear hx282_10); (try clear hx282_11); (try clear hx282_2); (try clear hx282_3); (try clear hx282_4); (try clear hx282_5); (try clear hx282_6); (try clear hx282_7); (try clear hx282_8); (try clear hx282_9); (try clear hx284_0); (try clear hx284_1); (try clear hx284_10); (try clear hx284_11); (try clear hx284_2); (try clear hx284_3); (try clear hx284_4); (try clear hx284_5); (try clear hx284_6); (try clear hx284_7); (try clear hx284_8); (try clear hx284_9); (try clear hx285_0); (try clear hx285_1); (try clear hx285_10); (try clear hx285_11); (try clear hx285_2); (try clear hx285_3); (try clear hx285_4); (try clear hx285_5); (try clear hx285_6); (try clear hx285_7); (try clear hx285_8); (try clear hx285_9); (try clear hx288_0); (try clear hx288_1); (try clear hx288_10); (try clear hx288_11); (try clear hx288_2); (try clear hx288_3); (try clear hx288_4); (try clear hx288_5); (try clear hx288_6); (try clear hx288_7); (try clear hx288_8); (try clear hx288_9); (try clear hx289_0); (try clear hx289_1); (try clear hx289_10); (try clear hx289_11); (try clear hx289_2); (try clear hx289_3); (try clear hx289_4); (try clear hx289_5); (try clear hx289_6); (try clear hx289_7); (try clear hx289_8); (try clear hx289_9); (try clear hx28_0); (try clear hx28_1); (try clear hx28_10); (try clear hx28_11); (try clear hx28_2); (try clear hx28_3); (try clear hx28_4); (try clear hx28_5); (try clear hx28_6); (try clear hx28_7); (try clear hx28_8); (try clear hx28_9); (try clear p2); (try clear p27); (try clear p28); (try clear p281); (try clear p282); (try clear p284); (try clear p285); (try clear p288); (try clear p289); (try clear p6); (try clear q2); (try clear q27); (try clear q28); (try clear q281); (try clear q282); (try clear q284); (try clear q285); (try clear q288); (try clear q289)
       obtain ⟨x0_2, x17_2, rfl, HA, HK2, HO_0, HK, HB⟩ := hrel
       cases gk with
       | zero => exact absurd HA.out (by simp [slices_symMergeCmpFunc_Job__job_Due_1.l3])
       | succ k2 =>
        have H := HA.out
        clear HA
        simp only [slices_symMergeCmpFunc_Job__job_Due_1.l3] at H
        by_cases c48 : x17_2 > x14_1
        ·rw [if_pos c48] at H
         have c48b0 : decide (x14_1 < x17_2) = true := decide_eq_true c48
         clear c48
         obtain ⟨ji49, hji49⟩ : ∃ j_ : Int, (wrap64 (x17_2 - 1)) = j_ := ⟨_, rfl⟩
         replace H : (if 0 ≤ (ji49) then (if (ji49) < (x0_2.length : Int) then (if 0 ≤ x17_2 then (if x17_2 < (x0_2.length : Int) then (slices_symMergeCmpFunc_Job__job_Due_1.l3 k2 ((x0_2.set (x17_2 : Int).toNat (⟨(rd_T32 x0_2 (ji49)).f0, (rd_T32 x0_2 (ji49)).f1, (rd_T32 x0_2 (ji49)).f2, (rd_T32 x0_2 (ji49)).f3, (rd_T32 x0_2 (ji49)).f4, (rd_T32 x0_2 (ji49)).f5, (rd_T32 x0_2 (ji49)).f6, (rd_T32 x0_2 (ji49)).f7, (rd_T32 x0_2 (ji49)).f8, (rd_T32 x0_2 (ji49)).f9, (rd_T32 x0_2 (ji49)).f10, (rd_T32 x0_2 (ji49)).f11⟩ : S32)).set ((ji49) : Int).toNat (⟨(rd_T32 x0_2 x17_2).f0, (rd_T32 x0_2 x17_2).f1, (rd_T32 x0_2 x17_2).f2, (rd_T32 x0_2 x17_2).f3, (rd_T32 x0_2 x17_2).f4, (rd_T32 x0_2 x17_2).f5, (rd_T32 x0_2 x17_2).f6, (rd_T32 x0_2 x17_2).f7, (rd_T32 x0_2 x17_2).f8, (rd_T32 x0_2 x17_2).f9, (rd_T32 x0_2 x17_2).f10, (rd_T32 x0_2 x17_2).f11⟩ : S32)) x14_1 ji49) else (none)) else (none)) else (none)) else (none)) = some r := by first | (rw [hji49] at H; exact H) | (simp only [hji49] at H ⊢; exact H)
         have hji49w : (IntKind.i64.wrap (x17_2 - 1)) = ji49 := (i64_w _).trans hji49
         by_cases c50 : 0 ≤ (ji49)
         ·rw [if_pos c50] at H
          have c50b0 : decide (0 ≤ (ji49)) = true := decide_eq_true c50
          clear c50
          by_cases c51 : (ji49) < (x0_2.length : Int)
          ·rw [if_pos c51] at H
           have c51b0 : decide ((ji49) < (x0_2.length : Int)) = true := decide_eq_true c51
           clear c51
           by_cases c52 : 0 ≤ x17_2
           ·rw [if_pos c52] at H
            have c52b0 : decide (0 ≤ x17_2) = true := decide_eq_true c52
            clear c52
            by_cases c53 : x17_2 < (x0_2.length : Int)
            ·rw [if_pos c53] at H
             have c53b0 : decide (x17_2 < (x0_2.length : Int)) = true := decide_eq_true c53
             clear c53
             obtain ⟨y293, hy293⟩ : ∃ y_ : List (S32), y_ = (x0_2.set (x17_2 : Int).toNat (⟨(rd_T32 x0_2 (ji49)).f0, (rd_T32 x0_2 (ji49)).f1, (rd_T32 x0_2 (ji49)).f2, (rd_T32 x0_2 (ji49)).f3, (rd_T32 x0_2 (ji49)).f4, (rd_T32 x0_2 (ji49)).f5, (rd_T32 x0_2 (ji49)).f6, (rd_T32 x0_2 (ji49)).f7, (rd_T32 x0_2 (ji49)).f8, (rd_T32 x0_2 (ji49)).f9, (rd_T32 x0_2 (ji49)).f10, (rd_T32 x0_2 (ji49)).f11⟩ : S32)) := ⟨_, rfl⟩
             replace H : (slices_symMergeCmpFunc_Job__job_Due_1.l3 k2 (y293.set ((ji49) : Int).toNat (⟨(rd_T32 x0_2 x17_2).f0, (rd_T32 x0_2 x17_2).f1, (rd_T32 x0_2 x17_2).f2, (rd_T32 x0_2 x17_2).f3, (rd_T32 x0_2 x17_2).f4, (rd_T32 x0_2 x17_2).f5, (rd_T32 x0_2 x17_2).f6, (rd_T32 x0_2 x17_2).f7, (rd_T32 x0_2 x17_2).f8, (rd_T32 x0_2 x17_2).f9, (rd_T32 x0_2 x17_2).f10, (rd_T32 x0_2 x17_2).f11⟩ : S32)) x14_1 ji49) = some r := mH hy293 H
             have Ny293 := Aside0.mk hy293
             clear hy293
             obtain ⟨y294, hy294⟩ : ∃ y_ : List (S32), y_ = (y293.set ((ji49) : Int).toNat (⟨(rd_T32 x0_2 x17_2).f0, (rd_T32 x0_2 x17_2).f1, (rd_T32 x0_2 x17_2).f2, (rd_T32 x0_2 x17_2).f3, (rd_T32 x0_2 x17_2).f4, (rd_T32 x0_2 x17_2).f5, (rd_T32 x0_2 x17_2).f6, (rd_T32 x0_2 x17_2).f7, (rd_T32 x0_2 x17_2).f8, (rd_T32 x0_2 x17_2).f9, (rd_T32 x0_2 x17_2).f10, (rd_T32 x0_2 x17_2).f11⟩ : S32)) := ⟨_, rfl⟩
             replace H : (slices_symMergeCmpFunc_Job__job_Due_1.l3 k2 y294 x14_1 ji49) = some r := mH hy294 H
             have Ny294 := Aside0.mk hy294
             clear hy294
             have H' := Aside0.mk H
             clear H
             try go_wp2
             have n0_ := Aside0.mk (Kd.R_drew HO_0.out)
             have n1_ := Aside0.mk (Kept.drew HK.out)
             have n2_ := Aside0.mk (below_drew1 HB.out)
             clear HO_0; clear HK; clear HB
             have HO_0 := n0_
             have HK := n1_
             have HB := n2_
             clear n0_; clear n1_; clear n2_
             obtain ⟨Ao57, co57, eo57⟩ := Kd.R_slice HO_0.out
             (first | subst eo57 | (injection eo57 with f1_ f2_ f3_; have f4_ := f1_.symm; have f5_ := f3_.symm; clear f1_ f2_ f3_; subst f4_; subst f5_))
             have p291 : 0 ≤ ((ji49) : Int) := oda
             have q291 : (ji49) < (x0_2.length : Int) := oda
             obtain ⟨ad291, e291, hx291_0, hx291_1, hx291_2, hx291_3, hx291_4, hx291_5, hx291_6, hx291_7, hx291_8, hx291_9, hx291_10, hx291_11⟩ := at_T32 (Kd.R_reads' HO_0.out).2.2 (ji49) p291 q291
             cases e291
             replace p291 := eq_true p291
             replace q291 := eq_true q291
             have p292 : 0 ≤ (x17_2 : Int) := oda
             have q292 : x17_2 < (x0_2.length : Int) := oda
             obtain ⟨ad292, e292, hx292_0, hx292_1, hx292_2, hx292_3, hx292_4, hx292_5, hx292_6, hx292_7, hx292_8, hx292_9, hx292_10, hx292_11⟩ := at_T32 (Kd.R_reads' HO_0.out).2.2 x17_2 p292 q292
             obtain rfl : ad291 = ad292 := (by injection e292)
             replace p292 := eq_true p292
             replace q292 := eq_true q292
             have p54 : 0 ≤ (x17_2 : Int) := oda
             have q54 : (x17_2 : Int) < ((x0_2.length : Int) : Int) := oda
             obtain ⟨go54, co54, eo54, gb54, gl54, cl54, HG54⟩ := Kd.R_form HO_0.out (by omega)
             (first | cases eo54 | (injection eo54 with ea_ en_ ec_; (first | subst ea_ | (injection ea_ with ea_; subst ea_)); subst ec_; clear en_))
             have GB54 := Aside0.mk gb54
             have GG54 := Aside0.mk HG54
             clear gb54; clear gl54; clear HG54
             have HMgo54 := Aside0.mk (show (P0_ go54 ∨ w.heap.size ≤ go54) from (HO_0.out.1 _ rfl))
             (first | simp only [add_plain] at hx291_0 | skip)
             (first | simp only [add_plain] at hx291_1 | skip)
             (first | simp only [add_plain] at hx291_2 | skip)
             (first | simp only [add_plain] at hx291_3 | skip)
             (first | simp only [add_plain] at hx291_4 | skip)
             (first | simp only [add_plain] at hx291_5 | skip)
             (first | simp only [add_plain] at hx291_6 | skip)
             (first | simp only [add_plain] at hx291_7 | skip)
             (first | simp only [add_plain] at hx291_8 | skip)
             (first | simp only [add_plain] at hx291_9 | skip)
             (first | simp only [add_plain] at hx291_10 | skip)
             (first | simp only [add_plain] at hx291_11 | skip)
             (first | simp only [add_plain] at hx292_0 | skip)
             (first | simp only [add_plain] at hx292_1 | skip)
             (first | simp only [add_plain] at hx292_2 | skip)
             (first | simp only [add_plain] at hx292_3 | skip)
             (first | simp only [add_plain] at hx292_4 | skip)
             (first | simp only [add_plain] at hx292_5 | skip)
             (first | simp only [add_plain] at hx292_6 | skip)
             (first | simp only [add_plain] at hx292_7 | skip)
             (first | simp only [add_plain] at hx292_8 | skip)
             (first | simp only [add_plain] at hx292_9 | skip)
             (first | simp only [add_plain] at hx292_10 | skip)
             (first | simp only [add_plain] at hx292_11 | skip)
             refine start_ (n := 18) (S := fun w' => w'.cell? ⟨go54, (((ji49)).toNat * 12), none⟩ = some (.int .i64 ((rd_T32 x0_2 (ji49)).f0)) ∧ w'.cell? ⟨go54, (((ji49)).toNat * 12) + 1, none⟩ = some (.int .i64 ((rd_T32 x0_2 (ji49)).f1)) ∧ w'.cell? ⟨go54, (((ji49)).toNat * 12) + 2, none⟩ = some (.int .i64 ((rd_T32 x0_2 (ji49)).f2)) ∧ w'.cell? ⟨go54, (((ji49)).toNat * 12) + 3, none⟩ = some (.int .i64 ((rd_T32 x0_2 (ji49)).f3)) ∧ w'.cell? ⟨go54, (((ji49)).toNat * 12) + 4, none⟩ = some (.int .i64 ((rd_T32 x0_2 (ji49)).f4)) ∧ w'.cell? ⟨go54, (((ji49)).toNat * 12) + 5, none⟩ = some (.int .i64 ((rd_T32 x0_2 (ji49)).f5)) ∧ w'.cell? ⟨go54, (((ji49)).toNat * 12) + 6, none⟩ = some (.int .i64 ((rd_T32 x0_2 (ji49)).f6)) ∧ w'.cell? ⟨go54, (((ji49)).toNat * 12) + 7, none⟩ = some (.int .i64 ((rd_T32 x0_2 (ji49)).f7)) ∧ w'.cell? ⟨go54, (((ji49)).toNat * 12) + 8, none⟩ = some (.int .i64 ((rd_T32 x0_2 (ji49)).f8)) ∧ w'.cell? ⟨go54, (((ji49)).toNat * 12) + 9, none⟩ = some (.int .i64 ((rd_T32 x0_2 (ji49)).f9)) ∧ w'.cell? ⟨go54, (((ji49)).toNat * 12) + 10, none⟩ = some (.int .i64 ((rd_T32 x0_2 (ji49)).f10)) ∧ w'.cell? ⟨go54, (((ji49)).toNat * 12) + 11, none⟩ = some (.slice ((rd_T32 x0_2 (ji49)).f11).A ((rd_T32 x0_2 (ji49)).f11).n ((rd_T32 x0_2 (ji49)).f11).c) ∧ w'.cell? ⟨go54, ((x17_2).toNat * 12), none⟩ = some (.int .i64 ((rd_T32 x0_2 x17_2).f0)) ∧ w'.cell? ⟨go54, ((x17_2).toNat * 12) + 1, none⟩ = some (.int .i64 ((rd_T32 x0_2 x17_2).f1)) ∧ w'.cell? ⟨go54, ((x17_2).toNat * 12) + 2, none⟩ = some (.int .i64 ((rd_T32 x0_2 x17_2).f2)) ∧ w'.cell? ⟨go54, ((x17_2).toNat * 12) + 3, none⟩ = some (.int .i64 ((rd_T32 x0_2 x17_2).f3)) ∧ w'.cell? ⟨go54, ((x17_2).toNat * 12) + 4, none⟩ = some (.int .i64 ((rd_T32 x0_2 x17_2).f4)) ∧ w'.cell? ⟨go54, ((x17_2).toNat * 12) + 5, none⟩ = some (.int .i64 ((rd_T32 x0_2 x17_2).f5)) ∧ w'.cell? ⟨go54, ((x17_2).toNat * 12) + 6, none⟩ = some (.int .i64 ((rd_T32 x0_2 x17_2).f6)) ∧ w'.cell? ⟨go54, ((x17_2).toNat * 12) + 7, none⟩ = some (.int .i64 ((rd_T32 x0_2 x17_2).f7)) ∧ w'.cell? ⟨go54, ((x17_2).toNat * 12) + 8, none⟩ = some (.int .i64 ((rd_T32 x0_2 x17_2).f8)) ∧ w'.cell? ⟨go54, ((x17_2).toNat * 12) + 9, none⟩ = some (.int .i64 ((rd_T32 x0_2 x17_2).f9)) ∧ w'.cell? ⟨go54, ((x17_2).toNat * 12) + 10, none⟩ = some (.int .i64 ((rd_T32 x0_2 x17_2).f10)) ∧ w'.cell? ⟨go54, ((x17_2).toNat * 12) + 11, none⟩ = some (.slice ((rd_T32 x0_2 x17_2).f11).A ((rd_T32 x0_2 x17_2).f11).n ((rd_T32 x0_2 x17_2).f11).c)) (ds := [15, 17]) #[false, false, false, false, false, false, false, false, false, false, false, false, false, false, false, false, false, false] (by kernel_rfl) rfl rfl ⟨hx291_0, hx291_1, hx291_2, hx291_3, hx291_4, hx291_5, hx291_6, hx291_7, hx291_8, hx291_9, hx291_10, hx291_11, hx292_0, hx292_1, hx292_2, hx292_3, hx292_4, hx292_5, hx292_6, hx292_7, hx292_8, hx292_9, hx292_10, hx292_11⟩ (fun hHeld => ?_); refine with_tabW slices_symMergeCmpFunc_Job__job_Due_1.tab23 slices_symMergeCmpFunc_Job__job_Due_1.bits23 (fun HT_ HW_ => ?_)
             generalize wr.drew = w56 at HO_0 HK HB GG54 hx291_0 hx291_1 hx291_10 hx291_11 hx291_2 hx291_3 hx291_4 hx291_5 hx291_6 hx291_7 hx291_8 hx291_9 hx292_0 hx292_1 hx292_10 hx292_11 hx292_2 hx292_3 hx292_4 hx292_5 hx292_6 hx292_7 hx292_8 hx292_9 hHeld ⊢
             refine plan_ [(0, 113), (1, 114), (2, 115), (3, 116), (4, 117), (5, 118), (6, 119), (7, 120), (8, 121), (10, 123), (11, 124), (12, 125)] ?_
             iterate 12 (refine planP_ (v := ?_) (a' := ?_) rfl rfl (any_of HT_.out (by kernel_rfl)) (fun _ _ _ h => h) (Or.inl ⟨by rfl, ?_⟩) ?_ ?_; rotate_left; (intro w'; go_simp; with_reducible rfl); rotate_left; (simp only [Act.put, List.setIfInBounds_toArray, List.set_cons_zero, List.set_cons_succ, i64_w, i32_w]; rfl))
             refine planEnd_ ?_
             refine plan_ [(9, 122), (13, 126)] ?_
             iterate 2 (refine planT_ (v := ?_) (a' := ?_) rfl rfl (take_ofW HT_.out HW_.out (by kernel_rfl)) (fun _ _ _ h => h) (Or.inl ⟨by rfl, ?_⟩) hHeld ?_ ?_; rotate_left; (rintro w' ⟨s0, s1, s2, s3, s4, s5, s6, s7, s8, s9, s10, s11, s12, s13, s14, s15, s16, s17, s18, s19, s20, s21, s22, s23⟩; go_simp; with_reducible rfl); rotate_left; (simp only [Act.put, List.setIfInBounds_toArray, List.set_cons_zero, List.set_cons_succ, i64_w, i32_w]; rfl))
             refine planEnd_ ?_
             refine plan_ [(14, 127)] ?_
             refine planP_ (v := ?_) (a' := ?_) rfl rfl (any_of HT_.out (by kernel_rfl)) (fun _ _ _ h => h) (Or.inl ⟨by rfl, ?_⟩) ?_ ?_; rotate_left; (intro w'; go_simp; with_reducible rfl); rotate_left; (simp only [Act.put, List.setIfInBounds_toArray, List.set_cons_zero, List.set_cons_succ, i64_w, i32_w]; rfl)
             refine planEnd_ ?_
             refine last_ (i := 15) (N := none) #[true, true, true, true, true, true, true, true, true, true, true, true, true, true, true, true, false, false] rfl rfl (one_of HT_.out (by kernel_rfl)) (by decide) (fun K hK => ?_)
             refine storeW_ k32 (w0 := w0) (g := go54) (x17_2) z32 (⟨(rd_T32 x0_2 (ji49)).f0, (rd_T32 x0_2 (ji49)).f1, (rd_T32 x0_2 (ji49)).f2, (rd_T32 x0_2 (ji49)).f3, (rd_T32 x0_2 (ji49)).f4, (rd_T32 x0_2 (ji49)).f5, (rd_T32 x0_2 (ji49)).f6, (rd_T32 x0_2 (ji49)).f7, (rd_T32 x0_2 (ji49)).f8, (rd_T32 x0_2 (ji49)).f9, (rd_T32 x0_2 (ji49)).f10, (rd_T32 x0_2 (ji49)).f11⟩ : S32) [.int .i64 ((rd_T32 x0_2 (ji49)).f0), .int .i64 ((rd_T32 x0_2 (ji49)).f1), .int .i64 ((rd_T32 x0_2 (ji49)).f2), .int .i64 ((rd_T32 x0_2 (ji49)).f3), .int .i64 ((rd_T32 x0_2 (ji49)).f4), .int .i64 ((rd_T32 x0_2 (ji49)).f5), .int .i64 ((rd_T32 x0_2 (ji49)).f6), .int .i64 ((rd_T32 x0_2 (ji49)).f7), .int .i64 ((rd_T32 x0_2 (ji49)).f8), .int .i64 ((rd_T32 x0_2 (ji49)).f9), .int .i64 ((rd_T32 x0_2 (ji49)).f10), .slice ((rd_T32 x0_2 (ji49)).f11).A ((rd_T32 x0_2 (ji49)).f11).n ((rd_T32 x0_2 (ji49)).f11).c] (by rfl) rfl rfl (by first | rfl | (go_simp; done) | (go_simp; rfl)) rfl (by first | rfl | (go_simp; done) | (go_simp; rfl)) rfl (by kernel_rfl) rfl one12 HO_0.out (of_eq_true p292) (of_eq_true q292) (k32_mkM _ _ _ (⟨(rd_T32 x0_2 (ji49)).f0, (rd_T32 x0_2 (ji49)).f1, (rd_T32 x0_2 (ji49)).f2, (rd_T32 x0_2 (ji49)).f3, (rd_T32 x0_2 (ji49)).f4, (rd_T32 x0_2 (ji49)).f5, (rd_T32 x0_2 (ji49)).f6, (rd_T32 x0_2 (ji49)).f7, (rd_T32 x0_2 (ji49)).f8, (rd_T32 x0_2 (ji49)).f9, (rd_T32 x0_2 (ji49)).f10, (rd_T32 x0_2 (ji49)).f11⟩ : S32)) (fun _ hk => hk) HB.out ?_
             intro wa hoa hba hga
             rw [← Ny293.out] at hoa
             have n0_ := Aside0.mk hoa
             have n1_ := Aside0.mk hba
             have n2_ := Aside0.mk (Kept.of_grown hga HK.out (fun k e_ => by injection e_ with e_; subst e_; exact HMgo54.out))
             clear HO_0; clear HB; clear HK; clear hoa; clear hba; clear hga
             have HO_0 := n0_
             have HB := n1_
             have HK := n2_
             clear n0_; clear n1_; clear n2_
             refine hK.out _ _ ?_
             clear hK; clear K
             refine plan_ [(16, 128)] ?_
             refine planP_ (v := ?_) (a' := ?_) rfl rfl (any_of HT_.out (by kernel_rfl)) (fun _ _ _ h => h) (Or.inl ⟨by rfl, ?_⟩) ?_ ?_; rotate_left; (intro w'; go_simp; with_reducible rfl); rotate_left; (simp only [Act.put, List.setIfInBounds_toArray, List.set_cons_zero, List.set_cons_succ, i64_w, i32_w]; rfl)
             refine planEnd_ ?_
             refine last_ (i := 17) (N := none) #[true, true, true, true, true, true, true, true, true, true, true, true, true, true, true, true, true, true] rfl rfl (one_of HT_.out (by kernel_rfl)) (by decide) (fun K hK => ?_)
             refine storeW_ k32 (w0 := w0) (g := go54) (ji49) z32 (⟨(rd_T32 x0_2 (x17_2)).f0, (rd_T32 x0_2 (x17_2)).f1, (rd_T32 x0_2 (x17_2)).f2, (rd_T32 x0_2 (x17_2)).f3, (rd_T32 x0_2 (x17_2)).f4, (rd_T32 x0_2 (x17_2)).f5, (rd_T32 x0_2 (x17_2)).f6, (rd_T32 x0_2 (x17_2)).f7, (rd_T32 x0_2 (x17_2)).f8, (rd_T32 x0_2 (x17_2)).f9, (rd_T32 x0_2 (x17_2)).f10, (rd_T32 x0_2 (x17_2)).f11⟩ : S32) [.int .i64 ((rd_T32 x0_2 (x17_2)).f0), .int .i64 ((rd_T32 x0_2 (x17_2)).f1), .int .i64 ((rd_T32 x0_2 (x17_2)).f2), .int .i64 ((rd_T32 x0_2 (x17_2)).f3), .int .i64 ((rd_T32 x0_2 (x17_2)).f4), .int .i64 ((rd_T32 x0_2 (x17_2)).f5), .int .i64 ((rd_T32 x0_2 (x17_2)).f6), .int .i64 ((rd_T32 x0_2 (x17_2)).f7), .int .i64 ((rd_T32 x0_2 (x17_2)).f8), .int .i64 ((rd_T32 x0_2 (x17_2)).f9), .int .i64 ((rd_T32 x0_2 (x17_2)).f10), .slice ((rd_T32 x0_2 (x17_2)).f11).A ((rd_T32 x0_2 (x17_2)).f11).n ((rd_T32 x0_2 (x17_2)).f11).c] (by rfl) rfl rfl (by first | rfl | (go_simp; done) | (go_simp; rfl)) rfl (by first | rfl | (go_simp; done) | (go_simp; rfl)) rfl (by kernel_rfl) rfl one12 HO_0.out (of_eq_true p291) (of_eq_true q291) (k32_mkM _ _ _ (⟨(rd_T32 x0_2 (x17_2)).f0, (rd_T32 x0_2 (x17_2)).f1, (rd_T32 x0_2 (x17_2)).f2, (rd_T32 x0_2 (x17_2)).f3, (rd_T32 x0_2 (x17_2)).f4, (rd_T32 x0_2 (x17_2)).f5, (rd_T32 x0_2 (x17_2)).f6, (rd_T32 x0_2 (x17_2)).f7, (rd_T32 x0_2 (x17_2)).f8, (rd_T32 x0_2 (x17_2)).f9, (rd_T32 x0_2 (x17_2)).f10, (rd_T32 x0_2 (x17_2)).f11⟩ : S32)) (fun _ hk => hk) HB.out ?_
             intro wb hob hbb hgb
             rw [← Ny294.out] at hob
             have n0_ := Aside0.mk hob
             have n1_ := Aside0.mk hbb
             have n2_ := Aside0.mk (Kept.of_grown hgb HK.out (fun k e_ => by injection e_ with e_; subst e_; exact HMgo54.out))
             clear HO_0; clear HB; clear HK; clear hob; clear hbb; clear hgb
             have HO_0 := n0_
             have HB := n1_
             have HK := n2_
             clear n0_; clear n1_; clear n2_
             refine hK.out _ _ ?_
             clear hK; clear K
             refine done_ (done_of HT_.out (by kernel_rfl)) ?_
             try go_wp2
             go_roundg k2
             case measure => have := HK1.out; have := HK2.out; omega
             case rel => exact ⟨(y294), (ji49), (by first | rfl | (simp; done) | (simp only [← hji49] <;> (first | rfl | simp)) | (simp [*]; done)), H', ⟨by have := HK1.out; have := HK2.out; omega⟩, ⟨mR HO_0.out⟩, ⟨by repeat (first | (with_reducible first | exact HK.out | apply Kept.alloc | apply Kept.drewN | apply Kept.drew | refine Kept.setCell ?_ HMgo54.out _ | refine Kept.setCell ?_ HMgo54.out _ | refine Kept.setCell ?_ HMgo54.out _ | refine Kept.setCell ?_ HMgo54.out _ | refine Kept.setCell ?_ HMgo54.out _ | refine Kept.setCell ?_ HMgo54.out _ | refine Kept.setCell ?_ HMgo54.out _ | refine Kept.setCell ?_ HMgo54.out _ | refine Kept.setCell ?_ HMgo54.out _ | refine Kept.setCell ?_ HMgo54.out _ | refine Kept.setCell ?_ HMgo54.out _ | refine Kept.setCell ?_ HMgo54.out _ | refine Kept.setCell ?_ HMgo54.out _ | refine Kept.setCell ?_ HMgo54.out _ | refine Kept.setCell ?_ HMgo54.out _ | refine Kept.setCell ?_ HMgo54.out _ | refine Kept.setCell ?_ HMgo54.out _ | refine Kept.setCell ?_ HMgo54.out _ | refine Kept.setCell ?_ HMgo54.out _ | refine Kept.setCell ?_ HMgo54.out _ | refine Kept.setCell ?_ HMgo54.out _ | refine Kept.setCell ?_ HMgo54.out _ | refine Kept.setCell ?_ HMgo54.out _ | refine Kept.setCell ?_ HMgo54.out _) | exact HK.out)⟩, ⟨mBs HB.out⟩⟩
            ·rw [if_neg c53] at H
             exact absurd H (by simp)
           ·rw [if_neg c52] at H
            exact absurd H (by simp)
          ·rw [if_neg c51] at H
           exact absurd H (by simp)
         ·rw [if_neg c50] at H
          exact absurd H (by simp)
        ·rw [if_neg c48] at H
         have c48b0 : decide (x14_1 < x17_2) = false := decide_eq_false c48
         clear c48
         obtain rfl := Option.some.inj H
         go_wp2
         first | go_end0 | ((try simp only [Exit.inBlock, Exit.then]); refine bodyPost_ret (results_none rfl _ _ _) rfl ?_)
         exact ⟨by first | rfl | (simp [errW_none, errW_some] <;> rfl) | (simp [*, errW_none, errW_some] <;> rfl), mR HO_0.out, by repeat (first | (with_reducible first | exact HB.out | apply below_alloc | apply pw_below_drewN | apply below_drew1) | exact HB.out), by repeat (first | (with_reducible first | exact HK.out | apply Kept.alloc | apply Kept.drewN | apply Kept.drew) | exact HK.out)⟩
  ·rw [if_neg c33] at H
   have c33b0 : ((wrap64 (a3 - a2)) == 1) = false := beq_eq_false_iff_ne.mpr c33
   have c33b1 : ((wrap64 (a3 - a2)) != 1) = true := bne_iff_ne.mpr c33
   have HC60 := Aside0.mk H
   clear H
   go_enter Try.func68, Try.ntmps68
   go_upto_if 140 with (fail)
   go_cut [18, 19, 20, 21] (fun v18 v19 v20 v21 wc => ∃ (kq : Nat) (x18_59 : Int) (x19_59 : Int) (x20_59 : Int) (x21_59 : Int), v18 = .int .i64 x18_59 ∧ v19 = .int .i64 x19_59 ∧ v20 = .int .i64 x20_59 ∧ v21 = .int .i64 x21_59 ∧ Aside0 (slices_symMergeCmpFunc_Job__job_Due_1.j4 kq l0 a1 a2 a3 x18_59 x19_59 x20_59 x21_59 = some r) ∧ Aside0 (kq ≤ k) ∧ Aside0 (Kd.R k32 32 wc w0.heap.size (fun k_ => (P0_ k_ ∨ w.heap.size ≤ k_)) u9000_ l0) ∧ Aside0 (Kept w wc (fun k_ => P0_ k_)) ∧ Aside0 (Below w0.heap.size w0 wc))
   case first =>
    have H := HC60.out
    clear HC60
    by_cases c61 : a2 > (wrap64 ((IntKind.u64.wrap (wrap64 (a1 + a3))) / 2))
    ·rw [if_pos c61] at H
     have c61b0 : decide ((wrap64 ((IntKind.u64.wrap (wrap64 (a1 + a3))) / 2)) < a2) = true := decide_eq_true c61
     clear c61
     (first | rw [c61b0] | (simp only [i64_w, i32_w]; rw [c61b0]) | skip)
     have H' := Aside0.mk H
     clear H
     go_wp2
     go_meet
     case rel => exact ⟨_, (wrap64 ((IntKind.u64.wrap (wrap64 (a1 + a3))) / 2)), (wrap64 ((wrap64 ((IntKind.u64.wrap (wrap64 (a1 + a3))) / 2)) + a2)), (wrap64 ((wrap64 ((wrap64 ((IntKind.u64.wrap (wrap64 (a1 + a3))) / 2)) + a2)) - a3)), (wrap64 ((IntKind.u64.wrap (wrap64 (a1 + a3))) / 2)), (by first | rfl | (simp; done) | (simp [*, i64_w]; done)), (by first | rfl | (simp; done) | (simp [*, i64_w]; done)), ez, ez, H', ⟨by first | omega | exact Nat.le_refl _⟩, ⟨mR HO0.out⟩, ⟨mK HK.out⟩, ⟨mB HB.out⟩⟩
    ·rw [if_neg c61] at H
     have c61b0 : decide ((wrap64 ((IntKind.u64.wrap (wrap64 (a1 + a3))) / 2)) < a2) = false := decide_eq_false c61
     clear c61
     (first | rw [c61b0] | (simp only [i64_w, i32_w]; rw [c61b0]) | skip)
     have H' := Aside0.mk H
     clear H
     go_wp2
     go_meet
     case rel => exact ⟨_, (wrap64 ((IntKind.u64.wrap (wrap64 (a1 + a3))) / 2)), (wrap64 ((wrap64 ((IntKind.u64.wrap (wrap64 (a1 + a3))) / 2)) + a2)), (a1), (a2), (by first | rfl | (simp; done) | (simp [*, i64_w]; done)), (by first | rfl | (simp; done) | (simp [*, i64_w]; done)), ez, ez, H', ⟨by first | omega | exact Nat.le_refl _⟩, ⟨mR HO0.out⟩, ⟨mK HK.out⟩, ⟨mB HB.out⟩⟩
   case rest => as_aux_lemma =>
    clear HC60
    (try clear c1); (try clear c2); (try clear p2); (try clear q2); (try clear hx2); (try clear c3); (try clear c4); (try clear c5); (try clear p5); (try clear q5); (try clear hx5); (try clear hf5); (try clear c6); (try clear c6b0); (try clear c6b1); (try clear p6); (try clear c7); (try clear c7b0); (try clear c9); (try clear c9b0); (try clear c10); (try clear c10b0); (try clear c11); (try clear c11b0); (try clear c12); (try clear c12b0); (try clear c14); (try clear c14b0); (try clear c21); (try clear c21b0); (try clear c23); (try clear c23b0); (try clear c24); (try clear c24b0); (try clear c25); (try clear c25b0); (try clear c26); (try clear c26b0); (try clear c27); (try clear p27); (try clear q27); (try clear hx27); (try clear hf27); (try clear c28); (try clear p28); (try clear q28); (try clear hx28); (try clear hf28); (try clear p29); (try clear q29); (try clear hx29); (try clear c31); (try clear c32); (try clear c33); (try clear c33b0); (try clear c33b1); (try clear c34); (try clear c34b0); (try clear c35); (try clear c35b0); (try clear c36); (try clear c36b0); (try clear c38); (try clear c38b0); (try clear c39); (try clear c39b0); (try clear c41); (try clear c41b0); (try clear c47); (try clear c48); (try clear c48b0); (try clear c50); (try clear c50b0); (try clear c51); (try clear c51b0); (try clear c52); (try clear c52b0); (try clear c53); (try clear c53b0); (try clear c54); (try clear p54); (try clear q54); (try clear hx54); (try clear hf54); (try clear c55); (try clear p55); (try clear q55); (try clear hx55); (try clear hf55); (try clear c58); (try clear c59); (try clear c61); (try clear c61b0); (try clear hx27_0); (try clear hx27_1); (try clear hx27_10); (try clear hx27_11); (try clear hx27_2); (try clear hx27_3); (try clear hx27_4); (try clear hx27_5); (try clear hx27_6); (try clear hx27_7); (try clear hx27_8); (try clear hx27_9); (try clear hx281_0); (try clear hx281_1); (try clear hx281_10); (try clear hx281_11); (try clear hx281_2); (try clear hx281_3); (try clear hx281_4); (try clear hx281_5); (try clear hx281_6); (try clear hx281_7); (try clear hx281_8); (try clear hx281_9); (try clear hx282_0); (try clear hx282_1); (try clear hx282_10); (try clear hx282_11); (try clear hx282_2); (try clear hx282_3); (try clear hx282_4); (try clear hx282_5); (try clear hx282_6); (try clear hx282_7); (try clear hx282_8); (try clear hx282_9); (try clear hx284_0); (try clear hx284_1); (try clear hx284_10); (try clear hx284_11); (try clear hx284_2); (try clear hx284_3); (try clear hx284_4); (try clear hx284_5); (try clear hx284_6); (try clear hx284_7); (try clear hx284_8); (try clear hx284_9); (try clear hx285_0); (try clear hx285_1); (try clear hx285_10); (try clear hx285_11); (try clear hx285_2); (try clear hx285_3); (try clear hx285_4); (try clear hx285_5); (try clear hx285_6); (try clear hx285_7); (try clear hx285_8); (try clear hx285_9); (try clear hx288_0); (try clear hx288_1); (try clear hx288_10); (try clear hx288_11); (try clear hx288_2); (try clear hx288_3); (try clear hx288_4); (try clear hx288_5); (try clear hx288_6); (try clear hx288_7); (try clear hx288_8); (try clear hx288_9); (try clear hx289_0); (try clear hx289_1); (try clear hx289_10); (try clear hx289_11); (try clear hx289_2); (try clear hx289_3); (try clear hx289_4); (try clear hx289_5); (try clear hx289_6); (try clear hx289_7); (try clear hx289_8); (try clear hx289_9); (try clear hx28_0); (try clear hx28_1); (try clear hx28_10); (try clear hx28_11); (try clear hx28_2); (try clear hx28_3); (try clear hx28_4); (try clear hx28_5); (try clear hx28_6); (try clear hx28_7); (try clear hx28_8); (try clear hx28_9); (try clear hx291_0); (try clear hx291_1); (try clear hx291_10); (try clear hx291_11); (try clear hx291_2); (try clear hx291_3); (try clear hx291_4); (try clear hx291_5); (try clear hx291_6); (try clear hx291_7); (try clear hx291_8); (try clear hx291_9); (try clear hx292_0); (try clear hx292_1); (try clear hx292_10); (try clear hx292_11); (try clear hx292_2); (try clear hx292_3); (try clear hx292_4); (try clear hx292_5); (try clear hx292_6); (try clear hx292_7); (try clear hx292_8); (try clear hx292_9); (try clear hx54_0); (try clear hx54_1); (try clear hx54_10); (try clear hx54_11); (try clear hx54_2); (try clear hx54_3); (try clear hx54_4); (try clear hx54_5); (try clear hx54_6); (try clear hx54_7); (try clear hx54_8); (try clear hx54_9); (try clear hx55_0); (try clear hx55_1); (try clear hx55_10); (try clear hx55_11); (try clear hx55_2); (try clear hx55_3); (try clear hx55_4); (try clear hx55_5); (try clear hx55_6); (try clear hx55_7); (try clear hx55_8); (try clear hx55_9); (try clear p2); (try clear p27); (try clear p28); (try clear p281); (try clear p282); (try clear p284); (try clear p285); (try clear p288); (try clear p289); (try clear p291); (try clear p292); (try clear p54); (try clear p55); (try clear p6); (try clear q2); (try clear q27); (try clear q28); (try clear q281); (try clear q282); (try clear q284); (try clear q285); (try clear q288); (try clear q289); (try clear q291); (try clear q292); (try clear q54); (try clear q55)
    obtain ⟨kq, x18_59, x19_59, x20_59, x21_59, rfl, rfl, rfl, rfl, HA, HJ59, HO_0, HK, HB⟩ := hcut
    cases kq with
    | zero => exact absurd HA.out (by simp [slices_symMergeCmpFunc_Job__job_Due_1.j4])
    | succ kj59 =>
     have H := HA.out
     clear HA
     simp only [slices_symMergeCmpFunc_Job__job_Due_1.j4] at H
     have H' := Aside0.mk H
     clear H
     go_wp2
     go_loopg [20, 21] kj59 (fun kq v20 v21 w' => ∃ (x20_2 : Int) (x21_2 : Int), v20 = .int .i64 x20_2 ∧ v21 = .int .i64 x21_2 ∧ Aside0 (slices_symMergeCmpFunc_Job__job_Due_1.l4 kq l0 a1 a2 a3 x18_59 x19_59 x20_2 x21_2 (wrap64 (x19_59 - 1)) = some r) ∧ Aside0 (kq ≤ kj59) ∧ Aside0 (Kd.R k32 32 w' w0.heap.size (fun k_ => (P0_ k_ ∨ w.heap.size ≤ k_)) u9000_ l0) ∧ Aside0 (Kept w w' (fun k_ => P0_ k_)) ∧ Aside0 (Below w0.heap.size w0 w'))
     case atStart => exact ⟨(x20_59), (x21_59), ez, ez, H', ⟨Nat.le_refl _⟩, ⟨mR HO_0.out⟩, ⟨mK HK.out⟩, ⟨mB HB.out⟩⟩
     case round => as_aux_lemma =>
      clear H'
      (try clear c1); (try clear c2); (try clear p2); (try clear q2); (try clear hx2); (try clear c3); (try clear c4); (try clear c5); (try clear p5); (try clear q5); (try clear hx5); (try clear hf5); (try clear c6); (try clear c6b0); (try clear c6b1); (try clear p6); (try clear c7); (try clear c7b0); (try clear c9); (try clear c9b0); (try clear c10); (try clear c10b0); (try clear c11); (try clear c11b0); (try clear c12); (try clear c12b0); (try clear c14); (try clear c14b0); (try clear c21); (try clear c21b0); (try clear c23); (try clear c23b0); (try clear c24); (try clear c24b0); (try clear c25); (try clear c25b0); (try clear c26); (try clear c26b0); (try clear c27); (try clear p27); (try clear q27); (try clear hx27); (try clear hf27); (try clear c28); (try clear p28); (try clear q28); (try clear hx28); (try clear hf28); (try clear p29); (try clear q29); (try clear hx29); (try clear c31); (try clear c32); (try clear c33); (try clear c33b0); (try clear c33b1); (try clear c34); (try clear c34b0); (try clear c35); (try clear c35b0); (try clear c36); (try clear c36b0); (try clear c38); (try clear c38b0); (try clear c39); (try clear c39b0); (try clear c41); (try clear c41b0); (try clear c47); (try clear c48); (try clear c48b0); (try clear c50); (try clear c50b0); (try clear c51); (try clear c51b0); (try clear c52); (try clear c52b0); (try clear c53); (try clear c53b0); (try clear c54); (try clear p54); (try clear q54); (try clear hx54); (try clear hf54); (try clear c55); (try clear p55); (try clear q55); (try clear hx55); (try clear hf55); (try clear c58); (try clear c59); (try clear c61); (try clear c61b0); (try clear hx27_0); (try clear hx27_1); (try clear hx27_10); (try clear hx27_11); (try clear hx27_2); (try clear hx27_3); (try clear hx27_4); (try clear hx27_5); (try clear hx27_6); (try clear hx27_7); (try clear hx27_8); (try clear hx27_9); (try clear hx281_0); (try clear hx281_1); (try clear hx281_10); (try clear hx281_11); (try clear hx281_2); (try clear hx281_3); (try clear hx281_4); (try clear hx281_5); (try clear hx281_6); (try clear hx281_7); (try clear hx281_8); (try clear hx281_9); (try clear hx282_0); (try clear hx282_1); (try clear hx282_10); (try clear hx282_11); (try clear hx282_2); (try clear hx282_3); (try clear hx282_4); (try clear hx282_5); (try clear hx282_6); (try clear hx282_7); (try clear hx282_8); (try clear hx282_9); (try clear hx284_0); (try clear hx284_1); (try clear hx284_10); (try clear hx284_11); (try clear hx284_2); (try clear hx284_3); (try clear hx284_4); (try clear hx284_5); (try clear hx284_6); (try clear hx284_7); (try clear hx284_8); (try clear hx284_9); (try clear hx285_0); (try clear hx285_1); (try clear hx285_10); (try clear hx285_11); (try clear hx285_2); (try clear hx285_3); (try clear hx285_4); (try clear hx285_5); (try clear hx285_6); (try clear hx285_7); (try clear hx285_8); (try clear hx285_9); (try clear hx288_0); (try clear hx288_1); (try clear hx288_10); (try clear hx288_11); (try clear hx288_2); (try clear hx288_3); (try clear hx288_4); (try clear hx288_5); (try clear hx288_6); (try clear hx288_7); (try clear hx288_8); (try clear hx288_9); (try clear hx289_0); (try clear hx289_1); (try clear hx289_10); (try clear hx289_11); (try clear hx289_2); (try clear hx289_3); (try clear hx289_4); (try clear hx289_5); (try clear hx289_6); (try clear hx289_7); (try clear hx289_8); (try clear hx289_9); (try clear hx28_0); (try clear hx28_1); (try clear hx28_10); (try clear hx28_11); (try clear hx28_2); (try clear hx28_3); (try clear hx28_4); (try clear hx28_5); (try clear hx28_6); (try clear hx28_7); (try clear hx28_8); (try clear hx28_9); (try clear hx291_0); (try clear hx291_1); (try clear hx291_10); (try clear hx291_11); (try clear hx291_2); (try clear hx291_3); (try clear hx291_4); (try clear hx291_5); (try clear hx291_6); (try clear hx291_7); (try clear hx291_8); (try clear hx291_9); (try clear hx292_0); (try clear hx292_1); (try clear hx292_10); (try clear hx292_11); (try clear hx292_2); (try clear hx292_3); (try clear hx292_4); (try clear hx292_5); (try clear hx292_6); (try clear hx292_7); (try clear hx292_8); (try clear hx292_9); (try clear hx54_0); (try clear hx54_1); (try clear hx54_10); (try clear hx54_11); (try clear hx54_2); (try clear hx54_3); (try clear hx54_4); (try clear hx54_5); (try clear hx54_6); (try clear hx54_7); (try clear hx54_8); (try clear hx54_9); (try clear hx55_0); (try clear hx55_1); (try clear hx55_10); (try clear hx55_11); (try clear hx55_2); (try clear hx55_3); (try clear hx55_4); (try clear hx55_5); (try clear hx55_6); (try clear hx55_7); (try clear hx55_8); (try clear hx55_9); (try clear p2); (try clear p27); (try clear p28); (try clear p281); (try clear p282); (try clear p284); (try clear p285); (try clear p288); (try clear p289); (try clear p29); (try clear p291); (try clear p292); (try clear p5); (try clear p54); (try clear p55); (try clear p6); (try clear q2); (try clear q27); (try clear q28); (try clear q281); (try clear q282); (try clear q284); (try clear q285); (try clear q288); (try clear q289); (try clear q29); (try clear q291); (try clear q292); (try clear q5); (try clear q54); (try clear q55)
      obtain ⟨x20_2, x21_2, rfl, rfl, HA, HK2, HO_0, HK, HB⟩ := hrel
      cases gk with
      | zero => exact absurd HA.out (by simp [slices_symMergeCmpFunc_Job__job_Due_1.l4])
      | succ k2 =>
       have H := HA.out
       clear HA
       simp only [slices_symMergeCmpFunc_Job__job_Due_1.l4] at H
       by_cases c62 : x20_2 < x21_2
       ·rw [if_pos c62] at H
        have c62b0 : decide (x20_2 < x21_2) = true := decide_eq_true c62
        clear c62
        obtain ⟨ji63, hji63⟩ : ∃ j_ : Int, (wrap64 ((wrap64 (x19_59 - 1)) - (wrap64 ((IntKind.u64.wrap (wrap64 (x20_2 + x21_2))) / 2)))) = j_ := ⟨_, rfl⟩
        replace H : (if 0 ≤ (ji63) then (if (ji63) < (l0.length : Int) then (if 0 ≤ (wrap64 ((IntKind.u64.wrap (wrap64 (x20_2 + x21_2))) / 2)) then (if (wrap64 ((IntKind.u64.wrap (wrap64 (x20_2 + x21_2))) / 2)) < (l0.length : Int) then ((job_Due_1.f ((rd_T32 l0 (ji63)).f0) ((rd_T32 l0 (ji63)).f1) ((rd_T32 l0 (ji63)).f2) ((rd_T32 l0 (ji63)).f3) ((rd_T32 l0 (ji63)).f4) ((rd_T32 l0 (ji63)).f5) ((rd_T32 l0 (ji63)).f6) ((rd_T32 l0 (ji63)).f7) ((rd_T32 l0 (ji63)).f8) ((rd_T32 l0 (ji63)).f9) ((rd_T32 l0 (ji63)).f10) ((rd_T32 l0 (ji63)).f11) ((rd_T32 l0 (wrap64 ((IntKind.u64.wrap (wrap64 (x20_2 + x21_2))) / 2))).f0) ((rd_T32 l0 (wrap64 ((IntKind.u64.wrap (wrap64 (x20_2 + x21_2))) / 2))).f1) ((rd_T32 l0 (wrap64 ((IntKind.u64.wrap (wrap64 (x20_2 + x21_2))) / 2))).f2) ((rd_T32 l0 (wrap64 ((IntKind.u64.wrap (wrap64 (x20_2 + x21_2))) / 2))).f3) ((rd_T32 l0 (wrap64 ((IntKind.u64.wrap (wrap64 (x20_2 + x21_2))) / 2))).f4) ((rd_T32 l0 (wrap64 ((IntKind.u64.wrap (wrap64 (x20_2 + x21_2))) / 2))).f5) ((rd_T32 l0 (wrap64 ((IntKind.u64.wrap (wrap64 (x20_2 + x21_2))) / 2))).f6) ((rd_T32 l0 (wrap64 ((IntKind.u64.wrap (wrap64 (x20_2 + x21_2))) / 2))).f7) ((rd_T32 l0 (wrap64 ((IntKind.u64.wrap (wrap64 (x20_2 + x21_2))) / 2))).f8) ((rd_T32 l0 (wrap64 ((IntKind.u64.wrap (wrap64 (x20_2 + x21_2))) / 2))).f9) ((rd_T32 l0 (wrap64 ((IntKind.u64.wrap (wrap64 (x20_2 + x21_2))) / 2))).f10) ((rd_T32 l0 (wrap64 ((IntKind.u64.wrap (wrap64 (x20_2 + x21_2))) / 2))).f11)).bind fun t297 => (if t297 < 0 then (slices_symMergeCmpFunc_Job__job_Due_1.l4 k2 l0 a1 a2 a3 x18_59 x19_59 x20_2 (wrap64 ((IntKind.u64.wrap (wrap64 (x20_2 + x21_2))) / 2)) (wrap64 (x19_59 - 1))) else (slices_symMergeCmpFunc_Job__job_Due_1.l4 k2 l0 a1 a2 a3 x18_59 x19_59 (wrap64 ((wrap64 ((IntKind.u64.wrap (wrap64 (x20_2 + x21_2))) / 2)) + 1)) x21_2 (wrap64 (x19_59 - 1))))) else (none)) else (none)) else (none)) else (none)) = some r := by first | (rw [hji63] at H; exact H) | (simp only [hji63] at H ⊢; exact H)
        have hji63w : (IntKind.i64.wrap ((wrap64 (x19_59 - 1)) - (wrap64 ((IntKind.u64.wrap (wrap64 (x20_2 + x21_2))) / 2)))) = ji63 := (i64_w _).trans hji63
        by_cases c64 : 0 ≤ (ji63)
        ·rw [if_pos c64] at H
         have c64b0 : decide (0 ≤ (ji63)) = true := decide_eq_true c64
         clear c64
         by_cases c65 : (ji63) < (l0.length : Int)
         ·rw [if_pos c65] at H
          have c65b0 : decide ((ji63) < (l0.length : Int)) = true := decide_eq_true c65
          clear c65
          obtain ⟨ji66, hji66⟩ : ∃ j_ : Int, (wrap64 ((IntKind.u64.wrap (wrap64 (x20_2 + x21_2))) / 2)) = j_ := ⟨_, rfl⟩
          replace H : (if 0 ≤ (ji66) then (if (ji66) < (l0.length : Int) then ((job_Due_1.f ((rd_T32 l0 (ji63)).f0) ((rd_T32 l0 (ji63)).f1) ((rd_T32 l0 (ji63)).f2) ((rd_T32 l0 (ji63)).f3) ((rd_T32 l0 (ji63)).f4) ((rd_T32 l0 (ji63)).f5) ((rd_T32 l0 (ji63)).f6) ((rd_T32 l0 (ji63)).f7) ((rd_T32 l0 (ji63)).f8) ((rd_T32 l0 (ji63)).f9) ((rd_T32 l0 (ji63)).f10) ((rd_T32 l0 (ji63)).f11) ((rd_T32 l0 (ji66)).f0) ((rd_T32 l0 (ji66)).f1) ((rd_T32 l0 (ji66)).f2) ((rd_T32 l0 (ji66)).f3) ((rd_T32 l0 (ji66)).f4) ((rd_T32 l0 (ji66)).f5) ((rd_T32 l0 (ji66)).f6) ((rd_T32 l0 (ji66)).f7) ((rd_T32 l0 (ji66)).f8) ((rd_T32 l0 (ji66)).f9) ((rd_T32 l0 (ji66)).f10) ((rd_T32 l0 (ji66)).f11)).bind fun t297 => (if t297 < 0 then (slices_symMergeCmpFunc_Job__job_Due_1.l4 k2 l0 a1 a2 a3 x18_59 x19_59 x20_2 ji66 (wrap64 (x19_59 - 1))) else (slices_symMergeCmpFunc_Job__job_Due_1.l4 k2 l0 a1 a2 a3 x18_59 x19_59 (wrap64 ((ji66) + 1)) x21_2 (wrap64 (x19_59 - 1))))) else (none)) else (none)) = some r := by first | (rw [hji66] at H; exact H) | (simp only [hji66] at H ⊢; exact H)
          have hji66w : (IntKind.i64.wrap ((IntKind.u64.wrap (wrap64 (x20_2 + x21_2))) / 2)) = ji66 := (i64_w _).trans hji66
          (try simp only [hji66] at hji63)
          (try simp only [hji66w] at hji63w)
          by_cases c67 : 0 ≤ (ji66)
          ·rw [if_pos c67] at H
           have c67b0 : decide (0 ≤ (ji66)) = true := decide_eq_true c67
           clear c67
           by_cases c68 : (ji66) < (l0.length : Int)
           ·rw [if_pos c68] at H
            have c68b0 : decide ((ji66) < (l0.length : Int)) = true := decide_eq_true c68
            clear c68
            replace H := Option.bind_eq_some_iff.mp H
            obtain ⟨t297, A690, H⟩ := H
            replace H : (if t297 < 0 then (slices_symMergeCmpFunc_Job__job_Due_1.l4 k2 l0 a1 a2 a3 x18_59 x19_59 x20_2 ji66 (wrap64 (x19_59 - 1))) else (slices_symMergeCmpFunc_Job__job_Due_1.l4 k2 l0 a1 a2 a3 x18_59 x19_59 (wrap64 ((ji66) + 1)) x21_2 (wrap64 (x19_59 - 1)))) = some r := H
            have A69 := Aside0.mk A690
            clear A690
            by_cases c70 : t297 < 0
            ·as_aux_lemma =>
             rw [if_pos c70] at H
             have c70b0 : decide (t297 < 0) = true := decide_eq_true c70
             clear c70
             have H' := Aside0.mk H
             clear H
             try go_wp2
             have n0_ := Aside0.mk (Kd.R_drew HO_0.out)
             have n1_ := Aside0.mk (Kept.drew HK.out)
             have n2_ := Aside0.mk (below_drew1 HB.out)
             clear HO_0; clear HK; clear HB
             have HO_0 := n0_
             have HK := n1_
             have HB := n2_
             clear n0_; clear n1_; clear n2_
             obtain ⟨Ao72, co72, eo72⟩ := Kd.R_slice HO_0.out
             (first | subst eo72 | (injection eo72 with f1_ f2_ f3_; have f4_ := f1_.symm; have f5_ := f3_.symm; clear f1_ f2_ f3_; subst f4_; subst f5_))
             have p295 : 0 ≤ ((ji63) : Int) := oda
             have q295 : (ji63) < (l0.length : Int) := oda
             obtain ⟨ad295, e295, hx295_0, hx295_1, hx295_2, hx295_3, hx295_4, hx295_5, hx295_6, hx295_7, hx295_8, hx295_9, hx295_10, hx295_11⟩ := at_T32 (Kd.R_reads' HO_0.out).2.2 (ji63) p295 q295
             cases e295
             replace p295 := eq_true p295
             replace q295 := eq_true q295
             have p296 : 0 ≤ ((ji66) : Int) := oda
             have q296 : (ji66) < (l0.length : Int) := oda
             obtain ⟨ad296, e296, hx296_0, hx296_1, hx296_2, hx296_3, hx296_4, hx296_5, hx296_6, hx296_7, hx296_8, hx296_9, hx296_10, hx296_11⟩ := at_T32 (Kd.R_reads' HO_0.out).2.2 (ji66) p296 q296
             obtain rfl : ad295 = ad296 := (by injection e296)
             replace p296 := eq_true p296
             replace q296 := eq_true q296
             refine start_ (n := 14) (S := fun w' => w'.cell? (ad295.add (((ji63)).toNat * 12)) = some (.int .i64 ((rd_T32 l0 (ji63)).f0)) ∧ w'.cell? ⟨(ad295.add (((ji63)).toNat * 12)).block, (ad295.add (((ji63)).toNat * 12)).off + 1, none⟩ = some (.int .i64 ((rd_T32 l0 (ji63)).f1)) ∧ w'.cell? ⟨(ad295.add (((ji63)).toNat * 12)).block, (ad295.add (((ji63)).toNat * 12)).off + 2, none⟩ = some (.int .i64 ((rd_T32 l0 (ji63)).f2)) ∧ w'.cell? ⟨(ad295.add (((ji63)).toNat * 12)).block, (ad295.add (((ji63)).toNat * 12)).off + 3, none⟩ = some (.int .i64 ((rd_T32 l0 (ji63)).f3)) ∧ w'.cell? ⟨(ad295.add (((ji63)).toNat * 12)).block, (ad295.add (((ji63)).toNat * 12)).off + 4, none⟩ = some (.int .i64 ((rd_T32 l0 (ji63)).f4)) ∧ w'.cell? ⟨(ad295.add (((ji63)).toNat * 12)).block, (ad295.add (((ji63)).toNat * 12)).off + 5, none⟩ = some (.int .i64 ((rd_T32 l0 (ji63)).f5)) ∧ w'.cell? ⟨(ad295.add (((ji63)).toNat * 12)).block, (ad295.add (((ji63)).toNat * 12)).off + 6, none⟩ = some (.int .i64 ((rd_T32 l0 (ji63)).f6)) ∧ w'.cell? ⟨(ad295.add (((ji63)).toNat * 12)).block, (ad295.add (((ji63)).toNat * 12)).off + 7, none⟩ = some (.int .i64 ((rd_T32 l0 (ji63)).f7)) ∧ w'.cell? ⟨(ad295.add (((ji63)).toNat * 12)).block, (ad295.add (((ji63)).toNat * 12)).off + 8, none⟩ = some (.int .i64 ((rd_T32 l0 (ji63)).f8)) ∧ w'.cell? ⟨(ad295.add (((ji63)).toNat * 12)).block, (ad295.add (((ji63)).toNat * 12)).off + 9, none⟩ = some (.int .i64 ((rd_T32 l0 (ji63)).f9)) ∧ w'.cell? ⟨(ad295.add (((ji63)).toNat * 12)).block, (ad295.add (((ji63)).toNat * 12)).off + 10, none⟩ = some (.int .i64 ((rd_T32 l0 (ji63)).f10)) ∧ w'.cell? ⟨(ad295.add (((ji63)).toNat * 12)).block, (ad295.add (((ji63)).toNat * 12)).off + 11, none⟩ = some (.slice ((rd_T32 l0 (ji63)).f11).A ((rd_T32 l0 (ji63)).f11).n ((rd_T32 l0 (ji63)).f11).c) ∧ w'.cell? (ad295.add (((ji66)).toNat * 12)) = some (.int .i64 ((rd_T32 l0 (ji66)).f0)) ∧ w'.cell? ⟨(ad295.add (((ji66)).toNat * 12)).block, (ad295.add (((ji66)).toNat * 12)).off + 1, none⟩ = some (.int .i64 ((rd_T32 l0 (ji66)).f1)) ∧ w'.cell? ⟨(ad295.add (((ji66)).toNat * 12)).block, (ad295.add (((ji66)).toNat * 12)).off + 2, none⟩ = some (.int .i64 ((rd_T32 l0 (ji66)).f2)) ∧ w'.cell? ⟨(ad295.add (((ji66)).toNat * 12)).block, (ad295.add (((ji66)).toNat * 12)).off + 3, none⟩ = some (.int .i64 ((rd_T32 l0 (ji66)).f3)) ∧ w'.cell? ⟨(ad295.add (((ji66)).toNat * 12)).block, (ad295.add (((ji66)).toNat * 12)).off + 4, none⟩ = some (.int .i64 ((rd_T32 l0 (ji66)).f4)) ∧ w'.cell? ⟨(ad295.add (((ji66)).toNat * 12)).block, (ad295.add (((ji66)).toNat * 12)).off + 5, none⟩ = some (.int .i64 ((rd_T32 l0 (ji66)).f5)) ∧ w'.cell? ⟨(ad295.add (((ji66)).toNat * 12)).block, (ad295.add (((ji66)).toNat * 12)).off + 6, none⟩ = some (.int .i64 ((rd_T32 l0 (ji66)).f6)) ∧ w'.cell? ⟨(ad295.add (((ji66)).toNat * 12)).block, (ad295.add (((ji66)).toNat * 12)).off + 7, none⟩ = some (.int .i64 ((rd_T32 l0 (ji66)).f7)) ∧ w'.cell? ⟨(ad295.add (((ji66)).toNat * 12)).block, (ad295.add (((ji66)).toNat * 12)).off + 8, none⟩ = some (.int .i64 ((rd_T32 l0 (ji66)).f8)) ∧ w'.cell? ⟨(ad295.add (((ji66)).toNat * 12)).block, (ad295.add (((ji66)).toNat * 12)).off + 9, none⟩ = some (.int .i64 ((rd_T32 l0 (ji66)).f9)) ∧ w'.cell? ⟨(ad295.add (((ji66)).toNat * 12)).block, (ad295.add (((ji66)).toNat * 12)).off + 10, none⟩ = some (.int .i64 ((rd_T32 l0 (ji66)).f10)) ∧ w'.cell? ⟨(ad295.add (((ji66)).toNat * 12)).block, (ad295.add (((ji66)).toNat * 12)).off + 11, none⟩ = some (.slice ((rd_T32 l0 (ji66)).f11).A ((rd_T32 l0 (ji66)).f11).n ((rd_T32 l0 (ji66)).f11).c)) (ds := []) #[false, false, false, false, false, false, false, false, false, false, false, false, false, false] (by kernel_rfl) rfl rfl ⟨hx295_0, hx295_1, hx295_2, hx295_3, hx295_4, hx295_5, hx295_6, hx295_7, hx295_8, hx295_9, hx295_10, hx295_11, hx296_0, hx296_1, hx296_2, hx296_3, hx296_4, hx296_5, hx296_6, hx296_7, hx296_8, hx296_9, hx296_10, hx296_11⟩ (fun hHeld => ?_); refine with_tabW slices_symMergeCmpFunc_Job__job_Due_1.tab35 slices_symMergeCmpFunc_Job__job_Due_1.bits35 (fun HT_ HW_ => ?_)
             generalize wr.drew = w71 at HO_0 HK HB hx295_0 hx295_1 hx295_10 hx295_11 hx295_2 hx295_3 hx295_4 hx295_5 hx295_6 hx295_7 hx295_8 hx295_9 hx296_0 hx296_1 hx296_10 hx296_11 hx296_2 hx296_3 hx296_4 hx296_5 hx296_6 hx296_7 hx296_8 hx296_9 hHeld ⊢
             refine plan_ [(0, 158), (1, 159), (2, 160), (3, 161), (4, 162), (5, 163), (7, 165), (8, 166), (9, 167)] ?_
             iterate 9 (refine planP_ (v := ?_) (a' := ?_) rfl rfl (any_of HT_.out (by kernel_rfl)) (fun _ _ _ h => h) (Or.inl ⟨by rfl, ?_⟩) ?_ ?_; rotate_left; (intro w'; go_simp; with_reducible rfl); rotate_left; (simp only [Act.put, List.setIfInBounds_toArray, List.set_cons_zero, List.set_cons_succ, i64_w, i32_w]; rfl))
             refine planEnd_ ?_
             refine plan_ [(6, 164), (10, 168)] ?_
             iterate 2 (refine planT_ (v := ?_) (a' := ?_) rfl rfl (take_ofW HT_.out HW_.out (by kernel_rfl)) (fun _ _ _ h => h) (Or.inl ⟨by rfl, ?_⟩) hHeld ?_ ?_; rotate_left; (rintro w' ⟨s0, s1, s2, s3, s4, s5, s6, s7, s8, s9, s10, s11, s12, s13, s14, s15, s16, s17, s18, s19, s20, s21, s22, s23⟩; go_simp; with_reducible rfl); rotate_left; (simp only [Act.put, List.setIfInBounds_toArray, List.set_cons_zero, List.set_cons_succ, i64_w, i32_w]; rfl))
             refine planEnd_ ?_
             refine one_ (i := 11) (N := some 169) #[true, true, true, true, true, true, true, true, true, true, true, true, false, false] rfl rfl (one_of HT_.out (by kernel_rfl)) (by decide) (fun K hK => ?_)
             refine goesV_ Try.func47 (by kernel_rfl) rfl #[.agg #[.int .i64 ((rd_T32 l0 (ji63)).f0), .int .i64 ((rd_T32 l0 (ji63)).f1), .int .i64 ((rd_T32 l0 (ji63)).f2), .int .i64 ((rd_T32 l0 (ji63)).f3), .int .i64 ((rd_T32 l0 (ji63)).f4), .int .i64 ((rd_T32 l0 (ji63)).f5), .int .i64 ((rd_T32 l0 (ji63)).f6), .int .i64 ((rd_T32 l0 (ji63)).f7), .int .i64 ((rd_T32 l0 (ji63)).f8), .int .i64 ((rd_T32 l0 (ji63)).f9), .int .i64 ((rd_T32 l0 (ji63)).f10), .slice ((rd_T32 l0 (ji63)).f11).A ((rd_T32 l0 (ji63)).f11).n ((rd_T32 l0 (ji63)).f11).c], .agg #[.int .i64 ((rd_T32 l0 (ji66)).f0), .int .i64 ((rd_T32 l0 (ji66)).f1), .int .i64 ((rd_T32 l0 (ji66)).f2), .int .i64 ((rd_T32 l0 (ji66)).f3), .int .i64 ((rd_T32 l0 (ji66)).f4), .int .i64 ((rd_T32 l0 (ji66)).f5), .int .i64 ((rd_T32 l0 (ji66)).f6), .int .i64 ((rd_T32 l0 (ji66)).f7), .int .i64 ((rd_T32 l0 (ji66)).f8), .int .i64 ((rd_T32 l0 (ji66)).f9), .int .i64 ((rd_T32 l0 (ji66)).f10), .slice ((rd_T32 l0 (ji66)).f11).A ((rd_T32 l0 (ji66)).f11).n ((rd_T32 l0 (ji66)).f11).c]] (by rfl) rfl rfl (by (try simp only [List.map_toArray, List.map_cons, List.map_nil]); first | done | (simp only [hji63, hji66]; rfl) | rfl | (simp only [List.length_drop, List.length_take]; rfl)) rfl ?_
             with_reducible refine (job_Due_1.calls ((rd_T32 l0 (ji63)).f0) ((rd_T32 l0 (ji63)).f1) ((rd_T32 l0 (ji63)).f2) ((rd_T32 l0 (ji63)).f3) ((rd_T32 l0 (ji63)).f4) ((rd_T32 l0 (ji63)).f5) ((rd_T32 l0 (ji63)).f6) ((rd_T32 l0 (ji63)).f7) ((rd_T32 l0 (ji63)).f8) ((rd_T32 l0 (ji63)).f9) ((rd_T32 l0 (ji63)).f10) ((rd_T32 l0 (ji63)).f11) ((rd_T32 l0 (ji66)).f0) ((rd_T32 l0 (ji66)).f1) ((rd_T32 l0 (ji66)).f2) ((rd_T32 l0 (ji66)).f3) ((rd_T32 l0 (ji66)).f4) ((rd_T32 l0 (ji66)).f5) ((rd_T32 l0 (ji66)).f6) ((rd_T32 l0 (ji66)).f7) ((rd_T32 l0 (ji66)).f8) ((rd_T32 l0 (ji66)).f9) ((rd_T32 l0 (ji66)).f10) ((rd_T32 l0 (ji66)).f11) t297 _ A69.out).mono ?_
             rintro e w73 ⟨rfl, hb⟩
             have HS0_ := (hb.cell (World.block_lt_of_cell? _ _ (hHeld.1))).trans (hHeld.1)
             have HS1_ := (hb.cell (World.block_lt_of_cell? _ _ (hHeld.2.1))).trans (hHeld.2.1)
             have HS2_ := (hb.cell (World.block_lt_of_cell? _ _ (hHeld.2.2.1))).trans (hHeld.2.2.1)
             have HS3_ := (hb.cell (World.block_lt_of_cell? _ _ (hHeld.2.2.2.1))).trans (hHeld.2.2.2.1)
             have HS4_ := (hb.cell (World.block_lt_of_cell? _ _ (hHeld.2.2.2.2.1))).trans (hHeld.2.2.2.2.1)
             have HS5_ := (hb.cell (World.block_lt_of_cell? _ _ (hHeld.2.2.2.2.2.1))).trans (hHeld.2.2.2.2.2.1)
             have HS6_ := (hb.cell (World.block_lt_of_cell? _ _ (hHeld.2.2.2.2.2.2.1))).trans (hHeld.2.2.2.2.2.2.1)
             have HS7_ := (hb.cell (World.block_lt_of_cell? _ _ (hHeld.2.2.2.2.2.2.2.1))).trans (hHeld.2.2.2.2.2.2.2.1)
             have HS8_ := (hb.cell (World.block_lt_of_cell? _ _ (hHeld.2.2.2.2.2.2.2.2.1))).trans (hHeld.2.2.2.2.2.2.2.2.1)
             have HS9_ := (hb.cell (World.block_lt_of_cell? _ _ (hHeld.2.2.2.2.2.2.2.2.2.1))).trans (hHeld.2.2.2.2.2.2.2.2.2.1)
             have HS10_ := (hb.cell (World.block_lt_of_cell? _ _ (hHeld.2.2.2.2.2.2.2.2.2.2.1))).trans (hHeld.2.2.2.2.2.2.2.2.2.2.1)
             have HS11_ := (hb.cell (World.block_lt_of_cell? _ _ (hHeld.2.2.2.2.2.2.2.2.2.2.2.1))).trans (hHeld.2.2.2.2.2.2.2.2.2.2.2.1)
             have HS12_ := (hb.cell (World.block_lt_of_cell? _ _ (hHeld.2.2.2.2.2.2.2.2.2.2.2.2.1))).trans (hHeld.2.2.2.2.2.2.2.2.2.2.2.2.1)
             have HS13_ := (hb.cell (World.block_lt_of_cell? _ _ (hHeld.2.2.2.2.2.2.2.2.2.2.2.2.2.1))).trans (hHeld.2.2.2.2.2.2.2.2.2.2.2.2.2.1)
             have HS14_ := (hb.cell (World.block_lt_of_cell? _ _ (hHeld.2.2.2.2.2.2.2.2.2.2.2.2.2.2.1))).trans (hHeld.2.2.2.2.2.2.2.2.2.2.2.2.2.2.1)
             have HS15_ := (hb.cell (World.block_lt_of_cell? _ _ (hHeld.2.2.2.2.2.2.2.2.2.2.2.2.2.2.2.1))).trans (hHeld.2.2.2.2.2.2.2.2.2.2.2.2.2.2.2.1)
             have HS16_ := (hb.cell (World.block_lt_of_cell? _ _ (hHeld.2.2.2.2.2.2.2.2.2.2.2.2.2.2.2.2.1))).trans (hHeld.2.2.2.2.2.2.2.2.2.2.2.2.2.2.2.2.1)
             have HS17_ := (hb.cell (World.block_lt_of_cell? _ _ (hHeld.2.2.2.2.2.2.2.2.2.2.2.2.2.2.2.2.2.1))).trans (hHeld.2.2.2.2.2.2.2.2.2.2.2.2.2.2.2.2.2.1)
             have HS18_ := (hb.cell (World.block_lt_of_cell? _ _ (hHeld.2.2.2.2.2.2.2.2.2.2.2.2.2.2.2.2.2.2.1))).trans (hHeld.2.2.2.2.2.2.2.2.2.2.2.2.2.2.2.2.2.2.1)
             have HS19_ := (hb.cell (World.block_lt_of_cell? _ _ (hHeld.2.2.2.2.2.2.2.2.2.2.2.2.2.2.2.2.2.2.2.1))).trans (hHeld.2.2.2.2.2.2.2.2.2.2.2.2.2.2.2.2.2.2.2.1)
             have HS20_ := (hb.cell (World.block_lt_of_cell? _ _ (hHeld.2.2.2.2.2.2.2.2.2.2.2.2.2.2.2.2.2.2.2.2.1))).trans (hHeld.2.2.2.2.2.2.2.2.2.2.2.2.2.2.2.2.2.2.2.2.1)
             have HS21_ := (hb.cell (World.block_lt_of_cell? _ _ (hHeld.2.2.2.2.2.2.2.2.2.2.2.2.2.2.2.2.2.2.2.2.2.1))).trans (hHeld.2.2.2.2.2.2.2.2.2.2.2.2.2.2.2.2.2.2.2.2.2.1)
             have HS22_ := (hb.cell (World.block_lt_of_cell? _ _ (hHeld.2.2.2.2.2.2.2.2.2.2.2.2.2.2.2.2.2.2.2.2.2.2.1))).trans (hHeld.2.2.2.2.2.2.2.2.2.2.2.2.2.2.2.2.2.2.2.2.2.2.1)
             have HS23_ := (hb.cell (World.block_lt_of_cell? _ _ (hHeld.2.2.2.2.2.2.2.2.2.2.2.2.2.2.2.2.2.2.2.2.2.2.2))).trans (hHeld.2.2.2.2.2.2.2.2.2.2.2.2.2.2.2.2.2.2.2.2.2.2.2)
             refine ⟨_, rfl, ?_⟩
             have n0_ := Aside0.mk (Kd.R_below (mR HO_0.out) hb)
             have n1_ := Aside0.mk (Kept.below (S := (fun k_ => P0_ k_)) (mK HK.out) hb)
             have n2_ := Aside0.mk (below_step (mB HB.out) hb)
             clear HO_0; clear HK; clear HB
             have HO_0 := n0_
             have HK := n1_
             have HB := n2_
             clear n0_; clear n1_; clear n2_
             (try clear hb); (try clear hb2); (try clear hk); (try clear hi)
             refine hK.out _ _ ⟨HS0_, HS1_, HS2_, HS3_, HS4_, HS5_, HS6_, HS7_, HS8_, HS9_, HS10_, HS11_, HS12_, HS13_, HS14_, HS15_, HS16_, HS17_, HS18_, HS19_, HS20_, HS21_, HS22_, HS23_⟩ (fun hHeld => ?_)
             clear hK; clear K
             refine norm_ (a' := ?_) ?_ ?_
             rotate_left
             ·show Act.put _ (some 169) _ = _
              simp only [Act.put, List.setIfInBounds_toArray, List.set_cons_zero, List.set_cons_succ, i64_w, i32_w]
              rfl
             refine plan_ [(12, 170), (13, 171)] ?_
             iterate 2 (refine planP_ (v := ?_) (a' := ?_) rfl rfl (any_of HT_.out (by kernel_rfl)) (fun _ _ _ h => h) (Or.inl ⟨by rfl, ?_⟩) ?_ ?_; rotate_left; (intro w'; go_simp; with_reducible rfl); rotate_left; (simp only [Act.put, List.setIfInBounds_toArray, List.set_cons_zero, List.set_cons_succ, i64_w, i32_w]; rfl))
             refine planEnd_ ?_
             refine done_ (done_of HT_.out (by kernel_rfl)) ?_
             try go_wp2
             go_roundg k2
             case measure => have := HJ59.out; have := HK2.out; omega
             case rel => exact ⟨(x20_2), (ji66), ez, (by first | rfl | (simp; done) | (simp only [← hji66] <;> (first | rfl | simp)) | (simp [*]; done)), H', ⟨by have := HJ59.out; have := HK2.out; omega⟩, ⟨mR HO_0.out⟩, ⟨mK HK.out⟩, ⟨mB HB.out⟩⟩
            ·as_aux_lemma =>
             rw [if_neg c70] at H
             have c70b0 : decide (t297 < 0) = false := decide_eq_false c70
             clear c70
             have H' := Aside0.mk H
             clear H
             try go_wp2
             have n0_ := Aside0.mk (Kd.R_drew HO_0.out)
             have n1_ := Aside0.mk (Kept.drew HK.out)
             have n2_ := Aside0.mk (below_drew1 HB.out)
             clear HO_0; clear HK; clear HB
             have HO_0 := n0_
             have HK := n1_
             have HB := n2_
             clear n0_; clear n1_; clear n2_
             obtain ⟨Ao75, co75, eo75⟩ := Kd.R_slice HO_0.out
             (first | subst eo75 | (injection eo75 with f1_ f2_ f3_; have f4_ := f1_.symm; have f5_ := f3_.symm; clear f1_ f2_ f3_; subst f4_; subst f5_))
             have p295 : 0 ≤ ((ji63) : Int) := oda
             have q295 : (ji63) < (l0.length : Int) := oda
             obtain ⟨ad295, e295, hx295_0, hx295_1, hx295_2, hx295_3, hx295_4, hx295_5, hx295_6, hx295_7, hx295_8, hx295_9, hx295_10, hx295_11⟩ := at_T32 (Kd.R_reads' HO_0.out).2.2 (ji63) p295 q295
             cases e295
             replace p295 := eq_true p295
             replace q295 := eq_true q295
             have p296 : 0 ≤ ((ji66) : Int) := oda
             have q296 : (ji66) < (l0.length : Int) := oda
             obtain ⟨ad296, e296, hx296_0, hx296_1, hx296_2, hx296_3, hx296_4, hx296_5, hx296_6, hx296_7, hx296_8, hx296_9, hx296_10, hx296_11⟩ := at_T32 (Kd.R_reads' HO_0.out).2.2 (ji66) p296 q296
             obtain rfl : ad295 = ad296 := (by injection e296)
             replace p296 := eq_true p296
             replace q296 := eq_true q296
             refine start_ (n := 14) (S := fun w' => w'.cell? (ad295.add (((ji63)).toNat * 12)) = some (.int .i64 ((rd_T32 l0 (ji63)).f0)) ∧ w'.cell? ⟨(ad295.add (((ji63)).toNat * 12)).block, (ad295.add (((ji63)).toNat * 12)).off + 1, none⟩ = some (.int .i64 ((rd_T32 l0 (ji63)).f1)) ∧ w'.cell? ⟨(ad295.add (((ji63)).toNat * 12)).block, (ad295.add (((ji63)).toNat * 12)).off + 2, none⟩ = some (.int .i64 ((rd_T32 l0 (ji63)).f2)) ∧ w'.cell? ⟨(ad295.add (((ji63)).toNat * 12)).block, (ad295.add (((ji63)).toNat * 12)).off + 3, none⟩ = some (.int .i64 ((rd_T32 l0 (ji63)).f3)) ∧ w'.cell? ⟨(ad295.add (((ji63)).toNat * 12)).block, (ad295.add (((ji63)).toNat * 12)).off + 4, none⟩ = some (.int .i64 ((rd_T32 l0 (ji63)).f4)) ∧ w'.cell? ⟨(ad295.add (((ji63)).toNat * 12)).block, (ad295.add (((ji63)).toNat * 12)).off + 5, none⟩ = some (.int .i64 ((rd_T32 l0 (ji63)).f5)) ∧ w'.cell? ⟨(ad295.add (((ji63)).toNat * 12)).block, (ad295.add (((ji63)).toNat * 12)).off + 6, none⟩ = some (.int .i64 ((rd_T32 l0 (ji63)).f6)) ∧ w'.cell? ⟨(ad295.add (((ji63)).toNat * 12)).block, (ad295.add (((ji63)).toNat * 12)).off + 7, none⟩ = some (.int .i64 ((rd_T32 l0 (ji63)).f7)) ∧ w'.cell? ⟨(ad295.add (((ji63)).toNat * 12)).block, (ad295.add (((ji63)).toNat * 12)).off + 8, none⟩ = some (.int .i64 ((rd_T32 l0 (ji63)).f8)) ∧ w'.cell? ⟨(ad295.add (((ji63)).toNat * 12)).block, (ad295.add (((ji63)).toNat * 12)).off + 9, none⟩ = some (.int .i64 ((rd_T32 l0 (ji63)).f9)) ∧ w'.cell? ⟨(ad295.add (((ji63)).toNat * 12)).block, (ad295.add (((ji63)).toNat * 12)).off + 10, none⟩ = some (.int .i64 ((rd_T32 l0 (ji63)).f10)) ∧ w'.cell? ⟨(ad295.add (((ji63)).toNat * 12)).block, (ad295.add (((ji63)).toNat * 12)).off + 11, none⟩ = some (.slice ((rd_T32 l0 (ji63)).f11).A ((rd_T32 l0 (ji63)).f11).n ((rd_T32 l0 (ji63)).f11).c) ∧ w'.cell? (ad295.add (((ji66)).toNat * 12)) = some (.int .i64 ((rd_T32 l0 (ji66)).f0)) ∧ w'.cell? ⟨(ad295.add (((ji66)).toNat * 12)).block, (ad295.add (((ji66)).toNat * 12)).off + 1, none⟩ = some (.int .i64 ((rd_T32 l0 (ji66)).f1)) ∧ w'.cell? ⟨(ad295.add (((ji66)).toNat * 12)).block, (ad295.add (((ji66)).toNat * 12)).off + 2, none⟩ = some (.int .i64 ((rd_T32 l0 (ji66)).f2)) ∧ w'.cell? ⟨(ad295.add (((ji66)).toNat * 12)).block, (ad295.add (((ji66)).toNat * 12)).off + 3, none⟩ = some (.int .i64 ((rd_T32 l0 (ji66)).f3)) ∧ w'.cell? ⟨(ad295.add (((ji66)).toNat * 12)).block, (ad295.add (((ji66)).toNat * 12)).off + 4, none⟩ = some (.int .i64 ((rd_T32 l0 (ji66)).f4)) ∧ w'.cell? ⟨(ad295.add (((ji66)).toNat * 12)).block, (ad295.add (((ji66)).toNat * 12)).off + 5, none⟩ = some (.int .i64 ((rd_T32 l0 (ji66)).f5)) ∧ w'.cell? ⟨(ad295.add (((ji66)).toNat * 12)).block, (ad295.add (((ji66)).toNat * 12)).off + 6, none⟩ = some (.int .i64 ((rd_T32 l0 (ji66)).f6)) ∧ w'.cell? ⟨(ad295.add (((ji66)).toNat * 12)).block, (ad295.add (((ji66)).toNat * 12)).off + 7, none⟩ = some (.int .i64 ((rd_T32 l0 (ji66)).f7)) ∧ w'.cell? ⟨(ad295.add (((ji66)).toNat * 12)).block, (ad295.add (((ji66)).toNat * 12)).off + 8, none⟩ = some (.int .i64 ((rd_T32 l0 (ji66)).f8)) ∧ w'.cell? ⟨(ad295.add (((ji66)).toNat * 12)).block, (ad295.add (((ji66)).toNat * 12)).off + 9, none⟩ = some (.int .i64 ((rd_T32 l0 (ji66)).f9)) ∧ w'.cell? ⟨(ad295.add (((ji66)).toNat * 12)).block, (ad295.add (((ji66)).toNat * 12)).off + 10, none⟩ = some (.int .i64 ((rd_T32 l0 (ji66)).f10)) ∧ w'.cell? ⟨(ad295.add (((ji66)).toNat * 12)).block, (ad295.add (((ji66)).toNat * 12)).off + 11, none⟩ = some (.slice ((rd_T32 l0 (ji66)).f11).A ((rd_T32 l0 (ji66)).f11).n ((rd_T32 l0 (ji66)).f11).c)) (ds := []) #[false, false, false, false, false, false, false, false, false, false, false, false, false, false] (by kernel_rfl) rfl rfl ⟨hx295_0, hx295_1, hx295_2, hx295_3, hx295_4, hx295_5, hx295_6, hx295_7, hx295_8, hx295_9, hx295_10, hx295_11, hx296_0, hx296_1, hx296_2, hx296_3, hx296_4, hx296_5, hx296_6, hx296_7, hx296_8, hx296_9, hx296_10, hx296_11⟩ (fun hHeld => ?_); refine with_tabW slices_symMergeCmpFunc_Job__job_Due_1.tab35 slices_symMergeCmpFunc_Job__job_Due_1.bits35 (fun HT_ HW_ => ?_)
             generalize wr.drew = w74 at HO_0 HK HB hx295_0 hx295_1 hx295_10 hx295_11 hx295_2 hx295_3 hx295_4 hx295_5 hx295_6 hx295_7 hx295_8 hx295_9 hx296_0 hx296_1 hx296_10 hx296_11 hx296_2 hx296_3 hx296_4 hx296_5 hx296_6 hx296_7 hx296_8 hx296_9 hHeld ⊢
             refine plan_ [(0, 158), (1, 159), (2, 160), (3, 161), (4, 162), (5, 163), (7, 165), (8, 166), (9, 167)] ?_
             iterate 9 (refine planP_ (v := ?_) (a' := ?_) rfl rfl (any_of HT_.out (by kernel_rfl)) (fun _ _ _ h => h) (Or.inl ⟨by rfl, ?_⟩) ?_ ?_; rotate_left; (intro w'; go_simp; with_reducible rfl); rotate_left; (simp only [Act.put, List.setIfInBounds_toArray, List.set_cons_zero, List.set_cons_succ, i64_w, i32_w]; rfl))
             refine planEnd_ ?_
             refine plan_ [(6, 164), (10, 168)] ?_
             iterate 2 (refine planT_ (v := ?_) (a' := ?_) rfl rfl (take_ofW HT_.out HW_.out (by kernel_rfl)) (fun _ _ _ h => h) (Or.inl ⟨by rfl, ?_⟩) hHeld ?_ ?_; rotate_left; (rintro w' ⟨s0, s1, s2, s3, s4, s5, s6, s7, s8, s9, s10, s11, s12, s13, s14, s15, s16, s17, s18, s19, s20, s21, s22, s23⟩; go_simp; with_reducible rfl); rotate_left; (simp only [Act.put, List.setIfInBounds_toArray, List.set_cons_zero, List.set_cons_succ, i64_w, i32_w]; rfl))
             refine planEnd_ ?_
             refine one_ (i := 11) (N := some 169) #[true, true, true, true, true, true, true, true, true, true, true, true, false, false] rfl rfl (one_of HT_.out (by kernel_rfl)) (by decide) (fun K hK => ?_)
             refine goesV_ Try.func47 (by kernel_rfl) rfl #[.agg #[.int .i64 ((rd_T32 l0 (ji63)).f0), .int .i64 ((rd_T32 l0 (ji63)).f1), .int .i64 ((rd_T32 l0 (ji63)).f2), .int .i64 ((rd_T32 l0 (ji63)).f3), .int .i64 ((rd_T32 l0 (ji63)).f4), .int .i64 ((rd_T32 l0 (ji63)).f5), .int .i64 ((rd_T32 l0 (ji63)).f6), .int .i64 ((rd_T32 l0 (ji63)).f7), .int .i64 ((rd_T32 l0 (ji63)).f8), .int .i64 ((rd_T32 l0 (ji63)).f9), .int .i64 ((rd_T32 l0 (ji63)).f10), .slice ((rd_T32 l0 (ji63)).f11).A ((rd_T32 l0 (ji63)).f11).n ((rd_T32 l0 (ji63)).f11).c], .agg #[.int .i64 ((rd_T32 l0 (ji66)).f0), .int .i64 ((rd_T32 l0 (ji66)).f1), .int .i64 ((rd_T32 l0 (ji66)).f2), .int .i64 ((rd_T32 l0 (ji66)).f3), .int .i64 ((rd_T32 l0 (ji66)).f4), .int .i64 ((rd_T32 l0 (ji66)).f5), .int .i64 ((rd_T32 l0 (ji66)).f6), .int .i64 ((rd_T32 l0 (ji66)).f7), .int .i64 ((rd_T32 l0 (ji66)).f8), .int .i64 ((rd_T32 l0 (ji66)).f9), .int .i64 ((rd_T32 l0 (ji66)).f10), .slice ((rd_T32 l0 (ji66)).f11).A ((rd_T32 l0 (ji66)).f11).n ((rd_T32 l0 (ji66)).f11).c]] (by rfl) rfl rfl (by (try simp only [List.map_toArray, List.map_cons, List.map_nil]); first | done | (simp only [hji63, hji66]; rfl) | rfl | (simp only [List.length_drop, List.length_take]; rfl)) rfl ?_
             with_reducible refine (job_Due_1.calls ((rd_T32 l0 (ji63)).f0) ((rd_T32 l0 (ji63)).f1) ((rd_T32 l0 (ji63)).f2) ((rd_T32 l0 (ji63)).f3) ((rd_T32 l0 (ji63)).f4) ((rd_T32 l0 (ji63)).f5) ((rd_T32 l0 (ji63)).f6) ((rd_T32 l0 (ji63)).f7) ((rd_T32 l0 (ji63)).f8) ((rd_T32 l0 (ji63)).f9) ((rd_T32 l0 (ji63)).f10) ((rd_T32 l0 (ji63)).f11) ((rd_T32 l0 (ji66)).f0) ((rd_T32 l0 (ji66)).f1) ((rd_T32 l0 (ji66)).f2) ((rd_T32 l0 (ji66)).f3) ((rd_T32 l0 (ji66)).f4) ((rd_T32 l0 (ji66)).f5) ((rd_T32 l0 (ji66)).f6) ((rd_T32 l0 (ji66)).f7) ((rd_T32 l0 (ji66)).f8) ((rd_T32 l0 (ji66)).f9) ((rd_T32 l0 (ji66)).f10) ((rd_T32 l0 (ji66)).f11) t297 _ A69.out).mono ?_
             rintro e w76 ⟨rfl, hb⟩
             have HS0_ := (hb.cell (World.block_lt_of_cell? _ _ (hHeld.1))).trans (hHeld.1)
             have HS1_ := (hb.cell (World.block_lt_of_cell? _ _ (hHeld.2.1))).trans (hHeld.2.1)
             have HS2_ := (hb.cell (World.block_lt_of_cell? _ _ (hHeld.2.2.1))).trans (hHeld.2.2.1)
             have HS3_ := (hb.cell (World.block_lt_of_cell? _ _ (hHeld.2.2.2.1))).trans (hHeld.2.2.2.1)
             have HS4_ := (hb.cell (World.block_lt_of_cell? _ _ (hHeld.2.2.2.2.1))).trans (hHeld.2.2.2.2.1)
             have HS5_ := (hb.cell (World.block_lt_of_cell? _ _ (hHeld.2.2.2.2.2.1))).trans (hHeld.2.2.2.2.2.1)
             have HS6_ := (hb.cell (World.block_lt_of_cell? _ _ (hHeld.2.2.2.2.2.2.1))).trans (hHeld.2.2.2.2.2.2.1)
             have HS7_ := (hb.cell (World.block_lt_of_cell? _ _ (hHeld.2.2.2.2.2.2.2.1))).trans (hHeld.2.2.2.2.2.2.2.1)
             have HS8_ := (hb.cell (World.block_lt_of_cell? _ _ (hHeld.2.2.2.2.2.2.2.2.1))).trans (hHeld.2.2.2.2.2.2.2.2.1)
             have HS9_ := (hb.cell (World.block_lt_of_cell? _ _ (hHeld.2.2.2.2.2.2.2.2.2.1))).trans (hHeld.2.2.2.2.2.2.2.2.2.1)
             have HS10_ := (hb.cell (World.block_lt_of_cell? _ _ (hHeld.2.2.2.2.2.2.2.2.2.2.1))).trans (hHeld.2.2.2.2.2.2.2.2.2.2.1)
             have HS11_ := (hb.cell (World.block_lt_of_cell? _ _ (hHeld.2.2.2.2.2.2.2.2.2.2.2.1))).trans (hHeld.2.2.2.2.2.2.2.2.2.2.2.1)
             have HS12_ := (hb.cell (World.block_lt_of_cell? _ _ (hHeld.2.2.2.2.2.2.2.2.2.2.2.2.1))).trans (hHeld.2.2.2.2.2.2.2.2.2.2.2.2.1)
             have HS13_ := (hb.cell (World.block_lt_of_cell? _ _ (hHeld.2.2.2.2.2.2.2.2.2.2.2.2.2.1))).trans (hHeld.2.2.2.2.2.2.2.2.2.2.2.2.2.1)
             have HS14_ := (hb.cell (World.block_lt_of_cell? _ _ (hHeld.2.2.2.2.2.2.2.2.2.2.2.2.2.2.1))).trans (hHeld.2.2.2.2.2.2.2.2.2.2.2.2.2.2.1)
             have HS15_ := (hb.cell (World.block_lt_of_cell? _ _ (hHeld.2.2.2.2.2.2.2.2.2.2.2.2.2.2.2.1))).trans (hHeld.2.2.2.2.2.2.2.2.2.2.2.2.2.2.2.1)
             have HS16_ := (hb.cell (World.block_lt_of_cell? _ _ (hHeld.2.2.2.2.2.2.2.2.2.2.2.2.2.2.2.2.1))).trans (hHeld.2.2.2.2.2.2.2.2.2.2.2.2.2.2.2.2.1)
             have HS17_ := (hb.cell (World.block_lt_of_cell? _ _ (hHeld.2.2.2.2.2.2.2.2.2.2.2.2.2.2.2.2.2.1))).trans (hHeld.2.2.2.2.2.2.2.2.2.2.2.2.2.2.2.2.2.1)
             have HS18_ := (hb.cell (World.block_lt_of_cell? _ _ (hHeld.2.2.2.2.2.2.2.2.2.2.2.2.2.2.2.2.2.2.1))).trans (hHeld.2.2.2.2.2.2.2.2.2.2.2.2.2.2.2.2.2.2.1)
             have HS19_ := (hb.cell (World.block_lt_of_cell? _ _ (hHeld.2.2.2.2.2.2.2.2.2.2.2.2.2.2.2.2.2.2.2.1))).trans (hHeld.2.2.2.2.2.2.2.2.2.2.2.2.2.2.2.2.2.2.2.1)
             have HS20_ := (hb.cell (World.block_lt_of_cell? _ _ (hHeld.2.2.2.2.2.2.2.2.2.2.2.2.2.2.2.2.2.2.2.2.1))).trans (hHeld.2.2.2.2.2.2.2.2.2.2.2.2.2.2.2.2.2.2.2.2.1)
             have HS21_ := (hb.cell (World.block_lt_of_cell? _ _ (hHeld.2.2.2.2.2.2.2.2.2.2.2.2.2.2.2.2.2.2.2.2.2.1))).trans (hHeld.2.2.2.2.2.2.2.2.2.2.2.2.2.2.2.2.2.2.2.2.2.1)
             have HS22_ := (hb.cell (World.block_lt_of_cell? _ _ (hHeld.2.2.2.2.2.2.2.2.2.2.2.2.2.2.2.2.2.2.2.2.2.2.1))).trans (hHeld.2.2.2.2.2.2.2.2.2.2.2.2.2.2.2.2.2.2.2.2.2.2.1)
             have HS23_ := (hb.cell (World.block_lt_of_cell? _ _ (hHeld.2.2.2.2.2.2.2.2.2.2.2.2.2.2.2.2.2.2.2.2.2.2.2))).trans (hHeld.2.2.2.2.2.2.2.2.2.2.2.2.2.2.2.2.2.2.2.2.2.2.2)
             refine ⟨_, rfl, ?_⟩
             have n0_ := Aside0.mk (Kd.R_below (mR HO_0.out) hb)
             have n1_ := Aside0.mk (Kept.below (S := (fun k_ => P0_ k_)) (mK HK.out) hb)
             have n2_ := Aside0.mk (below_step (mB HB.out) hb)
             clear HO_0; clear HK; clear HB
             have HO_0 := n0_
             have HK := n1_
             have HB := n2_
             clear n0_; clear n1_; clear n2_
             (try clear hb); (try clear hb2); (try clear hk); (try clear hi)
             refine hK.out _ _ ⟨HS0_, HS1_, HS2_, HS3_, HS4_, HS5_, HS6_, HS7_, HS8_, HS9_, HS10_, HS11_, HS12_, HS13_, HS14_, HS15_, HS16_, HS17_, HS18_, HS19_, HS20_, HS21_, HS22_, HS23_⟩ (fun hHeld => ?_)
             clear hK; clear K
             refine norm_ (a' := ?_) ?_ ?_
             rotate_left
             ·show Act.put _ (some 169) _ = _
              simp only [Act.put, List.setIfInBounds_toArray, List.set_cons_zero, List.set_cons_succ, i64_w, i32_w]
              rfl
             refine plan_ [(12, 170), (13, 171)] ?_
             iterate 2 (refine planP_ (v := ?_) (a' := ?_) rfl rfl (any_of HT_.out (by kernel_rfl)) (fun _ _ _ h => h) (Or.inl ⟨by rfl, ?_⟩) ?_ ?_; rotate_left; (intro w'; go_simp; with_reducible rfl); rotate_left; (simp only [Act.put, List.setIfInBounds_toArray, List.set_cons_zero, List.set_cons_succ, i64_w, i32_w]; rfl))
             refine planEnd_ ?_
             refine done_ (done_of HT_.out (by kernel_rfl)) ?_
             try go_wp2
             go_roundg k2
             case measure => have := HJ59.out; have := HK2.out; omega
             case rel => exact ⟨(wrap64 ((ji66) + 1)), (x21_2), (by first | rfl | (simp; done) | (simp only [← hji66] <;> (first | rfl | simp)) | (simp [*]; done)), ez, H', ⟨by have := HJ59.out; have := HK2.out; omega⟩, ⟨mR HO_0.out⟩, ⟨mK HK.out⟩, ⟨mB HB.out⟩⟩
           ·rw [if_neg c68] at H
            exact absurd H (by simp)
          ·rw [if_neg c67] at H
           exact absurd H (by simp)
         ·rw [if_neg c65] at H
          exact absurd H (by simp)
        ·rw [if_neg c64] at H
         exact absurd H (by simp)
       ·rw [if_neg c62] at H
        have c62b0 : decide (x20_2 < x21_2) = false := decide_eq_false c62
        clear c62
        have HC77 := Aside0.mk H
        clear H
        go_upto_region 39 with (fail)
        go_cut [185] (fun v185 wc => ∃ (kq : Nat) (x185_76 : Bool), v185 = .bool x185_76 ∧ Aside0 (slices_symMergeCmpFunc_Job__job_Due_1.j6 kq l0 a1 a2 a3 x18_59 x20_2 (wrap64 (x19_59 - x20_2)) x185_76 = some r) ∧ Aside0 (kq ≤ k2) ∧ Aside0 (Kd.R k32 32 wc w0.heap.size (fun k_ => (P0_ k_ ∨ w.heap.size ≤ k_)) u9000_ l0) ∧ Aside0 (Kept w wc (fun k_ => P0_ k_)) ∧ Aside0 (Below w0.heap.size w0 wc))
        case first =>
         have H := HC77.out
         clear HC77
         by_cases c78 : x20_2 < a2
         ·rw [if_pos c78] at H
          have c78b0 : decide (x20_2 < a2) = true := decide_eq_true c78
          clear c78
          (first | rw [c78b0] | (simp only [i64_w, i32_w]; rw [c78b0]) | skip)
          have H' := Aside0.mk H
          clear H
          go_wp2
          go_meet
          case rel => exact ⟨_, (decide (a2 < (wrap64 (x19_59 - x20_2)))), ez, H', ⟨by have := HJ59.out; have := HK2.out; first | omega | exact Nat.le_refl _⟩, ⟨mR HO_0.out⟩, ⟨mK HK.out⟩, ⟨mB HB.out⟩⟩
         ·rw [if_neg c78] at H
          have c78b0 : decide (x20_2 < a2) = false := decide_eq_false c78
          clear c78
          (first | rw [c78b0] | (simp only [i64_w, i32_w]; rw [c78b0]) | skip)
          have H' := Aside0.mk H
          clear H
          go_wp2
          go_meet
          case rel => exact ⟨_, (false), ez, H', ⟨by have := HJ59.out; have := HK2.out; first | omega | exact Nat.le_refl _⟩, ⟨mR HO_0.out⟩, ⟨mK HK.out⟩, ⟨mB HB.out⟩⟩
        case rest => as_aux_lemma =>
         clear HC77
         (try clear p2); (try clear q2); (try clear hx2); (try clear c4); (try clear p5); (try clear q5); (try clear hx5); (try clear c6); (try clear p6); (try clear c7); (try clear p27); (try clear q27); (try clear p28); (try clear q28); (try clear hx28); (try clear p29); (try clear q29); (try clear hx29); (try clear c47); (try clear p54); (try clear q54); (try clear hx54); (try clear p55); (try clear q55); (try clear hx55); (try clear c62); (try clear c62b0); (try clear c64); (try clear c64b0); (try clear p64); (try clear c65); (try clear c65b0); (try clear c67); (try clear c67b0); (try clear c68); (try clear c68b0); (try clear c70); (try clear c70b0); (try clear c78); (try clear c78b0); (try clear hx282_9); (try clear hx284_0); (try clear hx284_1); (try clear hx284_10); (try clear hx284_11); (try clear hx284_2); (try clear hx284_3); (try clear hx284_4); (try clear hx284_5); (try clear hx284_6); (try clear hx284_7); (try clear hx284_8); (try clear hx284_9); (try clear hx285_0); (try clear hx285_1); (try clear hx285_10); (try clear hx285_11); (try clear hx285_2); (try clear hx285_3); (try clear hx285_4); (try clear hx285_5); (try clear hx285_6); (try clear hx285_7); (try clear hx285_8); (try clear hx285_9); (try clear hx288_0); (try clear hx288_1); (try clear hx288_10); (try clear hx288_11); (try clear hx288_2); (try clear hx288_3); (try clear hx288_4); (try clear hx288_5); (try clear hx288_6); (try clear hx288_7); (try clear hx288_8); (try clear hx288_9); (try clear hx289_0); (try clear hx289_1); (try clear hx289_10); (try clear hx289_11); (try clear hx289_2); (try clear hx289_3); (try clear hx289_4); (try clear hx289_5); (try clear hx289_6); (try clear hx289_7); (try clear hx289_8); (try clear hx289_9); (try clear hx28_0); (try clear hx28_1); (try clear hx28_10); (try clear hx28_11); (try clear hx28_2); (try clear hx28_3); (try clear hx28_4); (try clear hx28_5); (try clear hx28_6); (try clear hx28_7); (try clear hx28_8); (try clear hx28_9); (try clear hx291_0); (try clear hx291_1); (try clear hx291_10); (try clear hx291_11); (try clear hx291_2); (try clear hx291_3); (try clear hx291_4); (try clear hx291_5); (try clear hx291_6); (try clear hx291_7); (try clear hx291_8); (try clear hx291_9); (try clear hx292_0); (try clear hx292_1); (try clear hx292_10); (try clear hx292_11); (try clear hx292_2); (try clear hx292_3); (try clear hx292_4); (try clear hx292_5); (try clear hx292_6); (try clear hx292_7); (try clear hx292_8); (try clear hx292_9); (try clear hx295_0); (try clear hx295_1); (try clear hx295_10); (try clear hx295_11); (try clear hx295_2); (try clear hx295_3); (try clear hx295_4); (try clear hx295_5); (try clear hx295_6); (try clear hx295_7); (try clear hx295_8); (try clear hx295_9); (try clear hx296_0); (try clear hx296_1); (try clear hx296_10); (try clear hx296_11); (try clear hx296_2); (try clear hx296_3); (try clear hx296_4); (try clear hx296_5); (try clear hx296_6); (try clear hx296_7); (try clear hx296_8); (try clear hx296_9); (try clear hx54_0); (try clear hx54_1); (try clear hx54_10); (try clear hx54_11); (try clear hx54_2); (try clear hx54_3); (try clear hx54_4); (try clear hx54_5); (try clear hx54_6); (try clear hx54_7); (try clear hx54_8); (try clear hx54_9); (try clear hx55_0); (try clear hx55_1); (try clear hx55_10); (try clear hx55_11); (try clear hx55_2); (try clear hx55_3); (try clear hx55_4); (try clear hx55_5); (try clear hx55_6); (try clear hx55_7); (try clear hx55_8); (try clear hx55_9); (try clear p2); (try clear p27); (try clear p28); (try clear p281); (try clear p282); (try clear p284); (try clear p285); (try clear p288); (try clear p289); (try clear p29); (try clear p291); (try clear p292); (try clear p295); (try clear p296); (try clear p5); (try clear p54); (try clear p55); (try clear p6); (try clear q2); (try clear q27); (try clear q28); (try clear q281); (try clear q282); (try clear q284); (try clear q285); (try clear q288); (try clear q289); (try clear q29); (try clear q291); (try clear q292); (try clear q295); (try clear q296); (try clear q5); (try clear q54); (try clear q55)
         obtain ⟨kq, x185_76, rfl, HA, HJ76, HO_0, HK, HB⟩ := hcut
         cases kq with
         | zero => exact absurd HA.out (by simp [slices_symMergeCmpFunc_Job__job_Due_1.j6])
         | succ kj76 =>
          have H := HA.out
          clear HA
          simp only [slices_symMergeCmpFunc_Job__job_Due_1.j6] at H
          have HC79 := Aside0.mk H
          clear H
          go_upto_if 185 with (fail)
          go_cut [] (fun wc => ∃ (kq : Nat) (x0_78 : List (S32)), Aside0 (slices_symMergeCmpFunc_Job__job_Due_1.j7 kq x0_78 a1 a3 x18_59 x20_2 (wrap64 (x19_59 - x20_2)) = some r) ∧ Aside0 (kq ≤ kj76) ∧ Aside0 (Kd.R k32 32 wc w0.heap.size (fun k_ => (P0_ k_ ∨ w.heap.size ≤ k_)) u9000_ x0_78) ∧ Aside0 (Kept w wc (fun k_ => P0_ k_)) ∧ Aside0 (Below w0.heap.size w0 wc))
          case first =>
           have H := HC79.out
           clear HC79
           by_cases c80 : x185_76 = true
           ·subst c80
            have H1 : ((slices_rotateCmpFunc_Job__job_Due_1.f kj76 l0 x20_2 a2 (wrap64 (x19_59 - x20_2))).bind fun t298 => (slices_symMergeCmpFunc_Job__job_Due_1.j7 kj76 t298 a1 a3 x18_59 x20_2 (wrap64 (x19_59 - x20_2)))) = some r := by rw [if_pos rfl] at H; exact H
            clear H
            have H := H1
            clear H1
            replace H := Option.bind_eq_some_iff.mp H
            obtain ⟨t298, A810, H⟩ := H
            replace H : (slices_symMergeCmpFunc_Job__job_Due_1.j7 kj76 t298 a1 a3 x18_59 x20_2 (wrap64 (x19_59 - x20_2))) = some r := H
            have A81 := Aside0.mk A810
            clear A810
            have H' := Aside0.mk H
            clear H
            obtain ⟨Ao82, co82, eo82⟩ := Kd.R_slice HO_0.out
            subst eo82
            go_wp2_with (first | ((with_reducible refine gate_callee (f := 70) rfl ?_); refine goesL_ (some 191) rfl rfl Try.func70 (by kernel_rfl) rfl #[.slice Ao82 l0.length co82, .int .i64 x20_2, .int .i64 a2, .int .i64 (wrap64 (x19_59 - x20_2)), .func (.func 47) #[] #[]] rfl mt ?_; (with_reducible refine (slices_rotateCmpFunc_Job__job_Due_1.calls kj76 (fun k_ => some k_ = (.slice Ao82 l0.length co82 : Value).ownBlock) (.slice Ao82 l0.length co82) l0 x20_2 a2 (wrap64 (x19_59 - x20_2))  t298 w0 _ ?side1 ?side2 A81.out).mono ?_); (case side1 => repeat (first | (with_reducible first | exact HB.out | apply below_alloc | apply pw_below_drewN | apply below_drew1) | exact HB.out)); (case side2 => exact Kd.R_tight rfl HO_0.out); rintro e w83 ⟨rfl, hy0, hb, hkp⟩; refine ⟨_, rfl, ?_⟩; have n0_ := Aside0.mk (Kd.R_reok rfl hy0 (fun k_ e_ => HO_0.out.1 k_ e_)); have n1_ := Aside0.mk (Kept.then_ (S := (fun k_ => P0_ k_)) (mK HK.out) hkp (fun k_ hs_ => (fun e_ => (HO_0.out.1 k_ e_.symm)) hs_)); have n2_ := Aside0.mk (hb); clear HO_0; clear HK; clear HB; have HO_0 := n0_; have HK := n1_; have HB := n2_; clear n0_ n1_ n2_; (try clear hb); (try clear hkp); (try clear hy0)))
            go_meet
            case rel => exact ⟨_, (t298), H', ⟨by have := HJ59.out; have := HK2.out; have := HJ76.out; first | omega | exact Nat.le_refl _⟩, ⟨mR HO_0.out⟩, ⟨mK HK.out⟩, ⟨mB HB.out⟩⟩
           ·replace c80 := Bool.eq_false_iff.mpr c80
            subst c80
            have H1 : (slices_symMergeCmpFunc_Job__job_Due_1.j7 kj76 l0 a1 a3 x18_59 x20_2 (wrap64 (x19_59 - x20_2))) = some r := by rw [if_neg (show ¬ (false = true) by decide)] at H; exact H
            clear H
            have H := H1
            clear H1
            have H' := Aside0.mk H
            clear H
            go_wp2
            go_meet
            case rel => exact ⟨_, (l0), H', ⟨by have := HJ59.out; have := HK2.out; have := HJ76.out; first | omega | exact Nat.le_refl _⟩, ⟨mR HO_0.out⟩, ⟨mK HK.out⟩, ⟨mB HB.out⟩⟩
          case rest => as_aux_lemma =>
           clear HC79
           (try clear p2); (try clear q2); (try clear hx2); (try clear c4); (try clear p5); (try clear q5); (try clear hx5); (try clear c6); (try clear p6); (try clear c7); (try clear c8); (try clear p27); (try clear q27); (try clear p28); (try clear q28); (try clear hx28); (try clear p29); (try clear q29); (try clear hx29); (try clear c47); (try clear p54); (try clear q54); (try clear hx54); (try clear p55); (try clear q55); (try clear hx55); (try clear c62); (try clear c62b0); (try clear c64); (try clear c64b0); (try clear p64); (try clear c65); (try clear c65b0); (try clear c67); (try clear c67b0); (try clear c68); (try clear c68b0); (try clear c70); (try clear c70b0); (try clear c78); (try clear c78b0); (try clear c80); (try clear hx282_9); (try clear hx284_0); (try clear hx284_1); (try clear hx284_10); (try clear hx284_11); (try clear hx284_2); (try clear hx284_3); (try clear hx284_4); (try clear hx284_5); (try clear hx284_6); (try clear hx284_7); (try clear hx284_8); (try clear hx284_9); (try clear hx285_0); (try clear hx285_1); (try clear hx285_10); (try clear hx285_11); (try clear hx285_2); (try clear hx285_3); (try clear hx285_4); (try clear hx285_5); (try clear hx285_6); (try clear hx285_7); (try clear hx285_8); (try clear hx285_9); (try clear hx288_0); (try clear hx288_1); (try clear hx288_10); (try clear hx288_11); (try clear hx288_2); (try clear hx288_3); (try clear hx288_4); (try clear hx288_5); (try clear hx288_6); (try clear hx288_7); (try clear hx288_8); (try clear hx288_9); (try clear hx289_0); (try clear hx289_1); (try clear hx289_10); (try clear hx289_11); (try clear hx289_2); (try clear hx289_3); (try clear hx289_4); (try clear hx289_5); (try clear hx289_6); (try clear hx289_7); (try clear hx289_8); (try clear hx289_9); (try clear hx28_0); (try clear hx28_1); (try clear hx28_10); (try clear hx28_11); (try clear hx28_2); (try clear hx28_3); (try clear hx28_4); (try clear hx28_5); (try clear hx28_6); (try clear hx28_7); (try clear hx28_8); (try clear hx28_9); (try clear hx291_0); (try clear hx291_1); (try clear hx291_10); (try clear hx291_11); (try clear hx291_2); (try clear hx291_3); (try clear hx291_4); (try clear hx291_5); (try clear hx291_6); (try clear hx291_7); (try clear hx291_8); (try clear hx291_9); (try clear hx292_0); (try clear hx292_1); (try clear hx292_10); (try clear hx292_11); (try clear hx292_2); (try clear hx292_3); (try clear hx292_4); (try clear hx292_5); (try clear hx292_6); (try clear hx292_7); (try clear hx292_8); (try clear hx292_9); (try clear hx295_0); (try clear hx295_1); (try clear hx295_10); (try clear hx295_11); (try clear hx295_2); (try clear hx295_3); (try clear hx295_4); (try clear hx295_5); (try clear hx295_6); (try clear hx295_7); (try clear hx295_8); (try clear hx295_9); (try clear hx296_0); (try clear hx296_1); (try clear hx296_10); (try clear hx296_11); (try clear hx296_2); (try clear hx296_3); (try clear hx296_4); (try clear hx296_5); (try clear hx296_6); (try clear hx296_7); (try clear hx296_8); (try clear hx296_9); (try clear hx54_0); (try clear hx54_1); (try clear hx54_10); (try clear hx54_11); (try clear hx54_2); (try clear hx54_3); (try clear hx54_4); (try clear hx54_5); (try clear hx54_6); (try clear hx54_7); (try clear hx54_8); (try clear hx54_9); (try clear hx55_0); (try clear hx55_1); (try clear hx55_10); (try clear hx55_11); (try clear hx55_2); (try clear hx55_3); (try clear hx55_4); (try clear hx55_5); (try clear hx55_6); (try clear hx55_7); (try clear hx55_8); (try clear hx55_9); (try clear p2); (try clear p27); (try clear p28); (try clear p281); (try clear p282); (try clear p284); (try clear p285); (try clear p288); (try clear p289); (try clear p29); (try clear p291); (try clear p292); (try clear p295); (try clear p296); (try clear p5); (try clear p54); (try clear p55); (try clear p6); (try clear p64); (try clear q2); (try clear q27); (try clear q28); (try clear q281); (try clear q282); (try clear q284); (try clear q285); (try clear q288); (try clear q289); (try clear q29); (try clear q291); (try clear q292); (try clear q295); (try clear q296); (try clear q5); (try clear q54); (try clear q55)
           obtain ⟨kq, x0_78, HA, HJ78, HO_0, HK, HB⟩ := hcut
           cases kq with
           | zero => exact absurd HA.out (by simp [slices_symMergeCmpFunc_Job__job_Due_1.j7])
           | succ kj78 =>
            have H := HA.out
            clear HA
            simp only [slices_symMergeCmpFunc_Job__job_Due_1.j7] at H
            have HC84 := Aside0.mk H
            clear H
            go_upto_region 41 with (fail)
            go_cut [199] (fun v199 wc => ∃ (kq : Nat) (x199_83 : Bool), v199 = .bool x199_83 ∧ Aside0 (slices_symMergeCmpFunc_Job__job_Due_1.j8 kq x0_78 a1 a3 x18_59 x20_2 (wrap64 (x19_59 - x20_2)) x199_83 = some r) ∧ Aside0 (kq ≤ kj78) ∧ Aside0 (Kd.R k32 32 wc w0.heap.size (fun k_ => (P0_ k_ ∨ w.heap.size ≤ k_)) u9000_ x0_78) ∧ Aside0 (Kept w wc (fun k_ => P0_ k_)) ∧ Aside0 (Below w0.heap.size w0 wc))
            case first =>
             have H := HC84.out
             clear HC84
             by_cases c85 : a1 < x20_2
             ·rw [if_pos c85] at H
              have c85b0 : decide (a1 < x20_2) = true := decide_eq_true c85
              clear c85
              (first | rw [c85b0] | (simp only [i64_w, i32_w]; rw [c85b0]) | skip)
              have H' := Aside0.mk H
              clear H
              go_wp2
              go_meet
              case rel => exact ⟨_, (decide (x20_2 < x18_59)), ez, H', ⟨by have := HJ59.out; have := HK2.out; have := HJ76.out; have := HJ78.out; first | omega | exact Nat.le_refl _⟩, ⟨mR HO_0.out⟩, ⟨mK HK.out⟩, ⟨mB HB.out⟩⟩
             ·rw [if_neg c85] at H
              have c85b0 : decide (a1 < x20_2) = false := decide_eq_false c85
              clear c85
              (first | rw [c85b0] | (simp only [i64_w, i32_w]; rw [c85b0]) | skip)
              have H' := Aside0.mk H
              clear H
              go_wp2
              go_meet
              case rel => exact ⟨_, (false), ez, H', ⟨by have := HJ59.out; have := HK2.out; have := HJ76.out; have := HJ78.out; first | omega | exact Nat.le_refl _⟩, ⟨mR HO_0.out⟩, ⟨mK HK.out⟩, ⟨mB HB.out⟩⟩
            case rest => as_aux_lemma =>
             clear HC84
             (try clear p2); (try clear q2); (try clear hx2); (try clear c4); (try clear p5); (try clear q5); (try clear hx5); (try clear c6); (try clear p6); (try clear c7); (try clear c8); (try clear p27); (try clear q27); (try clear p28); (try clear q28); (try clear hx28); (try clear p29); (try clear q29); (try clear hx29); (try clear c47); (try clear p54); (try clear q54); (try clear hx54); (try clear p55); (try clear q55); (try clear hx55); (try clear c62); (try clear c62b0); (try clear c64); (try clear c64b0); (try clear p64); (try clear c65); (try clear c65b0); (try clear c67); (try clear c67b0); (try clear c68); (try clear c68b0); (try clear c70); (try clear c70b0); (try clear c78); (try clear c78b0); (try clear c80); (try clear c85); (try clear c85b0); (try clear hx282_9); (try clear hx284_0); (try clear hx284_1); (try clear hx284_10); (try clear hx284_11); (try clear hx284_2); (try clear hx284_3); (try clear hx284_4); (try clear hx284_5); (try clear hx284_6); (try clear hx284_7); (try clear hx284_8); (try clear hx284_9); (try clear hx285_0); (try clear hx285_1); (try clear hx285_10); (try clear hx285_11); (try clear hx285_2); (try clear hx285_3); (try clear hx285_4); (try clear hx285_5); (try clear hx285_6); (try clear hx285_7); (try clear hx285_8); (try clear hx285_9); (try clear hx288_0); (try clear hx288_1); (try clear hx288_10); (try clear hx288_11); (try clear hx288_2); (try clear hx288_3); (try clear hx288_4); (try clear hx288_5); (try clear hx288_6); (try clear hx288_7); (try clear hx288_8); (try clear hx288_9); (try clear hx289_0); (try clear hx289_1); (try clear hx289_10); (try clear hx289_11); (try clear hx289_2); (try clear hx289_3); (try clear hx289_4); (try clear hx289_5); (try clear hx289_6); (try clear hx289_7); (try clear hx289_8); (try clear hx289_9); (try clear hx28_0); (try clear hx28_1); (try clear hx28_10); (try clear hx28_11); (try clear hx28_2); (try clear hx28_3); (try clear hx28_4); (try clear hx28_5); (try clear hx28_6); (try clear hx28_7); (try clear hx28_8); (try clear hx28_9); (try clear hx291_0); (try clear hx291_1); (try clear hx291_10); (try clear hx291_11); (try clear hx291_2); (try clear hx291_3); (try clear hx291_4); (try clear hx291_5); (try clear hx291_6); (try clear hx291_7); (try clear hx291_8); (try clear hx291_9); (try clear hx292_0); (try clear hx292_1); (try clear hx292_10); (try clear hx292_11); (try clear hx292_2); (try clear hx292_3); (try clear hx292_4); (try clear hx292_5); (try clear hx292_6); (try clear hx292_7); (try clear hx292_8); (try clear hx292_9); (try clear hx295_0); (try clear hx295_1); (try clear hx295_10); (try clear hx295_11); (try clear hx295_2); (try clear hx295_3); (try clear hx295_4); (try clear hx295_5); (try clear hx295_6); (try clear hx295_7); (try clear hx295_8); (try clear hx295_9); (try clear hx296_0); (try clear hx296_1); (try clear hx296_10); (try clear hx296_11); (try clear hx296_2); (try clear hx296_3); (try clear hx296_4); (try clear hx296_5); (try clear hx296_6); (try clear hx296_7); (try clear hx296_8); (try clear hx296_9); (try clear hx54_0); (try clear hx54_1); (try clear hx54_10); (try clear hx54_11); (try clear hx54_2); (try clear hx54_3); (try clear hx54_4); (try clear hx54_5); (try clear hx54_6); (try clear hx54_7); (try clear hx54_8); (try clear hx54_9); (try clear hx55_0); (try clear hx55_1); (try clear hx55_10); (try clear hx55_11); (try clear hx55_2); (try clear hx55_3); (try clear hx55_4); (try clear hx55_5); (try clear hx55_6); (try clear hx55_7); (try clear hx55_8); (try clear hx55_9); (try clear p2); (try clear p27); (try clear p28); (try clear p281); (try clear p282); (try clear p284); (try clear p285); (try clear p288); (try clear p289); (try clear p29); (try clear p291); (try clear p292); (try clear p295); (try clear p296); (try clear p5); (try clear p54); (try clear p55); (try clear p6); (try clear p64); (try clear q2); (try clear q27); (try clear q28); (try clear q281); (try clear q282); (try clear q284); (try clear q285); (try clear q288); (try clear q289); (try clear q29); (try clear q291); (try clear q292); (try clear q295); (try clear q296); (try clear q5); (try clear q54); (try clear q55)
             obtain ⟨kq, x199_83, rfl, HA, HJ83, HO_0, HK, HB⟩ := hcut
             cases kq with
             | zero => exact absurd HA.out (by simp [slices_symMergeCmpFunc_Job__job_Due_1.j8])
             | succ kj83 =>
              have H := HA.out
              clear HA
              simp only [slices_symMergeCmpFunc_Job__job_Due_1.j8] at H
              by_cases c86 : x199_83 = true
              ·subst c86
               have H1 : ((slices_symMergeCmpFunc_Job__job_Due_1.f kj83 x0_78 a1 x20_2 x18_59).bind fun t299 => (if x18_59 < (wrap64 (x19_59 - x20_2)) then (if (wrap64 (x19_59 - x20_2)) < a3 then ((slices_symMergeCmpFunc_Job__job_Due_1.f kj83 t299 x18_59 (wrap64 (x19_59 - x20_2)) a3).bind fun t300 => (some t300)) else (some t299)) else (some t299))) = some r := by rw [if_pos rfl] at H; exact H
               clear H
               have H := H1
               clear H1
               replace H := Option.bind_eq_some_iff.mp H
               obtain ⟨t299, A870, H⟩ := H
               replace H : (if x18_59 < (wrap64 (x19_59 - x20_2)) then (if (wrap64 (x19_59 - x20_2)) < a3 then ((slices_symMergeCmpFunc_Job__job_Due_1.f kj83 t299 x18_59 (wrap64 (x19_59 - x20_2)) a3).bind fun t300 => (some t300)) else (some t299)) else (some t299)) = some r := H
               have A87 := Aside0.mk A870
               clear A870
               by_cases c88 : x18_59 < (wrap64 (x19_59 - x20_2))
               ·rw [if_pos c88] at H
                have c88b0 : decide (x18_59 < (wrap64 (x19_59 - x20_2))) = true := decide_eq_true c88
                clear c88
                by_cases c89 : (wrap64 (x19_59 - x20_2)) < a3
                ·rw [if_pos c89] at H
                 have c89b0 : decide ((wrap64 (x19_59 - x20_2)) < a3) = true := decide_eq_true c89
                 clear c89
                 replace H := Option.bind_eq_some_iff.mp H
                 obtain ⟨t300, A900, H⟩ := H
                 replace H : (some t300) = some r := H
                 have A90 := Aside0.mk A900
                 clear A900
                 obtain rfl := Option.some.inj H
                 obtain ⟨Ao91, co91, eo91⟩ := Kd.R_slice HO_0.out
                 subst eo91
                 go_wp2_with (first | ((with_reducible refine gate_callee (f := 68) rfl ?_); refine goesL_ (some 205) rfl rfl Try.func68 (by kernel_rfl) rfl #[.slice Ao91 x0_78.length co91, .int .i64 a1, .int .i64 x20_2, .int .i64 x18_59, .func (.func 47) #[] #[]] rfl mt ?_; (with_reducible refine (ih kj83 (by have := HJ59.out; have := HK2.out; have := HJ76.out; have := HJ78.out; have := HJ83.out; omega) (fun k_ => some k_ = (.slice Ao91 x0_78.length co91 : Value).ownBlock) (.slice Ao91 x0_78.length co91) x0_78 a1 x20_2 x18_59  t299 w0 _ ?side1 ?side2 A87.out).mono ?_); (case side1 => repeat (first | (with_reducible first | exact HB.out | apply below_alloc | apply pw_below_drewN | apply below_drew1) | exact HB.out)); (case side2 => exact Kd.R_tight rfl HO_0.out); rintro e w92 ⟨rfl, hy0, hb, hkp⟩; refine ⟨_, rfl, ?_⟩; have n0_ := Aside0.mk (Kd.R_reok rfl hy0 (fun k_ e_ => HO_0.out.1 k_ e_)); have n1_ := Aside0.mk (Kept.then_ (S := (fun k_ => P0_ k_)) (mK HK.out) hkp (fun k_ hs_ => (fun e_ => (HO_0.out.1 k_ e_.symm)) hs_)); have n2_ := Aside0.mk (hb); clear HO_0; clear HK; clear HB; have HO_0 := n0_; have HK := n1_; have HB := n2_; clear n0_ n1_ n2_; (try clear hb); (try clear hkp); (try clear hy0)) | ((with_reducible refine gate_callee (f := 68) rfl ?_); refine goesL_ (some 219) rfl rfl Try.func68 (by kernel_rfl) rfl #[.slice Ao91 x0_78.length co91, .int .i64 x18_59, .int .i64 (wrap64 (x19_59 - x20_2)), .int .i64 a3, .func (.func 47) #[] #[]] rfl mt ?_; (with_reducible refine (ih kj83 (by have := HJ59.out; have := HK2.out; have := HJ76.out; have := HJ78.out; have := HJ83.out; omega) (fun k_ => some k_ = (.slice Ao91 x0_78.length co91 : Value).ownBlock) (.slice Ao91 x0_78.length co91) t299 x18_59 (wrap64 (x19_59 - x20_2)) a3  t300 w0 _ ?side1 ?side2 A90.out).mono ?_); (case side1 => repeat (first | (with_reducible first | exact HB.out | apply below_alloc | apply pw_below_drewN | apply below_drew1) | exact HB.out)); (case side2 => exact Kd.R_tight rfl HO_0.out); rintro e w93 ⟨rfl, hy0, hb, hkp⟩; refine ⟨_, rfl, ?_⟩; have n0_ := Aside0.mk (Kd.R_reok rfl hy0 (fun k_ e_ => HO_0.out.1 k_ e_)); have n1_ := Aside0.mk (Kept.then_ (S := (fun k_ => P0_ k_)) (mK HK.out) hkp (fun k_ hs_ => (fun e_ => (HO_0.out.1 k_ e_.symm)) hs_)); have n2_ := Aside0.mk (hb); clear HO_0; clear HK; clear HB; have HO_0 := n0_; have HK := n1_; have HB := n2_; clear n0_ n1_ n2_; (try clear hb); (try clear hkp); (try clear hy0)))
                 first | go_end0 | ((try simp only [Exit.inBlock, Exit.then]); refine bodyPost_ret (results_none rfl _ _ _) rfl ?_)
                 exact ⟨by first | rfl | (simp [errW_none, errW_some] <;> rfl) | (simp [*, errW_none, errW_some] <;> rfl), mR HO_0.out, by repeat (first | (with_reducible first | exact HB.out | apply below_alloc | apply pw_below_drewN | apply below_drew1) | exact HB.out), by repeat (first | (with_reducible first | exact HK.out | apply Kept.alloc | apply Kept.drewN | apply Kept.drew) | exact HK.out)⟩
                ·rw [if_neg c89] at H
                 have c89b0 : decide ((wrap64 (x19_59 - x20_2)) < a3) = false := decide_eq_false c89
                 clear c89
                 obtain rfl := Option.some.inj H
                 obtain ⟨Ao94, co94, eo94⟩ := Kd.R_slice HO_0.out
                 subst eo94
                 go_wp2_with (first | ((with_reducible refine gate_callee (f := 68) rfl ?_); refine goesL_ (some 205) rfl rfl Try.func68 (by kernel_rfl) rfl #[.slice Ao94 x0_78.length co94, .int .i64 a1, .int .i64 x20_2, .int .i64 x18_59, .func (.func 47) #[] #[]] rfl mt ?_; (with_reducible refine (ih kj83 (by have := HJ59.out; have := HK2.out; have := HJ76.out; have := HJ78.out; have := HJ83.out; omega) (fun k_ => some k_ = (.slice Ao94 x0_78.length co94 : Value).ownBlock) (.slice Ao94 x0_78.length co94) x0_78 a1 x20_2 x18_59  t299 w0 _ ?side1 ?side2 A87.out).mono ?_); (case side1 => repeat (first | (with_reducible first | exact HB.out | apply below_alloc | apply pw_below_drewN | apply below_drew1) | exact HB.out)); (case side2 => exact Kd.R_tight rfl HO_0.out); rintro e w95 ⟨rfl, hy0, hb, hkp⟩; refine ⟨_, rfl, ?_⟩; have n0_ := Aside0.mk (Kd.R_reok rfl hy0 (fun k_ e_ => HO_0.out.1 k_ e_)); have n1_ := Aside0.mk (Kept.then_ (S := (fun k_ => P0_ k_)) (mK HK.out) hkp (fun k_ hs_ => (fun e_ => (HO_0.out.1 k_ e_.symm)) hs_)); have n2_ := Aside0.mk (hb); clear HO_0; clear HK; clear HB; have HO_0 := n0_; have HK := n1_; have HB := n2_; clear n0_ n1_ n2_; (try clear hb); (try clear hkp); (try clear hy0)))
                 first | go_end0 | ((try simp only [Exit.inBlock, Exit.then]); refine bodyPost_ret (results_none rfl _ _ _) rfl ?_)
                 exact ⟨by first | rfl | (simp [errW_none, errW_some] <;> rfl) | (simp [*, errW_none, errW_some] <;> rfl), mR HO_0.out, by repeat (first | (with_reducible first | exact HB.out | apply below_alloc | apply pw_below_drewN | apply below_drew1) | exact HB.out), by repeat (first | (with_reducible first | exact HK.out | apply Kept.alloc | apply Kept.drewN | apply Kept.drew) | exact HK.out)⟩
               ·rw [if_neg c88] at H
                have c88b0 : decide (x18_59 < (wrap64 (x19_59 - x20_2))) = false := decide_eq_false c88
                clear c88
                obtain rfl := Option.some.inj H
                obtain ⟨Ao96, co96, eo96⟩ := Kd.R_slice HO_0.out
                subst eo96
                go_wp2_with (first | ((with_reducible refine gate_callee (f := 68) rfl ?_); refine goesL_ (some 205) rfl rfl Try.func68 (by kernel_rfl) rfl #[.slice Ao96 x0_78.length co96, .int .i64 a1, .int .i64 x20_2, .int .i64 x18_59, .func (.func 47) #[] #[]] rfl mt ?_; (with_reducible refine (ih kj83 (by have := HJ59.out; have := HK2.out; have := HJ76.out; have := HJ78.out; have := HJ83.out; omega) (fun k_ => some k_ = (.slice Ao96 x0_78.length co96 : Value).ownBlock) (.slice Ao96 x0_78.length co96) x0_78 a1 x20_2 x18_59  t299 w0 _ ?side1 ?side2 A87.out).mono ?_); (case side1 => repeat (first | (with_reducible first | exact HB.out | apply below_alloc | apply pw_below_drewN | apply below_drew1) | exact HB.out)); (case side2 => exact Kd.R_tight rfl HO_0.out); rintro e w97 ⟨rfl, hy0, hb, hkp⟩; refine ⟨_, rfl, ?_⟩; have n0_ := Aside0.mk (Kd.R_reok rfl hy0 (fun k_ e_ => HO_0.out.1 k_ e_)); have n1_ := Aside0.mk (Kept.then_ (S := (fun k_ => P0_ k_)) (mK HK.out) hkp (fun k_ hs_ => (fun e_ => (HO_0.out.1 k_ e_.symm)) hs_)); have n2_ := Aside0.mk (hb); clear HO_0; clear HK; clear HB; have HO_0 := n0_; have HK := n1_; have HB := n2_; clear n0_ n1_ n2_; (try clear hb); (try clear hkp); (try clear hy0)))
                first | go_end0 | ((try simp only [Exit.inBlock, Exit.then]); refine bodyPost_ret (results_none rfl _ _ _) rfl ?_)
                exact ⟨by first | rfl | (simp [errW_none, errW_some] <;> rfl) | (simp [*, errW_none, errW_some] <;> rfl), mR HO_0.out, by repeat (first | (with_reducible first | exact HB.out | apply below_alloc | apply pw_below_drewN | apply below_drew1) | exact HB.out), by repeat (first | (with_reducible first | exact HK.out | apply Kept.alloc | apply Kept.drewN | apply Kept.drew) | exact HK.out)⟩
              ·replace c86 := Bool.eq_false_iff.mpr c86
               subst c86
               have H1 : (if x18_59 < (wrap64 (x19_59 - x20_2)) then (if (wrap64 (x19_59 - x20_2)) < a3 then ((slices_symMergeCmpFunc_Job__job_Due_1.f kj83 x0_78 x18_59 (wrap64 (x19_59 - x20_2)) a3).bind fun t301 => (some t301)) else (some x0_78)) else (some x0_78)) = some r := by rw [if_neg (show ¬ (false = true) by decide)] at H; exact H
               clear H
               have H := H1
               clear H1
               by_cases c98 : x18_59 < (wrap64 (x19_59 - x20_2))
               ·rw [if_pos c98] at H
                have c98b0 : decide (x18_59 < (wrap64 (x19_59 - x20_2))) = true := decide_eq_true c98
                clear c98
                by_cases c99 : (wrap64 (x19_59 - x20_2)) < a3
                ·rw [if_pos c99] at H
                 have c99b0 : decide ((wrap64 (x19_59 - x20_2)) < a3) = true := decide_eq_true c99
                 clear c99
                 replace H := Option.bind_eq_some_iff.mp H
                 obtain ⟨t301, A1000, H⟩ := H
                 replace H : (some t301) = some r := H
                 have A100 := Aside0.mk A1000
                 clear A1000
                 obtain rfl := Option.some.inj H
                 obtain ⟨Ao101, co101, eo101⟩ := Kd.R_slice HO_0.out
                 subst eo101
                 go_wp2_with (first | ((with_reducible refine gate_callee (f := 68) rfl ?_); refine goesL_ (some 219) rfl rfl Try.func68 (by kernel_rfl) rfl #[.slice Ao101 x0_78.length co101, .int .i64 x18_59, .int .i64 (wrap64 (x19_59 - x20_2)), .int .i64 a3, .func (.func 47) #[] #[]] rfl mt ?_; (with_reducible refine (ih kj83 (by have := HJ59.out; have := HK2.out; have := HJ76.out; have := HJ78.out; have := HJ83.out; omega) (fun k_ => some k_ = (.slice Ao101 x0_78.length co101 : Value).ownBlock) (.slice Ao101 x0_78.length co101) x0_78 x18_59 (wrap64 (x19_59 - x20_2)) a3  t301 w0 _ ?side1 ?side2 A100.out).mono ?_); (case side1 => repeat (first | (with_reducible first | exact HB.out | apply below_alloc | apply pw_below_drewN | apply below_drew1) | exact HB.out)); (case side2 => exact Kd.R_tight rfl HO_0.out); rintro e w102 ⟨rfl, hy0, hb, hkp⟩; refine ⟨_, rfl, ?_⟩; have n0_ := Aside0.mk (Kd.R_reok rfl hy0 (fun k_ e_ => HO_0.out.1 k_ e_)); have n1_ := Aside0.mk (Kept.then_ (S := (fun k_ => P0_ k_)) (mK HK.out) hkp (fun k_ hs_ => (fun e_ => (HO_0.out.1 k_ e_.symm)) hs_)); have n2_ := Aside0.mk (hb); clear HO_0; clear HK; clear HB; have HO_0 := n0_; have HK := n1_; have HB := n2_; clear n0_ n1_ n2_; (try clear hb); (try clear hkp); (try clear hy0)))
                 first | go_end0 | ((try simp only [Exit.inBlock, Exit.then]); refine bodyPost_ret (results_none rfl _ _ _) rfl ?_)
                 exact ⟨by first | rfl | (simp [errW_none, errW_some] <;> rfl) | (simp [*, errW_none, errW_some] <;> rfl), mR HO_0.out, by repeat (first | (with_reducible first | exact HB.out | apply below_alloc | apply pw_below_drewN | apply below_drew1) | exact HB.out), by repeat (first | (with_reducible first | exact HK.out | apply Kept.alloc | apply Kept.drewN | apply Kept.drew) | exact HK.out)⟩
                ·rw [if_neg c99] at H
                 have c99b0 : decide ((wrap64 (x19_59 - x20_2)) < a3) = false := decide_eq_false c99
                 clear c99
                 obtain rfl := Option.some.inj H
                 go_wp2
                 first | go_end0 | ((try simp only [Exit.inBlock, Exit.then]); refine bodyPost_ret (results_none rfl _ _ _) rfl ?_)
                 exact ⟨by first | rfl | (simp [errW_none, errW_some] <;> rfl) | (simp [*, errW_none, errW_some] <;> rfl), mR HO_0.out, by repeat (first | (with_reducible first | exact HB.out | apply below_alloc | apply pw_below_drewN | apply below_drew1) | exact HB.out), by repeat (first | (with_reducible first | exact HK.out | apply Kept.alloc | apply Kept.drewN | apply Kept.drew) | exact HK.out)⟩
               ·rw [if_neg c98] at H
                have c98b0 : decide (x18_59 < (wrap64 (x19_59 - x20_2))) = false := decide_eq_false c98
                clear c98
                obtain rfl := Option.some.inj H
                go_wp2
                first | go_end0 | ((try simp only [Exit.inBlock, Exit.then]); refine bodyPost_ret (results_none rfl _ _ _) rfl ?_)
                exact ⟨by first | rfl | (simp [errW_none, errW_some] <;> rfl) | (simp [*, errW_none, errW_some] <;> rfl), mR HO_0.out, by repeat (first | (with_reducible first | exact HB.out | apply below_alloc | apply pw_below_drewN | apply below_drew1) | exact HB.out), by repeat (first | (with_reducible first | exact HK.out | apply Kept.alloc | apply Kept.drewN | apply Kept.drew) | exact HK.out)⟩

end Go.Proofs.Ytkhfgflcanmefaa.PAll
end
