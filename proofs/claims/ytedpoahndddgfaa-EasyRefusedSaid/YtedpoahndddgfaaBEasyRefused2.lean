/- Words, plain functions and contracts of the functions that the law of this claim reaches; no conditions. -/
import Derived.Test.YtedpoahndddgfaaBEasyRefused1
section
namespace Go.Proofs.Ytedpoahndddgfaa.PAll
open Go.RowKit Go.Proofs.YtedpoahndddgfaaW.PrintWords Go.Proofs.YtedpoahndddgfaaW.PrintLast Go.Proofs.YtedpoahndddgfaaW.PrintMore
attribute [local go_sem] max2_int min2_int max_two min_two max_three min_three max_four min_four   -- for this text's walks alone
set_option linter.unusedVariables false
set_option linter.unusedSimpArgs false

/-! ### slices_symMergeCmpFunc_Step__profile_tidy_1: function 64 -/
mutual
def slices_symMergeCmpFunc_Step__profile_tidy_1.l0 : Nat → List (S40) → Int → Int → Int → Option ((List (S40)))
 | 0, _, _, _, _ => none
 | k + 1, x0, x1, x10, x11 => if x10 < x11 then (if 0 ≤ (wrap64 ((IntKind.u64.wrap (wrap64 (x10 + x11))) / 2)) then (if (wrap64 ((IntKind.u64.wrap (wrap64 (x10 + x11))) / 2)) < (x0.length : Int) then (if 0 ≤ x1 then (if x1 < (x0.length : Int) then ((profile_tidy_1.f ((rd_T40 x0 (wrap64 ((IntKind.u64.wrap (wrap64 (x10 + x11))) / 2))).f0) ((rd_T40 x0 (wrap64 ((IntKind.u64.wrap (wrap64 (x10 + x11))) / 2))).f1) ((rd_T40 x0 x1).f0) ((rd_T40 x0 x1).f1)).bind fun t131 => (if t131 < 0 then (slices_symMergeCmpFunc_Step__profile_tidy_1.l0 k x0 x1 (wrap64 ((wrap64 ((IntKind.u64.wrap (wrap64 (x10 + x11))) / 2)) + 1)) x11) else (slices_symMergeCmpFunc_Step__profile_tidy_1.l0 k x0 x1 x10 (wrap64 ((IntKind.u64.wrap (wrap64 (x10 + x11))) / 2))))) else (none)) else (none)) else (none)) else (none)) else (slices_symMergeCmpFunc_Step__profile_tidy_1.l1 k x0 x10 x1)
def slices_symMergeCmpFunc_Step__profile_tidy_1.l1 : Nat → List (S40) → Int → Int → Option ((List (S40)))
 | 0, _, _, _ => none
 | k + 1, x0, x10, x13 => if x13 < (wrap64 (x10 - 1)) then (if 0 ≤ (wrap64 (x13 + 1)) then (if (wrap64 (x13 + 1)) < (x0.length : Int) then (if 0 ≤ x13 then (if x13 < (x0.length : Int) then (slices_symMergeCmpFunc_Step__profile_tidy_1.l1 k ((x0.set (x13 : Int).toNat (⟨(rd_T40 x0 (wrap64 (x13 + 1))).f0, (rd_T40 x0 (wrap64 (x13 + 1))).f1⟩ : S40)).set ((wrap64 (x13 + 1)) : Int).toNat (⟨(rd_T40 x0 x13).f0, (rd_T40 x0 x13).f1⟩ : S40)) x10 (wrap64 (x13 + 1))) else (none)) else (none)) else (none)) else (none)) else (some x0)
def slices_symMergeCmpFunc_Step__profile_tidy_1.l2 : Nat → List (S40) → Int → Int → Int → Option ((List (S40)))
 | 0, _, _, _, _ => none
 | k + 1, x0, x2, x14, x15 => if x14 < x15 then (if 0 ≤ x2 then (if x2 < (x0.length : Int) then (if 0 ≤ (wrap64 ((IntKind.u64.wrap (wrap64 (x14 + x15))) / 2)) then (if (wrap64 ((IntKind.u64.wrap (wrap64 (x14 + x15))) / 2)) < (x0.length : Int) then ((profile_tidy_1.f ((rd_T40 x0 x2).f0) ((rd_T40 x0 x2).f1) ((rd_T40 x0 (wrap64 ((IntKind.u64.wrap (wrap64 (x14 + x15))) / 2))).f0) ((rd_T40 x0 (wrap64 ((IntKind.u64.wrap (wrap64 (x14 + x15))) / 2))).f1)).bind fun t138 => (if t138 < 0 then (slices_symMergeCmpFunc_Step__profile_tidy_1.l2 k x0 x2 x14 (wrap64 ((IntKind.u64.wrap (wrap64 (x14 + x15))) / 2))) else (slices_symMergeCmpFunc_Step__profile_tidy_1.l2 k x0 x2 (wrap64 ((wrap64 ((IntKind.u64.wrap (wrap64 (x14 + x15))) / 2)) + 1)) x15))) else (none)) else (none)) else (none)) else (none)) else (slices_symMergeCmpFunc_Step__profile_tidy_1.l3 k x0 x14 x2)
def slices_symMergeCmpFunc_Step__profile_tidy_1.l3 : Nat → List (S40) → Int → Int → Option ((List (S40)))
 | 0, _, _, _ => none
 | k + 1, x0, x14, x17 => if x17 > x14 then (if 0 ≤ (wrap64 (x17 - 1)) then (if (wrap64 (x17 - 1)) < (x0.length : Int) then (if 0 ≤ x17 then (if x17 < (x0.length : Int) then (slices_symMergeCmpFunc_Step__profile_tidy_1.l3 k ((x0.set (x17 : Int).toNat (⟨(rd_T40 x0 (wrap64 (x17 - 1))).f0, (rd_T40 x0 (wrap64 (x17 - 1))).f1⟩ : S40)).set ((wrap64 (x17 - 1)) : Int).toNat (⟨(rd_T40 x0 x17).f0, (rd_T40 x0 x17).f1⟩ : S40)) x14 (wrap64 (x17 - 1))) else (none)) else (none)) else (none)) else (none)) else (some x0)
def slices_symMergeCmpFunc_Step__profile_tidy_1.j4 : Nat → List (S40) → Int → Int → Int → Int → Int → Int → Int → Option ((List (S40)))
 | 0, _, _, _, _, _, _, _, _ => none
 | k + 1, x0, x1, x2, x3, x18, x19, x20, x21 => slices_symMergeCmpFunc_Step__profile_tidy_1.l4 k x0 x1 x2 x3 x18 x19 x20 x21 (wrap64 (x19 - 1))
def slices_symMergeCmpFunc_Step__profile_tidy_1.l4 : Nat → List (S40) → Int → Int → Int → Int → Int → Int → Int → Int → Option ((List (S40)))
 | 0, _, _, _, _, _, _, _, _, _ => none
 | k + 1, x0, x1, x2, x3, x18, x19, x20, x21, x22 => if x20 < x21 then (if 0 ≤ (wrap64 (x22 - (wrap64 ((IntKind.u64.wrap (wrap64 (x20 + x21))) / 2)))) then (if (wrap64 (x22 - (wrap64 ((IntKind.u64.wrap (wrap64 (x20 + x21))) / 2)))) < (x0.length : Int) then (if 0 ≤ (wrap64 ((IntKind.u64.wrap (wrap64 (x20 + x21))) / 2)) then (if (wrap64 ((IntKind.u64.wrap (wrap64 (x20 + x21))) / 2)) < (x0.length : Int) then ((profile_tidy_1.f ((rd_T40 x0 (wrap64 (x22 - (wrap64 ((IntKind.u64.wrap (wrap64 (x20 + x21))) / 2))))).f0) ((rd_T40 x0 (wrap64 (x22 - (wrap64 ((IntKind.u64.wrap (wrap64 (x20 + x21))) / 2))))).f1) ((rd_T40 x0 (wrap64 ((IntKind.u64.wrap (wrap64 (x20 + x21))) / 2))).f0) ((rd_T40 x0 (wrap64 ((IntKind.u64.wrap (wrap64 (x20 + x21))) / 2))).f1)).bind fun t145 => (if t145 < 0 then (slices_symMergeCmpFunc_Step__profile_tidy_1.l4 k x0 x1 x2 x3 x18 x19 x20 (wrap64 ((IntKind.u64.wrap (wrap64 (x20 + x21))) / 2)) x22) else (slices_symMergeCmpFunc_Step__profile_tidy_1.l4 k x0 x1 x2 x3 x18 x19 (wrap64 ((wrap64 ((IntKind.u64.wrap (wrap64 (x20 + x21))) / 2)) + 1)) x21 x22))) else (none)) else (none)) else (none)) else (none)) else (if x20 < x2 then (slices_symMergeCmpFunc_Step__profile_tidy_1.j6 k x0 x1 x2 x3 x18 x20 (wrap64 (x19 - x20)) (decide (x2 < (wrap64 (x19 - x20))))) else (slices_symMergeCmpFunc_Step__profile_tidy_1.j6 k x0 x1 x2 x3 x18 x20 (wrap64 (x19 - x20)) false))
def slices_symMergeCmpFunc_Step__profile_tidy_1.j6 : Nat → List (S40) → Int → Int → Int → Int → Int → Int → Bool → Option ((List (S40)))
 | 0, _, _, _, _, _, _, _, _ => none
 | k + 1, x0, x1, x2, x3, x18, x20, x24, x185 => if x185 = true then ((slices_rotateCmpFunc_Step__profile_tidy_1.f k x0 x20 x2 x24).bind fun t146 => (slices_symMergeCmpFunc_Step__profile_tidy_1.j7 k t146 x1 x3 x18 x20 x24)) else (slices_symMergeCmpFunc_Step__profile_tidy_1.j7 k x0 x1 x3 x18 x20 x24)
def slices_symMergeCmpFunc_Step__profile_tidy_1.j7 : Nat → List (S40) → Int → Int → Int → Int → Int → Option ((List (S40)))
 | 0, _, _, _, _, _, _ => none
 | k + 1, x0, x1, x3, x18, x20, x24 => if x1 < x20 then (slices_symMergeCmpFunc_Step__profile_tidy_1.j8 k x0 x1 x3 x18 x20 x24 (decide (x20 < x18))) else (slices_symMergeCmpFunc_Step__profile_tidy_1.j8 k x0 x1 x3 x18 x20 x24 false)
def slices_symMergeCmpFunc_Step__profile_tidy_1.j8 : Nat → List (S40) → Int → Int → Int → Int → Int → Bool → Option ((List (S40)))
 | 0, _, _, _, _, _, _, _ => none
 | k + 1, x0, x1, x3, x18, x20, x24, x199 => if x199 = true then ((slices_symMergeCmpFunc_Step__profile_tidy_1.f k x0 x1 x20 x18).bind fun t147 => (if x18 < x24 then (if x24 < x3 then ((slices_symMergeCmpFunc_Step__profile_tidy_1.f k t147 x18 x24 x3).bind fun t148 => (some t148)) else (some t147)) else (some t147))) else (if x18 < x24 then (if x24 < x3 then ((slices_symMergeCmpFunc_Step__profile_tidy_1.f k x0 x18 x24 x3).bind fun t149 => (some t149)) else (some x0)) else (some x0))
def slices_symMergeCmpFunc_Step__profile_tidy_1.f : Nat → List (S40) → Int → Int → Int → Option ((List (S40)))
 | 0, _, _, _, _ => none
 | k + 1, l0, a1, a2, a3 => if (wrap64 (a2 - a1)) = 1 then (slices_symMergeCmpFunc_Step__profile_tidy_1.l0 k l0 a1 a2 a3) else (if (wrap64 (a3 - a2)) = 1 then (slices_symMergeCmpFunc_Step__profile_tidy_1.l2 k l0 a2 a1 a2) else (if a2 > (wrap64 ((IntKind.u64.wrap (wrap64 (a1 + a3))) / 2)) then (slices_symMergeCmpFunc_Step__profile_tidy_1.j4 k l0 a1 a2 a3 (wrap64 ((IntKind.u64.wrap (wrap64 (a1 + a3))) / 2)) (wrap64 ((wrap64 ((IntKind.u64.wrap (wrap64 (a1 + a3))) / 2)) + a2)) (wrap64 ((wrap64 ((wrap64 ((IntKind.u64.wrap (wrap64 (a1 + a3))) / 2)) + a2)) - a3)) (wrap64 ((IntKind.u64.wrap (wrap64 (a1 + a3))) / 2))) else (slices_symMergeCmpFunc_Step__profile_tidy_1.j4 k l0 a1 a2 a3 (wrap64 ((IntKind.u64.wrap (wrap64 (a1 + a3))) / 2)) (wrap64 ((wrap64 ((IntKind.u64.wrap (wrap64 (a1 + a3))) / 2)) + a2)) a1 a2)))
end
theorem slices_symMergeCmpFunc_Step__profile_tidy_1.mono_l : ∀ k, (∀ y0 y1 y2 y3, LeO (slices_symMergeCmpFunc_Step__profile_tidy_1.f k y0 y1 y2 y3) (slices_symMergeCmpFunc_Step__profile_tidy_1.f (k + 1) y0 y1 y2 y3)) ∧ (∀ y0 y1 y2 y3, LeO (slices_symMergeCmpFunc_Step__profile_tidy_1.l0 k y0 y1 y2 y3) (slices_symMergeCmpFunc_Step__profile_tidy_1.l0 (k + 1) y0 y1 y2 y3)) ∧ (∀ y0 y1 y2, LeO (slices_symMergeCmpFunc_Step__profile_tidy_1.l1 k y0 y1 y2) (slices_symMergeCmpFunc_Step__profile_tidy_1.l1 (k + 1) y0 y1 y2)) ∧ (∀ y0 y1 y2 y3, LeO (slices_symMergeCmpFunc_Step__profile_tidy_1.l2 k y0 y1 y2 y3) (slices_symMergeCmpFunc_Step__profile_tidy_1.l2 (k + 1) y0 y1 y2 y3)) ∧ (∀ y0 y1 y2, LeO (slices_symMergeCmpFunc_Step__profile_tidy_1.l3 k y0 y1 y2) (slices_symMergeCmpFunc_Step__profile_tidy_1.l3 (k + 1) y0 y1 y2)) ∧ (∀ y0 y1 y2 y3 y4 y5 y6 y7, LeO (slices_symMergeCmpFunc_Step__profile_tidy_1.j4 k y0 y1 y2 y3 y4 y5 y6 y7) (slices_symMergeCmpFunc_Step__profile_tidy_1.j4 (k + 1) y0 y1 y2 y3 y4 y5 y6 y7)) ∧ (∀ y0 y1 y2 y3 y4 y5 y6 y7 y8, LeO (slices_symMergeCmpFunc_Step__profile_tidy_1.l4 k y0 y1 y2 y3 y4 y5 y6 y7 y8) (slices_symMergeCmpFunc_Step__profile_tidy_1.l4 (k + 1) y0 y1 y2 y3 y4 y5 y6 y7 y8)) ∧ (∀ y0 y1 y2 y3 y4 y5 y6 y7, LeO (slices_symMergeCmpFunc_Step__profile_tidy_1.j6 k y0 y1 y2 y3 y4 y5 y6 y7) (slices_symMergeCmpFunc_Step__profile_tidy_1.j6 (k + 1) y0 y1 y2 y3 y4 y5 y6 y7)) ∧ (∀ y0 y1 y2 y3 y4 y5, LeO (slices_symMergeCmpFunc_Step__profile_tidy_1.j7 k y0 y1 y2 y3 y4 y5) (slices_symMergeCmpFunc_Step__profile_tidy_1.j7 (k + 1) y0 y1 y2 y3 y4 y5)) ∧ (∀ y0 y1 y2 y3 y4 y5 y6, LeO (slices_symMergeCmpFunc_Step__profile_tidy_1.j8 k y0 y1 y2 y3 y4 y5 y6) (slices_symMergeCmpFunc_Step__profile_tidy_1.j8 (k + 1) y0 y1 y2 y3 y4 y5 y6))
 | 0 => ⟨fun _ _ _ _ r h => by simp [slices_symMergeCmpFunc_Step__profile_tidy_1.f] at h, fun _ _ _ _ r h => by simp [slices_symMergeCmpFunc_Step__profile_tidy_1.l0] at h, fun _ _ _ r h => by simp [slices_symMergeCmpFunc_Step__profile_tidy_1.l1] at h, fun _ _ _ _ r h => by simp [slices_symMergeCmpFunc_Step__profile_tidy_1.l2] at h, fun _ _ _ r h => by simp [slices_symMergeCmpFunc_Step__profile_tidy_1.l3] at h, fun _ _ _ _ _ _ _ _ r h => by simp [slices_symMergeCmpFunc_Step__profile_tidy_1.j4] at h, fun _ _ _ _ _ _ _ _ _ r h => by simp [slices_symMergeCmpFunc_Step__profile_tidy_1.l4] at h, fun _ _ _ _ _ _ _ _ r h => by simp [slices_symMergeCmpFunc_Step__profile_tidy_1.j6] at h, fun _ _ _ _ _ _ r h => by simp [slices_symMergeCmpFunc_Step__profile_tidy_1.j7] at h, fun _ _ _ _ _ _ _ r h => by simp [slices_symMergeCmpFunc_Step__profile_tidy_1.j8] at h⟩
 | k + 1 => by
  obtain ⟨ih0, ih1, ih2, ih3, ih4, ih5, ih6, ih7, ih8, ih9⟩ := slices_symMergeCmpFunc_Step__profile_tidy_1.mono_l k
  refine ⟨?_, ?_, ?_, ?_, ?_, ?_, ?_, ?_, ?_, ?_⟩
  ·intro y0 y1 y2 y3
   unfold slices_symMergeCmpFunc_Step__profile_tidy_1.f
   repeat' first
   | (with_reducible exact ih0 _ _ _ _)
   | (with_reducible exact ih1 _ _ _ _)
   | (with_reducible exact ih2 _ _ _)
   | (with_reducible exact ih3 _ _ _ _)
   | (with_reducible exact ih4 _ _ _)
   | (with_reducible exact ih5 _ _ _ _ _ _ _ _)
   | (with_reducible exact ih6 _ _ _ _ _ _ _ _ _)
   | (with_reducible exact ih7 _ _ _ _ _ _ _ _)
   | (with_reducible exact ih8 _ _ _ _ _ _)
   | (with_reducible exact ih9 _ _ _ _ _ _ _)
   | (with_reducible exact slices_rotateCmpFunc_Step__profile_tidy_1.mono _ _ _ _ _)
   | (with_reducible exact LeO.refl _)
   | (with_reducible exact LeO.none _)
   | (with_reducible refine LeO.ite ?_ ?_)
   | (with_reducible refine LeO.bind ?_ (fun _ => ?_))
   | exact ih0 _ _ _ _
   | exact ih1 _ _ _ _
   | exact ih2 _ _ _
   | exact ih3 _ _ _ _
   | exact ih4 _ _ _
   | exact ih5 _ _ _ _ _ _ _ _
   | exact ih6 _ _ _ _ _ _ _ _ _
   | exact ih7 _ _ _ _ _ _ _ _
   | exact ih8 _ _ _ _ _ _
   | exact ih9 _ _ _ _ _ _ _
   | exact slices_rotateCmpFunc_Step__profile_tidy_1.mono _ _ _ _ _
   | exact LeO.none _
   | refine LeO.ite ?_ ?_
   | refine LeO.bind ?_ (fun _ => ?_)
  ·intro y0 y1 y2 y3
   unfold slices_symMergeCmpFunc_Step__profile_tidy_1.l0
   repeat' first
   | (with_reducible exact ih0 _ _ _ _)
   | (with_reducible exact ih1 _ _ _ _)
   | (with_reducible exact ih2 _ _ _)
   | (with_reducible exact ih3 _ _ _ _)
   | (with_reducible exact ih4 _ _ _)
   | (with_reducible exact ih5 _ _ _ _ _ _ _ _)
   | (with_reducible exact ih6 _ _ _ _ _ _ _ _ _)
   | (with_reducible exact ih7 _ _ _ _ _ _ _ _)
   | (with_reducible exact ih8 _ _ _ _ _ _)
   | (with_reducible exact ih9 _ _ _ _ _ _ _)
   | (with_reducible exact slices_rotateCmpFunc_Step__profile_tidy_1.mono _ _ _ _ _)
   | (with_reducible exact LeO.refl _)
   | (with_reducible exact LeO.none _)
   | (with_reducible refine LeO.ite ?_ ?_)
   | (with_reducible refine LeO.bind ?_ (fun _ => ?_))
   | exact ih0 _ _ _ _
   | exact ih1 _ _ _ _
   | exact ih2 _ _ _
   | exact ih3 _ _ _ _
   | exact ih4 _ _ _
   | exact ih5 _ _ _ _ _ _ _ _
   | exact ih6 _ _ _ _ _ _ _ _ _
   | exact ih7 _ _ _ _ _ _ _ _
   | exact ih8 _ _ _ _ _ _
   | exact ih9 _ _ _ _ _ _ _
   | exact slices_rotateCmpFunc_Step__profile_tidy_1.mono _ _ _ _ _
   | exact LeO.none _
   | refine LeO.ite ?_ ?_
   | refine LeO.bind ?_ (fun _ => ?_)
  ·intro y0 y1 y2
   unfold slices_symMergeCmpFunc_Step__profile_tidy_1.l1
   repeat' first
   | (with_reducible exact ih0 _ _ _ _)
   | (with_reducible exact ih1 _ _ _ _)
   | (with_reducible exact ih2 _ _ _)
   | (with_reducible exact ih3 _ _ _ _)
   | (with_reducible exact ih4 _ _ _)
   | (with_reducible exact ih5 _ _ _ _ _ _ _ _)
   | (with_reducible exact ih6 _ _ _ _ _ _ _ _ _)
   | (with_reducible exact ih7 _ _ _ _ _ _ _ _)
   | (with_reducible exact ih8 _ _ _ _ _ _)
   | (with_reducible exact ih9 _ _ _ _ _ _ _)
   | (with_reducible exact slices_rotateCmpFunc_Step__profile_tidy_1.mono _ _ _ _ _)
   | (with_reducible exact LeO.refl _)
   | (with_reducible exact LeO.none _)
   | (with_reducible refine LeO.ite ?_ ?_)
   | (with_reducible refine LeO.bind ?_ (fun _ => ?_))
   | exact ih0 _ _ _ _
   | exact ih1 _ _ _ _
   | exact ih2 _ _ _
   | exact ih3 _ _ _ _
   | exact ih4 _ _ _
   | exact ih5 _ _ _ _ _ _ _ _
   | exact ih6 _ _ _ _ _ _ _ _ _
   | exact ih7 _ _ _ _ _ _ _ _
   | exact ih8 _ _ _ _ _ _
   | exact ih9 _ _ _ _ _ _ _
   | exact slices_rotateCmpFunc_Step__profile_tidy_1.mono _ _ _ _ _
   | exact LeO.none _
   | refine LeO.ite ?_ ?_
   | refine LeO.bind ?_ (fun _ => ?_)
  ·intro y0 y1 y2 y3
   unfold slices_symMergeCmpFunc_Step__profile_tidy_1.l2
   repeat' first
   | (with_reducible exact ih0 _ _ _ _)
   | (with_reducible exact ih1 _ _ _ _)
   | (with_reducible exact ih2 _ _ _)
   | (with_reducible exact ih3 _ _ _ _)
   | (with_reducible exact ih4 _ _ _)
   | (with_reducible exact ih5 _ _ _ _ _ _ _ _)
   | (with_reducible exact ih6 _ _ _ _ _ _ _ _ _)
   | (with_reducible exact ih7 _ _ _ _ _ _ _ _)
   | (with_reducible exact ih8 _ _ _ _ _ _)
   | (with_reducible exact ih9 _ _ _ _ _ _ _)
   | (with_reducible exact slices_rotateCmpFunc_Step__profile_tidy_1.mono _ _ _ _ _)
   | (with_reducible exact LeO.refl _)
   | (with_reducible exact LeO.none _)
   | (with_reducible refine LeO.ite ?_ ?_)
   | (with_reducible refine LeO.bind ?_ (fun _ => ?_))
   | exact ih0 _ _ _ _
   | exact ih1 _ _ _ _
   | exact ih2 _ _ _
   | exact ih3 _ _ _ _
   | exact ih4 _ _ _
   | exact ih5 _ _ _ _ _ _ _ _
   | exact ih6 _ _ _ _ _ _ _ _ _
   | exact ih7 _ _ _ _ _ _ _ _
   | exact ih8 _ _ _ _ _ _
   | exact ih9 _ _ _ _ _ _ _
   | exact slices_rotateCmpFunc_Step__profile_tidy_1.mono _ _ _ _ _
   | exact LeO.none _
   | refine LeO.ite ?_ ?_
   | refine LeO.bind ?_ (fun _ => ?_)
  ·intro y0 y1 y2
   unfold slices_symMergeCmpFunc_Step__profile_tidy_1.l3
   repeat' first
   | (with_reducible exact ih0 _ _ _ _)
   | (with_reducible exact ih1 _ _ _ _)
   | (with_reducible exact ih2 _ _ _)
   | (with_reducible exact ih3 _ _ _ _)
   | (with_reducible exact ih4 _ _ _)
   | (with_reducible exact ih5 _ _ _ _ _ _ _ _)
   | (with_reducible exact ih6 _ _ _ _ _ _ _ _ _)
   | (with_reducible exact ih7 _ _ _ _ _ _ _ _)
   | (with_reducible exact ih8 _ _ _ _ _ _)
   | (with_reducible exact ih9 _ _ _ _ _ _ _)
   | (with_reducible exact slices_rotateCmpFunc_Step__profile_tidy_1.mono _ _ _ _ _)
   | (with_reducible exact LeO.refl _)
   | (with_reducible exact LeO.none _)
   | (with_reducible refine LeO.ite ?_ ?_)
   | (with_reducible refine LeO.bind ?_ (fun _ => ?_))
   | exact ih0 _ _ _ _
   | exact ih1 _ _ _ _
   | exact ih2 _ _ _
   | exact ih3 _ _ _ _
   | exact ih4 _ _ _
   | exact ih5 _ _ _ _ _ _ _ _
   | exact ih6 _ _ _ _ _ _ _ _ _
   | exact ih7 _ _ _ _ _ _ _ _
   | exact ih8 _ _ _ _ _ _
   | exact ih9 _ _ _ _ _ _ _
   | exact slices_rotateCmpFunc_Step__profile_tidy_1.mono _ _ _ _ _
   | exact LeO.none _
   | refine LeO.ite ?_ ?_
   | refine LeO.bind ?_ (fun _ => ?_)
  ·intro y0 y1 y2 y3 y4 y5 y6 y7
   unfold slices_symMergeCmpFunc_Step__profile_tidy_1.j4
   repeat' first
   | (with_reducible exact ih0 _ _ _ _)
   | (with_reducible exact ih1 _ _ _ _)
   | (with_reducible exact ih2 _ _ _)
   | (with_reducible exact ih3 _ _ _ _)
   | (with_reducible exact ih4 _ _ _)
   | (with_reducible exact ih5 _ _ _ _ _ _ _ _)
   | (with_reducible exact ih6 _ _ _ _ _ _ _ _ _)
   | (with_reducible exact ih7 _ _ _ _ _ _ _ _)
   | (with_reducible exact ih8 _ _ _ _ _ _)
   | (with_reducible exact ih9 _ _ _ _ _ _ _)
   | (with_reducible exact slices_rotateCmpFunc_Step__profile_tidy_1.mono _ _ _ _ _)
   | (with_reducible exact LeO.refl _)
   | (with_reducible exact LeO.none _)
   | (with_reducible refine LeO.ite ?_ ?_)
   | (with_reducible refine LeO.bind ?_ (fun _ => ?_))
   | exact ih0 _ _ _ _
   | exact ih1 _ _ _ _
   | exact ih2 _ _ _
   | exact ih3 _ _ _ _
   | exact ih4 _ _ _
   | exact ih5 _ _ _ _ _ _ _ _
   | exact ih6 _ _ _ _ _ _ _ _ _
   | exact ih7 _ _ _ _ _ _ _ _
   | exact ih8 _ _ _ _ _ _
   | exact ih9 _ _ _ _ _ _ _
   | exact slices_rotateCmpFunc_Step__profile_tidy_1.mono _ _ _ _ _
   | exact LeO.none _
   | refine LeO.ite ?_ ?_
   | refine LeO.bind ?_ (fun _ => ?_)
  ·intro y0 y1 y2 y3 y4 y5 y6 y7 y8
   unfold slices_symMergeCmpFunc_Step__profile_tidy_1.l4
   repeat' first
   | (with_reducible exact ih0 _ _ _ _)
   | (with_reducible exact ih1 _ _ _ _)
   | (with_reducible exact ih2 _ _ _)
   | (with_reducible exact ih3 _ _ _ _)
   | (with_reducible exact ih4 _ _ _)
   | (with_reducible exact ih5 _ _ _ _ _ _ _ _)
   | (with_reducible exact ih6 _ _ _ _ _ _ _ _ _)
   | (with_reducible exact ih7 _ _ _ _ _ _ _ _)
   | (with_reducible exact ih8 _ _ _ _ _ _)
   | (with_reducible exact ih9 _ _ _ _ _ _ _)
   | (with_reducible exact slices_rotateCmpFunc_Step__profile_tidy_1.mono _ _ _ _ _)
   | (with_reducible exact LeO.refl _)
   | (with_reducible exact LeO.none _)
   | (with_reducible refine LeO.ite ?_ ?_)
   | (with_reducible refine LeO.bind ?_ (fun _ => ?_))
   | exact ih0 _ _ _ _
   | exact ih1 _ _ _ _
   | exact ih2 _ _ _
   | exact ih3 _ _ _ _
   | exact ih4 _ _ _
   | exact ih5 _ _ _ _ _ _ _ _
   | exact ih6 _ _ _ _ _ _ _ _ _
   | exact ih7 _ _ _ _ _ _ _ _
   | exact ih8 _ _ _ _ _ _
   | exact ih9 _ _ _ _ _ _ _
   | exact slices_rotateCmpFunc_Step__profile_tidy_1.mono _ _ _ _ _
   | exact LeO.none _
   | refine LeO.ite ?_ ?_
   | refine LeO.bind ?_ (fun _ => ?_)
  ·intro y0 y1 y2 y3 y4 y5 y6 y7
   unfold slices_symMergeCmpFunc_Step__profile_tidy_1.j6
   repeat' first
   | (with_reducible exact ih0 _ _ _ _)
   | (with_reducible exact ih1 _ _ _ _)
   | (with_reducible exact ih2 _ _ _)
   | (with_reducible exact ih3 _ _ _ _)
   | (with_reducible exact ih4 _ _ _)
   | (with_reducible exact ih5 _ _ _ _ _ _ _ _)
   | (with_reducible exact ih6 _ _ _ _ _ _ _ _ _)
   | (with_reducible exact ih7 _ _ _ _ _ _ _ _)
   | (with_reducible exact ih8 _ _ _ _ _ _)
   | (with_reducible exact ih9 _ _ _ _ _ _ _)
   | (with_reducible exact slices_rotateCmpFunc_Step__profile_tidy_1.mono _ _ _ _ _)
   | (with_reducible exact LeO.refl _)
   | (with_reducible exact LeO.none _)
   | (with_reducible refine LeO.ite ?_ ?_)
   | (with_reducible refine LeO.bind ?_ (fun _ => ?_))
   | exact ih0 _ _ _ _
   | exact ih1 _ _ _ _
   | exact ih2 _ _ _
   | exact ih3 _ _ _ _
   | exact ih4 _ _ _
   | exact ih5 _ _ _ _ _ _ _ _
   | exact ih6 _ _ _ _ _ _ _ _ _
   | exact ih7 _ _ _ _ _ _ _ _
   | exact ih8 _ _ _ _ _ _
   | exact ih9 _ _ _ _ _ _ _
   | exact slices_rotateCmpFunc_Step__profile_tidy_1.mono _ _ _ _ _
   | exact LeO.none _
   | refine LeO.ite ?_ ?_
   | refine LeO.bind ?_ (fun _ => ?_)
  ·intro y0 y1 y2 y3 y4 y5
   unfold slices_symMergeCmpFunc_Step__profile_tidy_1.j7
   repeat' first
   | (with_reducible exact ih0 _ _ _ _)
   | (with_reducible exact ih1 _ _ _ _)
   | (with_reducible exact ih2 _ _ _)
   | (with_reducible exact ih3 _ _ _ _)
   | (with_reducible exact ih4 _ _ _)
   | (with_reducible exact ih5 _ _ _ _ _ _ _ _)
   | (with_reducible exact ih6 _ _ _ _ _ _ _ _ _)
   | (with_reducible exact ih7 _ _ _ _ _ _ _ _)
   | (with_reducible exact ih8 _ _ _ _ _ _)
   | (with_reducible exact ih9 _ _ _ _ _ _ _)
   | (with_reducible exact slices_rotateCmpFunc_Step__profile_tidy_1.mono _ _ _ _ _)
   | (with_reducible exact LeO.refl _)
   | (with_reducible exact LeO.none _)
   | (with_reducible refine LeO.ite ?_ ?_)
   | (with_reducible refine LeO.bind ?_ (fun _ => ?_))
   | exact ih0 _ _ _ _
   | exact ih1 _ _ _ _
   | exact ih2 _ _ _
   | exact ih3 _ _ _ _
   | exact ih4 _ _ _
   | exact ih5 _ _ _ _ _ _ _ _
   | exact ih6 _ _ _ _ _ _ _ _ _
   | exact ih7 _ _ _ _ _ _ _ _
   | exact ih8 _ _ _ _ _ _
   | exact ih9 _ _ _ _ _ _ _
   | exact slices_rotateCmpFunc_Step__profile_tidy_1.mono _ _ _ _ _
   | exact LeO.none _
   | refine LeO.ite ?_ ?_
   | refine LeO.bind ?_ (fun _ => ?_)
  ·intro y0 y1 y2 y3 y4 y5 y6
   unfold slices_symMergeCmpFunc_Step__profile_tidy_1.j8
   repeat' first
   | (with_reducible exact ih0 _ _ _ _)
   | (with_reducible exact ih1 _ _ _ _)
   | (with_reducible exact ih2 _ _ _)
   | (with_reducible exact ih3 _ _ _ _)
   | (with_reducible exact ih4 _ _ _)
   | (with_reducible exact ih5 _ _ _ _ _ _ _ _)
   | (with_reducible exact ih6 _ _ _ _ _ _ _ _ _)
   | (with_reducible exact ih7 _ _ _ _ _ _ _ _)
   | (with_reducible exact ih8 _ _ _ _ _ _)
   | (with_reducible exact ih9 _ _ _ _ _ _ _)
   | (with_reducible exact slices_rotateCmpFunc_Step__profile_tidy_1.mono _ _ _ _ _)
   | (with_reducible exact LeO.refl _)
   | (with_reducible exact LeO.none _)
   | (with_reducible refine LeO.ite ?_ ?_)
   | (with_reducible refine LeO.bind ?_ (fun _ => ?_))
   | exact ih0 _ _ _ _
   | exact ih1 _ _ _ _
   | exact ih2 _ _ _
   | exact ih3 _ _ _ _
   | exact ih4 _ _ _
   | exact ih5 _ _ _ _ _ _ _ _
   | exact ih6 _ _ _ _ _ _ _ _ _
   | exact ih7 _ _ _ _ _ _ _ _
   | exact ih8 _ _ _ _ _ _
   | exact ih9 _ _ _ _ _ _ _
   | exact slices_rotateCmpFunc_Step__profile_tidy_1.mono _ _ _ _ _
   | exact LeO.none _
   | refine LeO.ite ?_ ?_
   | refine LeO.bind ?_ (fun _ => ?_)
theorem slices_symMergeCmpFunc_Step__profile_tidy_1.mono : ∀ a0 a1 a2 a3 k, LeO (slices_symMergeCmpFunc_Step__profile_tidy_1.f k a0 a1 a2 a3) (slices_symMergeCmpFunc_Step__profile_tidy_1.f (k + 1) a0 a1 a2 a3) := by
 intro a0 a1 a2 a3 k
 obtain ⟨ih0, ih1, ih2, ih3, ih4, ih5, ih6, ih7, ih8, ih9⟩ := slices_symMergeCmpFunc_Step__profile_tidy_1.mono_l k
 exact ih0 a0 a1 a2 a3
def slices_symMergeCmpFunc_Step__profile_tidy_1.T5 : Bool × List (List Nat × List Nat) := (true, [([], []), ([], []), ([], []), ([1, 2], [1, 2]), ([3], [3]), ([], []), ([], []), ([5, 6], [5, 6]), ([7], [7]), ([0, 4, 8], [0, 4, 8]), ([9], [9])])
def slices_symMergeCmpFunc_Step__profile_tidy_1.B5 : List Nat := [0, 0, 0, 6, 14, 0, 0, 96, 224, 511, 1023]
theorem slices_symMergeCmpFunc_Step__profile_tidy_1.tab5 : rtab .any (opsOf Try.f64 5) = slices_symMergeCmpFunc_Step__profile_tidy_1.T5 := by kernel_rfl
theorem slices_symMergeCmpFunc_Step__profile_tidy_1.bits5 : waitsOk slices_symMergeCmpFunc_Step__profile_tidy_1.T5.2 slices_symMergeCmpFunc_Step__profile_tidy_1.B5 = true := by kernel_rfl
def slices_symMergeCmpFunc_Step__profile_tidy_1.T11 : Bool × List (List Nat × List Nat) := (true, [([], []), ([], []), ([], []), ([], []), ([3], [3]), ([], []), ([], []), ([6], [6]), ([5, 7], [5, 7]), ([8], [8]), ([], []), ([], []), ([10, 11], [10, 11]), ([12], [12]), ([0, 1, 0, 1, 5, 6, 7, 8, 9, 13], [0, 1]), ([14, 9, 0, 1, 5, 6, 7, 8, 9, 13], [9, 14]), ([2, 4, 0, 1, 2, 3, 4, 5, 6, 7, 8, 9, 10, 11, 12, 13, 14, 15], [2, 4]), ([16, 13, 15, 0, 1, 2, 3, 4, 5, 6, 7, 8, 9, 10, 11, 12, 13, 14, 15], [13, 16])])
def slices_symMergeCmpFunc_Step__profile_tidy_1.B11 : List Nat := [0, 0, 0, 0, 8, 0, 0, 64, 224, 480, 0, 0, 3072, 7168, 16355, 32739, 65535, 131071]
theorem slices_symMergeCmpFunc_Step__profile_tidy_1.tab11 : rtab .any (opsOf Try.f64 11) = slices_symMergeCmpFunc_Step__profile_tidy_1.T11 := by kernel_rfl
theorem slices_symMergeCmpFunc_Step__profile_tidy_1.bits11 : waitsOk slices_symMergeCmpFunc_Step__profile_tidy_1.T11.2 slices_symMergeCmpFunc_Step__profile_tidy_1.B11 = true := by kernel_rfl
def slices_symMergeCmpFunc_Step__profile_tidy_1.T17 : Bool × List (List Nat × List Nat) := (true, [([], []), ([], []), ([], []), ([1, 2], [1, 2]), ([3], [3]), ([], []), ([], []), ([5, 6], [5, 6]), ([7], [7]), ([0, 4, 8], [0, 4, 8]), ([9], [9]), ([10], [10])])
def slices_symMergeCmpFunc_Step__profile_tidy_1.B17 : List Nat := [0, 0, 0, 6, 14, 0, 0, 96, 224, 511, 1023, 2047]
theorem slices_symMergeCmpFunc_Step__profile_tidy_1.tab17 : rtab .any (opsOf Try.f64 17) = slices_symMergeCmpFunc_Step__profile_tidy_1.T17 := by kernel_rfl
theorem slices_symMergeCmpFunc_Step__profile_tidy_1.bits17 : waitsOk slices_symMergeCmpFunc_Step__profile_tidy_1.T17.2 slices_symMergeCmpFunc_Step__profile_tidy_1.B17 = true := by kernel_rfl
def slices_symMergeCmpFunc_Step__profile_tidy_1.T23 : Bool × List (List Nat × List Nat) := (true, [([], []), ([], []), ([], []), ([], []), ([3], [3]), ([], []), ([], []), ([6], [6]), ([5, 7], [5, 7]), ([8], [8]), ([], []), ([], []), ([10, 11], [10, 11]), ([12], [12]), ([0, 1, 0, 1, 5, 6, 7, 8, 9, 13], [0, 1]), ([14, 9, 0, 1, 5, 6, 7, 8, 9, 13], [9, 14]), ([2, 4, 0, 1, 2, 3, 4, 5, 6, 7, 8, 9, 10, 11, 12, 13, 14, 15], [2, 4]), ([16, 13, 15, 0, 1, 2, 3, 4, 5, 6, 7, 8, 9, 10, 11, 12, 13, 14, 15], [13, 16])])
def slices_symMergeCmpFunc_Step__profile_tidy_1.B23 : List Nat := [0, 0, 0, 0, 8, 0, 0, 64, 224, 480, 0, 0, 3072, 7168, 16355, 32739, 65535, 131071]
theorem slices_symMergeCmpFunc_Step__profile_tidy_1.tab23 : rtab .any (opsOf Try.f64 23) = slices_symMergeCmpFunc_Step__profile_tidy_1.T23 := by kernel_rfl
theorem slices_symMergeCmpFunc_Step__profile_tidy_1.bits23 : waitsOk slices_symMergeCmpFunc_Step__profile_tidy_1.T23.2 slices_symMergeCmpFunc_Step__profile_tidy_1.B23 = true := by kernel_rfl
def slices_symMergeCmpFunc_Step__profile_tidy_1.T35 : Bool × List (List Nat × List Nat) := (true, [([], []), ([], []), ([], []), ([], []), ([2, 3], [2, 3]), ([1, 4], [1, 4]), ([5], [5]), ([], []), ([], []), ([7, 8], [7, 8]), ([9], [9]), ([0, 6, 10], [0, 6, 10]), ([11], [11]), ([12], [12])])
def slices_symMergeCmpFunc_Step__profile_tidy_1.B35 : List Nat := [0, 0, 0, 0, 12, 30, 62, 0, 0, 384, 896, 2047, 4095, 8191]
theorem slices_symMergeCmpFunc_Step__profile_tidy_1.tab35 : rtab .any (opsOf Try.f64 35) = slices_symMergeCmpFunc_Step__profile_tidy_1.T35 := by kernel_rfl
theorem slices_symMergeCmpFunc_Step__profile_tidy_1.bits35 : waitsOk slices_symMergeCmpFunc_Step__profile_tidy_1.T35.2 slices_symMergeCmpFunc_Step__profile_tidy_1.B35 = true := by kernel_rfl
set_option maxHeartbeats 8000000 in
set_option maxRecDepth 100000 in
theorem slices_symMergeCmpFunc_Step__profile_tidy_1.calls {fv_ : Nat} {fn_ : Func} (C_ : Cmp40 fv_ fn_) (k : Nat) : ∀ (P0_ : Nat → Prop) (u9000_ : Value) (l0 : List (S40)) (a1 : Int) (a2 : Int) (a3 : Int)  (r : List (S40)) (w0 w : World) (hB : Below w0.heap.size w0 w) (ho0 : Kd.R k40 40 w w0.heap.size P0_ u9000_ l0) (h : slices_symMergeCmpFunc_Step__profile_tidy_1.f k l0 a1 a2 a3 = some r),
  Calls Try.prog 64 #[u9000_, .int .i64 a1, .int .i64 a2, .int .i64 a3, .func (.func fv_) #[] #[]] w fun e w' => e = .returned (.tuple #[]) ∧ Kd.R k40 40 w' w0.heap.size (fun k_ => (P0_ k_ ∨ w.heap.size ≤ k_)) u9000_ r ∧ Below w0.heap.size w0 w' ∧ Kept w w' (fun k_ => P0_ k_) := by
 induction k using Nat.strongRecOn with
 | _ k ih =>
 intro P0_ u9000_ l0 a1 a2 a3 r w0 w hB ho0 h
 cases k with
 | zero => exact absurd h (by simp [slices_symMergeCmpFunc_Step__profile_tidy_1.f])
 | succ k =>
 simp only [slices_symMergeCmpFunc_Step__profile_tidy_1.f] at h
 have hu40 := Try.underlying40
 have HO0 := Aside0.mk (show Kd.R k40 40 w w0.heap.size (fun k_ => (P0_ k_ ∨ w.heap.size ≤ k_)) u9000_ l0 from Kd.R_mono ho0 (fun k_ hk => (.inl hk)))
 have HK := Aside0.mk (Kept.refl w (fun k_ => P0_ k_))
 have HW0 := Aside0.mk hB.size
 have HB := Aside0.mk hB
 clear hB
 have H : (if (wrap64 (a2 - a1)) = 1 then (slices_symMergeCmpFunc_Step__profile_tidy_1.l0 k l0 a1 a2 a3) else (if (wrap64 (a3 - a2)) = 1 then (slices_symMergeCmpFunc_Step__profile_tidy_1.l2 k l0 a2 a1 a2) else (if a2 > (wrap64 ((IntKind.u64.wrap (wrap64 (a1 + a3))) / 2)) then (slices_symMergeCmpFunc_Step__profile_tidy_1.j4 k l0 a1 a2 a3 (wrap64 ((IntKind.u64.wrap (wrap64 (a1 + a3))) / 2)) (wrap64 ((wrap64 ((IntKind.u64.wrap (wrap64 (a1 + a3))) / 2)) + a2)) (wrap64 ((wrap64 ((wrap64 ((IntKind.u64.wrap (wrap64 (a1 + a3))) / 2)) + a2)) - a3)) (wrap64 ((IntKind.u64.wrap (wrap64 (a1 + a3))) / 2))) else (slices_symMergeCmpFunc_Step__profile_tidy_1.j4 k l0 a1 a2 a3 (wrap64 ((IntKind.u64.wrap (wrap64 (a1 + a3))) / 2)) (wrap64 ((wrap64 ((IntKind.u64.wrap (wrap64 (a1 + a3))) / 2)) + a2)) a1 a2)))) = some r := h
 clear h
 by_cases c6 : (wrap64 (a2 - a1)) = 1
 ·rw [if_pos c6] at H
  have c6b0 : ((wrap64 (a2 - a1)) == 1) = true := beq_iff_eq.mpr c6
  have c6b1 : ((wrap64 (a2 - a1)) != 1) = false := bne_eq_false_iff_eq.mpr c6
  clear c6
  have H' := Aside0.mk H
  clear H
  go_enter Try.func64, Try.ntmps64
  go_wp2
  go_loopg [10, 11] k (fun kq v10 v11 w' => ∃ (x10_1 : Int) (x11_1 : Int), v10 = .int .i64 x10_1 ∧ v11 = .int .i64 x11_1 ∧ Aside0 (slices_symMergeCmpFunc_Step__profile_tidy_1.l0 kq l0 a1 x10_1 x11_1 = some r) ∧ Aside0 (kq ≤ k) ∧ Aside0 (Kd.R k40 40 w' w0.heap.size (fun k_ => (P0_ k_ ∨ w.heap.size ≤ k_)) u9000_ l0) ∧ Aside0 (Kept w w' (fun k_ => P0_ k_)) ∧ Aside0 (Below w0.heap.size w0 w'))
  case atStart => exact ⟨(a2), (a3), ez, ez, H', ⟨Nat.le_refl _⟩, ⟨mR HO0.out⟩, ⟨mK HK.out⟩, ⟨mB HB.out⟩⟩
  case round => as_aux_lemma =>
   clear H'
   clear c6b0 c6b1
   obtain ⟨x10_1, x11_1, rfl, rfl, HA, HK1, HO_0, HK, HB⟩ := hrel
   cases gk with
   | zero => exact absurd HA.out (by simp [slices_symMergeCmpFunc_Step__profile_tidy_1.l0])
   | succ k1 =>
    have H := HA.out
    clear HA
    simp only [slices_symMergeCmpFunc_Step__profile_tidy_1.l0] at H
    by_cases c7 : x10_1 < x11_1
    ·rw [if_pos c7] at H
     have c7b0 : decide (x10_1 < x11_1) = true := decide_eq_true c7
     clear c7
     obtain ⟨ji8, hji8⟩ : ∃ j_ : Int, (wrap64 ((IntKind.u64.wrap (wrap64 (x10_1 + x11_1))) / 2)) = j_ := ⟨_, rfl⟩
     replace H : (if 0 ≤ (ji8) then (if (ji8) < (l0.length : Int) then (if 0 ≤ a1 then (if a1 < (l0.length : Int) then ((profile_tidy_1.f ((rd_T40 l0 (ji8)).f0) ((rd_T40 l0 (ji8)).f1) ((rd_T40 l0 a1).f0) ((rd_T40 l0 a1).f1)).bind fun t131 => (if t131 < 0 then (slices_symMergeCmpFunc_Step__profile_tidy_1.l0 k1 l0 a1 (wrap64 ((ji8) + 1)) x11_1) else (slices_symMergeCmpFunc_Step__profile_tidy_1.l0 k1 l0 a1 x10_1 ji8))) else (none)) else (none)) else (none)) else (none)) = some r := by first | (rw [hji8] at H; exact H) | (simp only [hji8] at H ⊢; exact H)
     have hji8w : (IntKind.i64.wrap ((IntKind.u64.wrap (wrap64 (x10_1 + x11_1))) / 2)) = ji8 := (i64_w _).trans hji8
     by_cases c9 : 0 ≤ (ji8)
     ·rw [if_pos c9] at H
      have c9b0 : decide (0 ≤ (ji8)) = true := decide_eq_true c9
      clear c9
      by_cases c10 : (ji8) < (l0.length : Int)
      ·rw [if_pos c10] at H
       have c10b0 : decide ((ji8) < (l0.length : Int)) = true := decide_eq_true c10
       clear c10
       by_cases c11 : 0 ≤ a1
       ·rw [if_pos c11] at H
        have c11b0 : decide (0 ≤ a1) = true := decide_eq_true c11
        clear c11
        by_cases c12 : a1 < (l0.length : Int)
        ·rw [if_pos c12] at H
         have c12b0 : decide (a1 < (l0.length : Int)) = true := decide_eq_true c12
         clear c12
         replace H := Option.bind_eq_some_iff.mp H
         obtain ⟨t131, A130, H⟩ := H
         replace H : (if t131 < 0 then (slices_symMergeCmpFunc_Step__profile_tidy_1.l0 k1 l0 a1 (wrap64 ((ji8) + 1)) x11_1) else (slices_symMergeCmpFunc_Step__profile_tidy_1.l0 k1 l0 a1 x10_1 ji8)) = some r := H
         have A13 := Aside0.mk A130
         clear A130
         by_cases c14 : t131 < 0
         ·as_aux_lemma =>
          rw [if_pos c14] at H
          have c14b0 : decide (t131 < 0) = true := decide_eq_true c14
          clear c14
          have H' := Aside0.mk H
          clear H
          try go_wp2
          have n0_ := Aside0.mk (Kd.R_drew HO_0.out)
          have n1_ := Aside0.mk (Kept.drew HK.out)
          have n2_ := Aside0.mk (below_drew1 HB.out)
          clear HO_0 HK HB
          have HO_0 := n0_
          have HK := n1_
          have HB := n2_
          clear n0_ n1_ n2_
          obtain ⟨Ao16, co16, eo16⟩ := Kd.R_slice HO_0.out
          (first | subst eo16 | (injection eo16 with f1_ f2_ f3_; have f4_ := f1_.symm; have f5_ := f3_.symm; clear f1_ f2_ f3_; subst f4_; subst f5_))
          have p129 : 0 ≤ ((ji8) : Int) := oda
          have q129 : (ji8) < (l0.length : Int) := oda
          obtain ⟨ad129, e129, hx129_0, hx129_1⟩ := at_T40 (Kd.R_reads' HO_0.out).2.2 (ji8) p129 q129
          cases e129
          replace p129 := eq_true p129
          replace q129 := eq_true q129
          have p130 : 0 ≤ (a1 : Int) := oda
          have q130 : a1 < (l0.length : Int) := oda
          obtain ⟨ad130, e130, hx130_0, hx130_1⟩ := at_T40 (Kd.R_reads' HO_0.out).2.2 a1 p130 q130
          obtain rfl : ad129 = ad130 := (by injection e130)
          replace p130 := eq_true p130
          replace q130 := eq_true q130
          refine start_ (n := 11) (S := fun w' => w'.cell? (ad129.add (((ji8)).toNat * 2)) = some (.int .i64 ((rd_T40 l0 (ji8)).f0)) ∧ w'.cell? ⟨(ad129.add (((ji8)).toNat * 2)).block, (ad129.add (((ji8)).toNat * 2)).off + 1, none⟩ = some (.int .i64 ((rd_T40 l0 (ji8)).f1)) ∧ w'.cell? (ad129.add ((a1).toNat * 2)) = some (.int .i64 ((rd_T40 l0 a1).f0)) ∧ w'.cell? ⟨(ad129.add ((a1).toNat * 2)).block, (ad129.add ((a1).toNat * 2)).off + 1, none⟩ = some (.int .i64 ((rd_T40 l0 a1).f1))) (ds := []) #[false, false, false, false, false, false, false, false, false, false, false] (by kernel_rfl) rfl rfl ⟨hx129_0, hx129_1, hx130_0, hx130_1⟩ (fun hHeld => ?_); refine with_tabW slices_symMergeCmpFunc_Step__profile_tidy_1.tab5 slices_symMergeCmpFunc_Step__profile_tidy_1.bits5 (fun HT_ HW_ => ?_)
          generalize wr.drew = w15 at HO_0 HK HB hx129_0 hx129_1 hx130_0 hx130_1 hHeld ⊢
          refine plan_ [(0, 40), (1, 41), (2, 42), (3, 43), (5, 45), (6, 46), (7, 47)] ?_
          iterate 7 (refine planP_ (v := ?_) (a' := ?_) rfl rfl (any_of HT_.out (by kernel_rfl)) (fun _ _ _ h => h) (Or.inl ⟨by rfl, ?_⟩) ?_ ?_; rotate_left; (intro w'; go_simp; with_reducible rfl); rotate_left; (simp only [Act.put, List.setIfInBounds_toArray, List.set_cons_zero, List.set_cons_succ, i64_w, i32_w]; rfl))
          refine planEnd_ ?_
          refine plan_ [(4, 44), (8, 48)] ?_
          iterate 2 (refine planT_ (v := ?_) (a' := ?_) rfl rfl (take_ofW HT_.out HW_.out (by kernel_rfl)) (fun _ _ _ h => h) (Or.inl ⟨by rfl, ?_⟩) hHeld ?_ ?_; rotate_left; (rintro w' ⟨s0, s1, s2, s3⟩; go_simp; with_reducible rfl); rotate_left; (simp only [Act.put, List.setIfInBounds_toArray, List.set_cons_zero, List.set_cons_succ, i64_w, i32_w]; rfl))
          refine planEnd_ ?_
          refine one_ (i := 9) (N := some 49) #[true, true, true, true, true, true, true, true, true, true, false] rfl rfl (one_of HT_.out (by kernel_rfl)) (by decide) (fun K hK => ?_)
          refine goesV_ C_.hf C_.hname C_.hb #[.agg #[.int .i64 ((rd_T40 l0 (ji8)).f0), .int .i64 ((rd_T40 l0 (ji8)).f1)], .agg #[.int .i64 ((rd_T40 l0 a1).f0), .int .i64 ((rd_T40 l0 a1).f1)]] (by rfl) rfl rfl (by (try simp only [List.map_toArray, List.map_cons, List.map_nil]); first | done | (simp only [hji8]; rfl) | rfl | (simp only [List.length_drop, List.length_take]; rfl)) rfl ?_
          with_reducible refine (C_.calls ((rd_T40 l0 (ji8)).f0) ((rd_T40 l0 (ji8)).f1) ((rd_T40 l0 a1).f0) ((rd_T40 l0 a1).f1) t131 _ A13.out).mono ?_
          rintro e w17 ⟨rfl, hb⟩
          have HS0_ := (hb.cell (World.block_lt_of_cell? _ _ (hHeld.1))).trans (hHeld.1)
          have HS1_ := (hb.cell (World.block_lt_of_cell? _ _ (hHeld.2.1))).trans (hHeld.2.1)
          have HS2_ := (hb.cell (World.block_lt_of_cell? _ _ (hHeld.2.2.1))).trans (hHeld.2.2.1)
          have HS3_ := (hb.cell (World.block_lt_of_cell? _ _ (hHeld.2.2.2))).trans (hHeld.2.2.2)
          refine ⟨_, rfl, ?_⟩
          have n0_ := Aside0.mk (Kd.R_below (mR HO_0.out) hb)
          have n1_ := Aside0.mk (Kept.below (S := (fun k_ => P0_ k_)) (mK HK.out) hb)
          have n2_ := Aside0.mk (below_step (mB HB.out) hb)
          clear HO_0 HK HB
          have HO_0 := n0_
          have HK := n1_
          have HB := n2_
          clear n0_ n1_ n2_
          clear hb
          refine hK.out _ _ ⟨HS0_, HS1_, HS2_, HS3_⟩ (fun hHeld => ?_)
          clear hK K
          refine norm_ (a' := ?_) ?_ ?_
          rotate_left
          ·show Act.put _ (some 49) _ = _
           simp only [Act.put, List.setIfInBounds_toArray, List.set_cons_zero, List.set_cons_succ, i64_w, i32_w]
           rfl
          refine plan_ [(10, 50)] ?_
          refine planP_ (v := ?_) (a' := ?_) rfl rfl (any_of HT_.out (by kernel_rfl)) (fun _ _ _ h => h) (Or.inl ⟨by rfl, ?_⟩) ?_ ?_; rotate_left; (intro w'; go_simp; with_reducible rfl); rotate_left; (simp only [Act.put, List.setIfInBounds_toArray, List.set_cons_zero, List.set_cons_succ, i64_w, i32_w]; rfl)
          refine planEnd_ ?_
          refine done_ (done_of HT_.out (by kernel_rfl)) ?_
          try go_wp2
          go_roundg k1
          case measure => have := HK1.out; omega
          case rel => exact ⟨(wrap64 ((ji8) + 1)), (x11_1), (by first | rfl | (simp; done) | (simp only [← hji8] <;> (first | rfl | simp)) | (simp [*]; done)), ez, H', ⟨by have := HK1.out; omega⟩, ⟨mR HO_0.out⟩, ⟨mK HK.out⟩, ⟨mB HB.out⟩⟩
         ·as_aux_lemma =>
          rw [if_neg c14] at H
          have c14b0 : decide (t131 < 0) = false := decide_eq_false c14
          clear c14
          have H' := Aside0.mk H
          clear H
          try go_wp2
          have n0_ := Aside0.mk (Kd.R_drew HO_0.out)
          have n1_ := Aside0.mk (Kept.drew HK.out)
          have n2_ := Aside0.mk (below_drew1 HB.out)
          clear HO_0 HK HB
          have HO_0 := n0_
          have HK := n1_
          have HB := n2_
          clear n0_ n1_ n2_
          obtain ⟨Ao19, co19, eo19⟩ := Kd.R_slice HO_0.out
          (first | subst eo19 | (injection eo19 with f1_ f2_ f3_; have f4_ := f1_.symm; have f5_ := f3_.symm; clear f1_ f2_ f3_; subst f4_; subst f5_))
          have p129 : 0 ≤ ((ji8) : Int) := oda
          have q129 : (ji8) < (l0.length : Int) := oda
          obtain ⟨ad129, e129, hx129_0, hx129_1⟩ := at_T40 (Kd.R_reads' HO_0.out).2.2 (ji8) p129 q129
          cases e129
          replace p129 := eq_true p129
          replace q129 := eq_true q129
          have p130 : 0 ≤ (a1 : Int) := oda
          have q130 : a1 < (l0.length : Int) := oda
          obtain ⟨ad130, e130, hx130_0, hx130_1⟩ := at_T40 (Kd.R_reads' HO_0.out).2.2 a1 p130 q130
          obtain rfl : ad129 = ad130 := (by injection e130)
          replace p130 := eq_true p130
          replace q130 := eq_true q130
          refine start_ (n := 11) (S := fun w' => w'.cell? (ad129.add (((ji8)).toNat * 2)) = some (.int .i64 ((rd_T40 l0 (ji8)).f0)) ∧ w'.cell? ⟨(ad129.add (((ji8)).toNat * 2)).block, (ad129.add (((ji8)).toNat * 2)).off + 1, none⟩ = some (.int .i64 ((rd_T40 l0 (ji8)).f1)) ∧ w'.cell? (ad129.add ((a1).toNat * 2)) = some (.int .i64 ((rd_T40 l0 a1).f0)) ∧ w'.cell? ⟨(ad129.add ((a1).toNat * 2)).block, (ad129.add ((a1).toNat * 2)).off + 1, none⟩ = some (.int .i64 ((rd_T40 l0 a1).f1))) (ds := []) #[false, false, false, false, false, false, false, false, false, false, false] (by kernel_rfl) rfl rfl ⟨hx129_0, hx129_1, hx130_0, hx130_1⟩ (fun hHeld => ?_); refine with_tabW slices_symMergeCmpFunc_Step__profile_tidy_1.tab5 slices_symMergeCmpFunc_Step__profile_tidy_1.bits5 (fun HT_ HW_ => ?_)
          generalize wr.drew = w18 at HO_0 HK HB hx129_0 hx129_1 hx130_0 hx130_1 hHeld ⊢
          refine plan_ [(0, 40), (1, 41), (2, 42), (3, 43), (5, 45), (6, 46), (7, 47)] ?_
          iterate 7 (refine planP_ (v := ?_) (a' := ?_) rfl rfl (any_of HT_.out (by kernel_rfl)) (fun _ _ _ h => h) (Or.inl ⟨by rfl, ?_⟩) ?_ ?_; rotate_left; (intro w'; go_simp; with_reducible rfl); rotate_left; (simp only [Act.put, List.setIfInBounds_toArray, List.set_cons_zero, List.set_cons_succ, i64_w, i32_w]; rfl))
          refine planEnd_ ?_
          refine plan_ [(4, 44), (8, 48)] ?_
          iterate 2 (refine planT_ (v := ?_) (a' := ?_) rfl rfl (take_ofW HT_.out HW_.out (by kernel_rfl)) (fun _ _ _ h => h) (Or.inl ⟨by rfl, ?_⟩) hHeld ?_ ?_; rotate_left; (rintro w' ⟨s0, s1, s2, s3⟩; go_simp; with_reducible rfl); rotate_left; (simp only [Act.put, List.setIfInBounds_toArray, List.set_cons_zero, List.set_cons_succ, i64_w, i32_w]; rfl))
          refine planEnd_ ?_
          refine one_ (i := 9) (N := some 49) #[true, true, true, true, true, true, true, true, true, true, false] rfl rfl (one_of HT_.out (by kernel_rfl)) (by decide) (fun K hK => ?_)
          refine goesV_ C_.hf C_.hname C_.hb #[.agg #[.int .i64 ((rd_T40 l0 (ji8)).f0), .int .i64 ((rd_T40 l0 (ji8)).f1)], .agg #[.int .i64 ((rd_T40 l0 a1).f0), .int .i64 ((rd_T40 l0 a1).f1)]] (by rfl) rfl rfl (by (try simp only [List.map_toArray, List.map_cons, List.map_nil]); first | done | (simp only [hji8]; rfl) | rfl | (simp only [List.length_drop, List.length_take]; rfl)) rfl ?_
          with_reducible refine (C_.calls ((rd_T40 l0 (ji8)).f0) ((rd_T40 l0 (ji8)).f1) ((rd_T40 l0 a1).f0) ((rd_T40 l0 a1).f1) t131 _ A13.out).mono ?_
          rintro e w20 ⟨rfl, hb⟩
          have HS0_ := (hb.cell (World.block_lt_of_cell? _ _ (hHeld.1))).trans (hHeld.1)
          have HS1_ := (hb.cell (World.block_lt_of_cell? _ _ (hHeld.2.1))).trans (hHeld.2.1)
          have HS2_ := (hb.cell (World.block_lt_of_cell? _ _ (hHeld.2.2.1))).trans (hHeld.2.2.1)
          have HS3_ := (hb.cell (World.block_lt_of_cell? _ _ (hHeld.2.2.2))).trans (hHeld.2.2.2)
          refine ⟨_, rfl, ?_⟩
          have n0_ := Aside0.mk (Kd.R_below (mR HO_0.out) hb)
          have n1_ := Aside0.mk (Kept.below (S := (fun k_ => P0_ k_)) (mK HK.out) hb)
          have n2_ := Aside0.mk (below_step (mB HB.out) hb)
          clear HO_0 HK HB
          have HO_0 := n0_
          have HK := n1_
          have HB := n2_
          clear n0_ n1_ n2_
          clear hb
          refine hK.out _ _ ⟨HS0_, HS1_, HS2_, HS3_⟩ (fun hHeld => ?_)
          clear hK K
          refine norm_ (a' := ?_) ?_ ?_
          rotate_left
          ·show Act.put _ (some 49) _ = _
           simp only [Act.put, List.setIfInBounds_toArray, List.set_cons_zero, List.set_cons_succ, i64_w, i32_w]
           rfl
          refine plan_ [(10, 50)] ?_
          refine planP_ (v := ?_) (a' := ?_) rfl rfl (any_of HT_.out (by kernel_rfl)) (fun _ _ _ h => h) (Or.inl ⟨by rfl, ?_⟩) ?_ ?_; rotate_left; (intro w'; go_simp; with_reducible rfl); rotate_left; (simp only [Act.put, List.setIfInBounds_toArray, List.set_cons_zero, List.set_cons_succ, i64_w, i32_w]; rfl)
          refine planEnd_ ?_
          refine done_ (done_of HT_.out (by kernel_rfl)) ?_
          try go_wp2
          go_roundg k1
          case measure => have := HK1.out; omega
          case rel => exact ⟨(x10_1), (ji8), ez, (by first | rfl | (simp; done) | (simp only [← hji8] <;> (first | rfl | simp)) | (simp [*]; done)), H', ⟨by have := HK1.out; omega⟩, ⟨mR HO_0.out⟩, ⟨mK HK.out⟩, ⟨mB HB.out⟩⟩
        ·rw [if_neg c12] at H
         exact absurd H (by simp)
       ·rw [if_neg c11] at H
        exact absurd H (by simp)
      ·rw [if_neg c10] at H
       exact absurd H (by simp)
     ·rw [if_neg c9] at H
      exact absurd H (by simp)
    ·rw [if_neg c7] at H
     have c7b0 : decide (x10_1 < x11_1) = false := decide_eq_false c7
     clear c7
     have H' := Aside0.mk H
     clear H
     go_wp2
     go_loopg [13] k1 (fun kq v13 w' => ∃ (x0_2 : List (S40)) (x13_2 : Int), v13 = .int .i64 x13_2 ∧ Aside0 (slices_symMergeCmpFunc_Step__profile_tidy_1.l1 kq x0_2 x10_1 x13_2 = some r) ∧ Aside0 (kq ≤ k1) ∧ Aside0 (Kd.R k40 40 w' w0.heap.size (fun k_ => (P0_ k_ ∨ w.heap.size ≤ k_)) u9000_ x0_2) ∧ Aside0 (Kept w w' (fun k_ => P0_ k_)) ∧ Aside0 (Below w0.heap.size w0 w'))
     case atStart => exact ⟨(l0), (a1), ez, H', ⟨Nat.le_refl _⟩, ⟨mR HO_0.out⟩, ⟨mK HK.out⟩, ⟨mB HB.out⟩⟩
     case round => as_aux_lemma =>
      clear H'
      clear c7b0
      obtain ⟨x0_2, x13_2, rfl, HA, HK2, HO_0, HK, HB⟩ := hrel
      cases gk with
      | zero => exact absurd HA.out (by simp [slices_symMergeCmpFunc_Step__profile_tidy_1.l1])
      | succ k2 =>
       have H := HA.out
       clear HA
       simp only [slices_symMergeCmpFunc_Step__profile_tidy_1.l1] at H
       by_cases c21 : x13_2 < (wrap64 (x10_1 - 1))
       ·rw [if_pos c21] at H
        have c21b0 : decide (x13_2 < (wrap64 (x10_1 - 1))) = true := decide_eq_true c21
        clear c21
        obtain ⟨ji22, hji22⟩ : ∃ j_ : Int, (wrap64 (x13_2 + 1)) = j_ := ⟨_, rfl⟩
        replace H : (if 0 ≤ (ji22) then (if (ji22) < (x0_2.length : Int) then (if 0 ≤ x13_2 then (if x13_2 < (x0_2.length : Int) then (slices_symMergeCmpFunc_Step__profile_tidy_1.l1 k2 ((x0_2.set (x13_2 : Int).toNat (⟨(rd_T40 x0_2 (ji22)).f0, (rd_T40 x0_2 (ji22)).f1⟩ : S40)).set ((ji22) : Int).toNat (⟨(rd_T40 x0_2 x13_2).f0, (rd_T40 x0_2 x13_2).f1⟩ : S40)) x10_1 ji22) else (none)) else (none)) else (none)) else (none)) = some r := by first | (rw [hji22] at H; exact H) | (simp only [hji22] at H ⊢; exact H)
        have hji22w : (IntKind.i64.wrap (x13_2 + 1)) = ji22 := (i64_w _).trans hji22
        by_cases c23 : 0 ≤ (ji22)
        ·rw [if_pos c23] at H
         have c23b0 : decide (0 ≤ (ji22)) = true := decide_eq_true c23
         clear c23
         by_cases c24 : (ji22) < (x0_2.length : Int)
         ·rw [if_pos c24] at H
          have c24b0 : decide ((ji22) < (x0_2.length : Int)) = true := decide_eq_true c24
          clear c24
          by_cases c25 : 0 ≤ x13_2
          ·rw [if_pos c25] at H
           have c25b0 : decide (0 ≤ x13_2) = true := decide_eq_true c25
           clear c25
           by_cases c26 : x13_2 < (x0_2.length : Int)
           ·rw [if_pos c26] at H
            have c26b0 : decide (x13_2 < (x0_2.length : Int)) = true := decide_eq_true c26
            clear c26
            obtain ⟨y134, hy134⟩ : ∃ y_ : List (S40), y_ = (x0_2.set (x13_2 : Int).toNat (⟨(rd_T40 x0_2 (ji22)).f0, (rd_T40 x0_2 (ji22)).f1⟩ : S40)) := ⟨_, rfl⟩
            replace H : (slices_symMergeCmpFunc_Step__profile_tidy_1.l1 k2 (y134.set ((ji22) : Int).toNat (⟨(rd_T40 x0_2 x13_2).f0, (rd_T40 x0_2 x13_2).f1⟩ : S40)) x10_1 ji22) = some r := mH hy134 H
            have Ny134 := Aside0.mk hy134
            clear hy134
            obtain ⟨y135, hy135⟩ : ∃ y_ : List (S40), y_ = (y134.set ((ji22) : Int).toNat (⟨(rd_T40 x0_2 x13_2).f0, (rd_T40 x0_2 x13_2).f1⟩ : S40)) := ⟨_, rfl⟩
            replace H : (slices_symMergeCmpFunc_Step__profile_tidy_1.l1 k2 y135 x10_1 ji22) = some r := mH hy135 H
            have Ny135 := Aside0.mk hy135
            clear hy135
            have H' := Aside0.mk H
            clear H
            try go_wp2
            have n0_ := Aside0.mk (Kd.R_drew HO_0.out)
            have n1_ := Aside0.mk (Kept.drew HK.out)
            have n2_ := Aside0.mk (below_drew1 HB.out)
            clear HO_0 HK HB
            have HO_0 := n0_
            have HK := n1_
            have HB := n2_
            clear n0_ n1_ n2_
            obtain ⟨Ao30, co30, eo30⟩ := Kd.R_slice HO_0.out
            (first | subst eo30 | (injection eo30 with f1_ f2_ f3_; have f4_ := f1_.symm; have f5_ := f3_.symm; clear f1_ f2_ f3_; subst f4_; subst f5_))
            have p132 : 0 ≤ ((ji22) : Int) := oda
            have q132 : (ji22) < (x0_2.length : Int) := oda
            obtain ⟨ad132, e132, hx132_0, hx132_1⟩ := at_T40 (Kd.R_reads' HO_0.out).2.2 (ji22) p132 q132
            cases e132
            replace p132 := eq_true p132
            replace q132 := eq_true q132
            have p133 : 0 ≤ (x13_2 : Int) := oda
            have q133 : x13_2 < (x0_2.length : Int) := oda
            obtain ⟨ad133, e133, hx133_0, hx133_1⟩ := at_T40 (Kd.R_reads' HO_0.out).2.2 x13_2 p133 q133
            obtain rfl : ad132 = ad133 := (by injection e133)
            replace p133 := eq_true p133
            replace q133 := eq_true q133
            have p27 : 0 ≤ (x13_2 : Int) := oda
            have q27 : (x13_2 : Int) < ((x0_2.length : Int) : Int) := oda
            obtain ⟨go27, co27, eo27, gb27, gl27, cl27, HG27⟩ := Kd.R_form HO_0.out (by omega)
            (first | cases eo27 | (injection eo27 with ea_ en_ ec_; (first | subst ea_ | (injection ea_ with ea_; subst ea_)); subst ec_; clear en_))
            have GB27 := Aside0.mk gb27
            have GG27 := Aside0.mk HG27
            clear gb27 gl27 HG27
            have HMgo27 := Aside0.mk (show (P0_ go27 ∨ w.heap.size ≤ go27) from (HO_0.out.1 _ rfl))
            (first | simp only [add_plain] at hx132_0 | skip)
            (first | simp only [add_plain] at hx132_1 | skip)
            (first | simp only [add_plain] at hx133_0 | skip)
            (first | simp only [add_plain] at hx133_1 | skip)
            obtain ⟨ce27, hcl27, hM27, hcc27, hfr27⟩ := Kd.R_elem HO_0.out z40 (x13_2 : Int) p27 q27
            obtain rfl := k40_openM hM27
            have hx27_0 : World.cell? _ ⟨go27, (x13_2 : Int).toNat * 2, none⟩ = some (.int .i64 ((rd_T40 x0_2 x13_2).f0)) := hcc27 0 _ rfl
            have hx27_1 : World.cell? _ ⟨go27, (x13_2 : Int).toNat * 2 + 1, none⟩ = some (.int .i64 ((rd_T40 x0_2 x13_2).f1)) := hcc27 1 _ rfl
            have hf27_0 : World.frozen? _ ⟨go27, (x13_2 : Int).toNat * 2, none⟩ = false := hfr27 0
            have hf27_1 : World.frozen? _ ⟨go27, (x13_2 : Int).toNat * 2 + 1, none⟩ = false := hfr27 1
            clear hcl27 hcc27 hfr27 hM27
            replace p27 := eq_true p27
            replace q27 := eq_true q27
            obtain ⟨ce31, hcl31, hM31, hcc31, hfr31⟩ := Kd.R_elem HO_0.out z40 (x13_2 : Int) (oda) (by have h_ : (x13_2 : Int) < ((x0_2.length : Int) : Int) := oda; first | exact h_ | (have e_ := (Kd.R_reads' HO_0.out).1; omega) | simpa using h_)
            obtain rfl := k40_openM hM31
            have HP31 := (Kd.R_seg HO_0.out (x13_2 : Int) (oda) (by have h_ : (x13_2 : Int) < ((x0_2.length : Int) : Int) := oda; first | exact h_ | (have e_ := (Kd.R_reads' HO_0.out).1; omega) | simpa using h_) (seg := [.int .i64 ((rd_T40 x0_2 (ji22)).f0), .int .i64 ((rd_T40 x0_2 (ji22)).f1)]) (j := 0) hcl31 hcc31 (show 2 ≤ 2 from by decide) (x' := (⟨(rd_T40 x0_2 (ji22)).f0, (rd_T40 x0_2 (ji22)).f1⟩ : S40)) (k40_mkM _ _ _ (⟨(rd_T40 x0_2 (ji22)).f0, (rd_T40 x0_2 (ji22)).f1⟩ : S40) ) (fun _ hk => hk)).1
            rw [← Ny134.out] at HP31
            have HQ31 := Aside0.mk HP31
            clear hcl31 hcc31 hfr31 hM31 HP31
            have p28 : 0 ≤ ((ji22) : Int) := oda
            have q28 : ((ji22) : Int) < ((x0_2.length : Int) : Int) := oda
            obtain ⟨ce28, hcl28, hM28, hcc28, hfr28⟩ := Kd.R_elem HQ31.out z40 ((ji22) : Int) p28 q28
            obtain rfl := k40_openM hM28
            have hx28_0 : World.cell? _ ⟨go27, ((ji22) : Int).toNat * 2, none⟩ = some (.int .i64 ((rd_T40 y134 (ji22)).f0)) := hcc28 0 _ rfl
            have hx28_1 : World.cell? _ ⟨go27, ((ji22) : Int).toNat * 2 + 1, none⟩ = some (.int .i64 ((rd_T40 y134 (ji22)).f1)) := hcc28 1 _ rfl
            have hf28_0 : World.frozen? _ ⟨go27, ((ji22) : Int).toNat * 2, none⟩ = false := hfr28 0
            have hf28_1 : World.frozen? _ ⟨go27, ((ji22) : Int).toNat * 2 + 1, none⟩ = false := hfr28 1
            clear hcl28 hcc28 hfr28 hM28
            replace p28 := eq_true p28
            replace q28 := eq_true q28
            obtain ⟨ce32, hcl32, hM32, hcc32, hfr32⟩ := Kd.R_elem HQ31.out z40 ((ji22) : Int) (oda) (by have h_ : ((ji22) : Int) < ((x0_2.length : Int) : Int) := oda; first | exact h_ | (have e_ := (Kd.R_reads' HO_0.out).1; omega) | simpa using h_)
            obtain rfl := k40_openM hM32
            have HP32 := (Kd.R_seg HQ31.out ((ji22) : Int) (oda) (by have h_ : ((ji22) : Int) < ((x0_2.length : Int) : Int) := oda; first | exact h_ | (have e_ := (Kd.R_reads' HO_0.out).1; omega) | simpa using h_) (seg := [.int .i64 ((rd_T40 x0_2 x13_2).f0), .int .i64 ((rd_T40 x0_2 x13_2).f1)]) (j := 0) hcl32 hcc32 (show 2 ≤ 2 from by decide) (x' := (⟨(rd_T40 x0_2 x13_2).f0, (rd_T40 x0_2 x13_2).f1⟩ : S40)) (k40_mkM _ _ _ (⟨(rd_T40 x0_2 x13_2).f0, (rd_T40 x0_2 x13_2).f1⟩ : S40) ) (fun _ hk => hk)).1
            rw [← Ny135.out] at HP32
            have HQ32 := Aside0.mk HP32
            clear hcl32 hcc32 hfr32 hM32 HP32
            refine start_ (n := 18) (S := fun w' => w'.cell? ⟨go27, (((ji22)).toNat * 2), none⟩ = some (.int .i64 ((rd_T40 x0_2 (ji22)).f0)) ∧ w'.cell? ⟨go27, (((ji22)).toNat * 2) + 1, none⟩ = some (.int .i64 ((rd_T40 x0_2 (ji22)).f1)) ∧ w'.cell? ⟨go27, ((x13_2).toNat * 2), none⟩ = some (.int .i64 ((rd_T40 x0_2 x13_2).f0)) ∧ w'.cell? ⟨go27, ((x13_2).toNat * 2) + 1, none⟩ = some (.int .i64 ((rd_T40 x0_2 x13_2).f1))) (ds := [15, 17]) #[false, false, false, false, false, false, false, false, false, false, false, false, false, false, false, false, false, false] (by kernel_rfl) rfl rfl ⟨hx132_0, hx132_1, hx133_0, hx133_1⟩ (fun hHeld => ?_); refine with_tabW slices_symMergeCmpFunc_Step__profile_tidy_1.tab11 slices_symMergeCmpFunc_Step__profile_tidy_1.bits11 (fun HT_ HW_ => ?_)
            generalize wr.drew = w29 at HO_0 HK HB GG27 HQ31 HQ32 hf27_0 hf27_1 hf28_0 hf28_1 hx132_0 hx132_1 hx133_0 hx133_1 hx27_0 hx27_1 hx28_0 hx28_1 hHeld ⊢
            (try simp [go_sem, World.setCells, show (k40).sz = 2 from rfl] at hf28_0)
            (try simp [go_sem, World.setCells, show (k40).sz = 2 from rfl] at hf28_1)
            (try simp [go_sem, World.setCells, show (k40).sz = 2 from rfl] at hx28_0)
            (try simp [go_sem, World.setCells, show (k40).sz = 2 from rfl] at hx28_1)
            refine plan_ [(0, 61), (1, 62), (2, 63), (3, 64), (4, 65), (5, 66), (6, 67), (7, 68), (8, 69), (10, 71), (11, 72), (12, 73)] ?_
            iterate 12 (refine planP_ (v := ?_) (a' := ?_) rfl rfl (any_of HT_.out (by kernel_rfl)) (fun _ _ _ h => h) (Or.inl ⟨by rfl, ?_⟩) ?_ ?_; rotate_left; (intro w'; go_simp; with_reducible rfl); rotate_left; (simp only [Act.put, List.setIfInBounds_toArray, List.set_cons_zero, List.set_cons_succ, i64_w, i32_w]; rfl))
            refine planEnd_ ?_
            refine plan_ [(9, 70), (13, 74)] ?_
            iterate 2 (refine planT_ (v := ?_) (a' := ?_) rfl rfl (take_ofW HT_.out HW_.out (by kernel_rfl)) (fun _ _ _ h => h) (Or.inl ⟨by rfl, ?_⟩) hHeld ?_ ?_; rotate_left; (rintro w' ⟨s0, s1, s2, s3⟩; go_simp; with_reducible rfl); rotate_left; (simp only [Act.put, List.setIfInBounds_toArray, List.set_cons_zero, List.set_cons_succ, i64_w, i32_w]; rfl))
            refine planEnd_ ?_
            refine plan_ [(14, 75)] ?_
            refine planP_ (v := ?_) (a' := ?_) rfl rfl (any_of HT_.out (by kernel_rfl)) (fun _ _ _ h => h) (Or.inl ⟨by rfl, ?_⟩) ?_ ?_; rotate_left; (intro w'; go_simp; with_reducible rfl); rotate_left; (simp only [Act.put, List.setIfInBounds_toArray, List.set_cons_zero, List.set_cons_succ, i64_w, i32_w]; rfl)
            refine planEnd_ ?_
            refine last_ (i := 15) (N := none) #[true, true, true, true, true, true, true, true, true, true, true, true, true, true, true, true, false, false] rfl rfl (one_of HT_.out (by kernel_rfl)) (by decide) (fun K hK => ?_)
            refine skip_ (w1 := ?_) (by rfl) rfl ?_ ?_
            rotate_left
            ·go_simp
             rfl
            refine hK.out _ _ ?_
            clear hK K
            refine plan_ [(16, 76)] ?_
            refine planP_ (v := ?_) (a' := ?_) rfl rfl (any_of HT_.out (by kernel_rfl)) (fun _ _ _ h => h) (Or.inl ⟨by rfl, ?_⟩) ?_ ?_; rotate_left; (intro w'; go_simp; with_reducible rfl); rotate_left; (simp only [Act.put, List.setIfInBounds_toArray, List.set_cons_zero, List.set_cons_succ, i64_w, i32_w]; rfl)
            refine planEnd_ ?_
            refine last_ (i := 17) (N := none) #[true, true, true, true, true, true, true, true, true, true, true, true, true, true, true, true, true, true] rfl rfl (one_of HT_.out (by kernel_rfl)) (by decide) (fun K hK => ?_)
            refine skip_ (w1 := ?_) (by rfl) rfl ?_ ?_
            rotate_left
            ·go_simp
             rfl
            refine hK.out _ _ ?_
            clear hK K
            refine done_ (done_of HT_.out (by kernel_rfl)) ?_
            try go_wp2
            go_roundg k2
            case measure => have := HK1.out; have := HK2.out; omega
            case rel => exact ⟨(y135), (ji22), (by first | rfl | (simp; done) | (simp only [← hji22] <;> (first | rfl | simp)) | (simp [*]; done)), H', ⟨by have := HK1.out; have := HK2.out; omega⟩, ⟨mR HQ32.out⟩, ⟨by repeat (first | (with_reducible first | exact HK.out | apply Kept.alloc | apply Kept.drewN | apply Kept.drew | refine Kept.setCell ?_ HMgo27.out _ | refine Kept.setCell ?_ HMgo27.out _ | refine Kept.setCell ?_ HMgo27.out _ | refine Kept.setCell ?_ HMgo27.out _) | exact HK.out)⟩, ⟨mBs HB.out⟩⟩
           ·rw [if_neg c26] at H
            exact absurd H (by simp)
          ·rw [if_neg c25] at H
           exact absurd H (by simp)
         ·rw [if_neg c24] at H
          exact absurd H (by simp)
        ·rw [if_neg c23] at H
         exact absurd H (by simp)
       ·rw [if_neg c21] at H
        have c21b0 : decide (x13_2 < (wrap64 (x10_1 - 1))) = false := decide_eq_false c21
        clear c21
        obtain rfl := Option.some.inj H
        go_wp2
        first | go_end0 | ((try simp only [Exit.inBlock, Exit.then]); refine bodyPost_ret (results_none rfl _ _ _) rfl ?_)
        exact ⟨by first | rfl | (simp [errW_none, errW_some] <;> rfl) | (simp [*, errW_none, errW_some] <;> rfl), mR HO_0.out, by repeat (first | (with_reducible first | exact HB.out | apply below_alloc | apply pw_below_drewN | apply below_drew1) | exact HB.out), by repeat (first | (with_reducible first | exact HK.out | apply Kept.alloc | apply Kept.drewN | apply Kept.drew) | exact HK.out)⟩
 ·rw [if_neg c6] at H
  have c6b0 : ((wrap64 (a2 - a1)) == 1) = false := beq_eq_false_iff_ne.mpr c6
  have c6b1 : ((wrap64 (a2 - a1)) != 1) = true := bne_iff_ne.mpr c6
  by_cases c33 : (wrap64 (a3 - a2)) = 1
  ·rw [if_pos c33] at H
   have c33b0 : ((wrap64 (a3 - a2)) == 1) = true := beq_iff_eq.mpr c33
   have c33b1 : ((wrap64 (a3 - a2)) != 1) = false := bne_eq_false_iff_eq.mpr c33
   clear c33
   have H' := Aside0.mk H
   clear H
   go_enter Try.func64, Try.ntmps64
   go_wp2
   go_loopg [14, 15] k (fun kq v14 v15 w' => ∃ (x14_1 : Int) (x15_1 : Int), v14 = .int .i64 x14_1 ∧ v15 = .int .i64 x15_1 ∧ Aside0 (slices_symMergeCmpFunc_Step__profile_tidy_1.l2 kq l0 a2 x14_1 x15_1 = some r) ∧ Aside0 (kq ≤ k) ∧ Aside0 (Kd.R k40 40 w' w0.heap.size (fun k_ => (P0_ k_ ∨ w.heap.size ≤ k_)) u9000_ l0) ∧ Aside0 (Kept w w' (fun k_ => P0_ k_)) ∧ Aside0 (Below w0.heap.size w0 w'))
   case atStart => exact ⟨(a1), (a2), ez, ez, H', ⟨Nat.le_refl _⟩, ⟨mR HO0.out⟩, ⟨mK HK.out⟩, ⟨mB HB.out⟩⟩
   case round => as_aux_lemma =>
    clear H'
    clear c6 c6b0 c6b1 c33b0 c33b1
    obtain ⟨x14_1, x15_1, rfl, rfl, HA, HK1, HO_0, HK, HB⟩ := hrel
    cases gk with
    | zero => exact absurd HA.out (by simp [slices_symMergeCmpFunc_Step__profile_tidy_1.l2])
    | succ k1 =>
     have H := HA.out
     clear HA
     simp only [slices_symMergeCmpFunc_Step__profile_tidy_1.l2] at H
     by_cases c34 : x14_1 < x15_1
     ·rw [if_pos c34] at H
      have c34b0 : decide (x14_1 < x15_1) = true := decide_eq_true c34
      clear c34
      by_cases c35 : 0 ≤ a2
      ·rw [if_pos c35] at H
       have c35b0 : decide (0 ≤ a2) = true := decide_eq_true c35
       clear c35
       by_cases c36 : a2 < (l0.length : Int)
       ·rw [if_pos c36] at H
        have c36b0 : decide (a2 < (l0.length : Int)) = true := decide_eq_true c36
        clear c36
        obtain ⟨ji37, hji37⟩ : ∃ j_ : Int, (wrap64 ((IntKind.u64.wrap (wrap64 (x14_1 + x15_1))) / 2)) = j_ := ⟨_, rfl⟩
        replace H : (if 0 ≤ (ji37) then (if (ji37) < (l0.length : Int) then ((profile_tidy_1.f ((rd_T40 l0 a2).f0) ((rd_T40 l0 a2).f1) ((rd_T40 l0 (ji37)).f0) ((rd_T40 l0 (ji37)).f1)).bind fun t138 => (if t138 < 0 then (slices_symMergeCmpFunc_Step__profile_tidy_1.l2 k1 l0 a2 x14_1 ji37) else (slices_symMergeCmpFunc_Step__profile_tidy_1.l2 k1 l0 a2 (wrap64 ((ji37) + 1)) x15_1))) else (none)) else (none)) = some r := by first | (rw [hji37] at H; exact H) | (simp only [hji37] at H ⊢; exact H)
        have hji37w : (IntKind.i64.wrap ((IntKind.u64.wrap (wrap64 (x14_1 + x15_1))) / 2)) = ji37 := (i64_w _).trans hji37
        by_cases c38 : 0 ≤ (ji37)
        ·rw [if_pos c38] at H
         have c38b0 : decide (0 ≤ (ji37)) = true := decide_eq_true c38
         clear c38
         by_cases c39 : (ji37) < (l0.length : Int)
         ·rw [if_pos c39] at H
          have c39b0 : decide ((ji37) < (l0.length : Int)) = true := decide_eq_true c39
          clear c39
          replace H := Option.bind_eq_some_iff.mp H
          obtain ⟨t138, A400, H⟩ := H
          replace H : (if t138 < 0 then (slices_symMergeCmpFunc_Step__profile_tidy_1.l2 k1 l0 a2 x14_1 ji37) else (slices_symMergeCmpFunc_Step__profile_tidy_1.l2 k1 l0 a2 (wrap64 ((ji37) + 1)) x15_1)) = some r := H
          have A40 := Aside0.mk A400
          clear A400
          by_cases c41 : t138 < 0
          ·as_aux_lemma =>
           rw [if_pos c41] at H
           have c41b0 : decide (t138 < 0) = true := decide_eq_true c41
           clear c41
           have H' := Aside0.mk H
           clear H
           try go_wp2
           have n0_ := Aside0.mk (Kd.R_drew HO_0.out)
           have n1_ := Aside0.mk (Kept.drew HK.out)
           have n2_ := Aside0.mk (below_drew1 HB.out)
           clear HO_0 HK HB
           have HO_0 := n0_
           have HK := n1_
           have HB := n2_
           clear n0_ n1_ n2_
           obtain ⟨Ao43, co43, eo43⟩ := Kd.R_slice HO_0.out
           (first | subst eo43 | (injection eo43 with f1_ f2_ f3_; have f4_ := f1_.symm; have f5_ := f3_.symm; clear f1_ f2_ f3_; subst f4_; subst f5_))
           have p136 : 0 ≤ (a2 : Int) := oda
           have q136 : a2 < (l0.length : Int) := oda
           obtain ⟨ad136, e136, hx136_0, hx136_1⟩ := at_T40 (Kd.R_reads' HO_0.out).2.2 a2 p136 q136
           cases e136
           replace p136 := eq_true p136
           replace q136 := eq_true q136
           have p137 : 0 ≤ ((ji37) : Int) := oda
           have q137 : (ji37) < (l0.length : Int) := oda
           obtain ⟨ad137, e137, hx137_0, hx137_1⟩ := at_T40 (Kd.R_reads' HO_0.out).2.2 (ji37) p137 q137
           obtain rfl : ad136 = ad137 := (by injection e137)
           replace p137 := eq_true p137
           replace q137 := eq_true q137
           refine start_ (n := 12) (S := fun w' => w'.cell? (ad136.add ((a2).toNat * 2)) = some (.int .i64 ((rd_T40 l0 a2).f0)) ∧ w'.cell? ⟨(ad136.add ((a2).toNat * 2)).block, (ad136.add ((a2).toNat * 2)).off + 1, none⟩ = some (.int .i64 ((rd_T40 l0 a2).f1)) ∧ w'.cell? (ad136.add (((ji37)).toNat * 2)) = some (.int .i64 ((rd_T40 l0 (ji37)).f0)) ∧ w'.cell? ⟨(ad136.add (((ji37)).toNat * 2)).block, (ad136.add (((ji37)).toNat * 2)).off + 1, none⟩ = some (.int .i64 ((rd_T40 l0 (ji37)).f1))) (ds := []) #[false, false, false, false, false, false, false, false, false, false, false, false] (by kernel_rfl) rfl rfl ⟨hx136_0, hx136_1, hx137_0, hx137_1⟩ (fun hHeld => ?_); refine with_tabW slices_symMergeCmpFunc_Step__profile_tidy_1.tab17 slices_symMergeCmpFunc_Step__profile_tidy_1.bits17 (fun HT_ HW_ => ?_)
           generalize wr.drew = w42 at HO_0 HK HB hx136_0 hx136_1 hx137_0 hx137_1 hHeld ⊢
           refine plan_ [(0, 92), (1, 93), (2, 94), (3, 95), (5, 97), (6, 98), (7, 99)] ?_
           iterate 7 (refine planP_ (v := ?_) (a' := ?_) rfl rfl (any_of HT_.out (by kernel_rfl)) (fun _ _ _ h => h) (Or.inl ⟨by rfl, ?_⟩) ?_ ?_; rotate_left; (intro w'; go_simp; with_reducible rfl); rotate_left; (simp only [Act.put, List.setIfInBounds_toArray, List.set_cons_zero, List.set_cons_succ, i64_w, i32_w]; rfl))
           refine planEnd_ ?_
           refine plan_ [(4, 96), (8, 100)] ?_
           iterate 2 (refine planT_ (v := ?_) (a' := ?_) rfl rfl (take_ofW HT_.out HW_.out (by kernel_rfl)) (fun _ _ _ h => h) (Or.inl ⟨by rfl, ?_⟩) hHeld ?_ ?_; rotate_left; (rintro w' ⟨s0, s1, s2, s3⟩; go_simp; with_reducible rfl); rotate_left; (simp only [Act.put, List.setIfInBounds_toArray, List.set_cons_zero, List.set_cons_succ, i64_w, i32_w]; rfl))
           refine planEnd_ ?_
           refine one_ (i := 9) (N := some 101) #[true, true, true, true, true, true, true, true, true, true, false, false] rfl rfl (one_of HT_.out (by kernel_rfl)) (by decide) (fun K hK => ?_)
           refine goesV_ C_.hf C_.hname C_.hb #[.agg #[.int .i64 ((rd_T40 l0 a2).f0), .int .i64 ((rd_T40 l0 a2).f1)], .agg #[.int .i64 ((rd_T40 l0 (ji37)).f0), .int .i64 ((rd_T40 l0 (ji37)).f1)]] (by rfl) rfl rfl (by (try simp only [List.map_toArray, List.map_cons, List.map_nil]); first | done | (simp only [hji37]; rfl) | rfl | (simp only [List.length_drop, List.length_take]; rfl)) rfl ?_
           with_reducible refine (C_.calls ((rd_T40 l0 a2).f0) ((rd_T40 l0 a2).f1) ((rd_T40 l0 (ji37)).f0) ((rd_T40 l0 (ji37)).f1) t138 _ A40.out).mono ?_
           rintro e w44 ⟨rfl, hb⟩
           have HS0_ := (hb.cell (World.block_lt_of_cell? _ _ (hHeld.1))).trans (hHeld.1)
           have HS1_ := (hb.cell (World.block_lt_of_cell? _ _ (hHeld.2.1))).trans (hHeld.2.1)
           have HS2_ := (hb.cell (World.block_lt_of_cell? _ _ (hHeld.2.2.1))).trans (hHeld.2.2.1)
           have HS3_ := (hb.cell (World.block_lt_of_cell? _ _ (hHeld.2.2.2))).trans (hHeld.2.2.2)
           refine ⟨_, rfl, ?_⟩
           have n0_ := Aside0.mk (Kd.R_below (mR HO_0.out) hb)
           have n1_ := Aside0.mk (Kept.below (S := (fun k_ => P0_ k_)) (mK HK.out) hb)
           have n2_ := Aside0.mk (below_step (mB HB.out) hb)
           clear HO_0 HK HB
           have HO_0 := n0_
           have HK := n1_
           have HB := n2_
           clear n0_ n1_ n2_
           clear hb
           refine hK.out _ _ ⟨HS0_, HS1_, HS2_, HS3_⟩ (fun hHeld => ?_)
           clear hK K
           refine norm_ (a' := ?_) ?_ ?_
           rotate_left
           ·show Act.put _ (some 101) _ = _
            simp only [Act.put, List.setIfInBounds_toArray, List.set_cons_zero, List.set_cons_succ, i64_w, i32_w]
            rfl
           refine plan_ [(10, 102), (11, 103)] ?_
           iterate 2 (refine planP_ (v := ?_) (a' := ?_) rfl rfl (any_of HT_.out (by kernel_rfl)) (fun _ _ _ h => h) (Or.inl ⟨by rfl, ?_⟩) ?_ ?_; rotate_left; (intro w'; go_simp; with_reducible rfl); rotate_left; (simp only [Act.put, List.setIfInBounds_toArray, List.set_cons_zero, List.set_cons_succ, i64_w, i32_w]; rfl))
           refine planEnd_ ?_
           refine done_ (done_of HT_.out (by kernel_rfl)) ?_
           try go_wp2
           go_roundg k1
           case measure => have := HK1.out; omega
           case rel => exact ⟨(x14_1), (ji37), ez, (by first | rfl | (simp; done) | (simp only [← hji37] <;> (first | rfl | simp)) | (simp [*]; done)), H', ⟨by have := HK1.out; omega⟩, ⟨mR HO_0.out⟩, ⟨mK HK.out⟩, ⟨mB HB.out⟩⟩
          ·as_aux_lemma =>
           rw [if_neg c41] at H
           have c41b0 : decide (t138 < 0) = false := decide_eq_false c41
           clear c41
           have H' := Aside0.mk H
           clear H
           try go_wp2
           have n0_ := Aside0.mk (Kd.R_drew HO_0.out)
           have n1_ := Aside0.mk (Kept.drew HK.out)
           have n2_ := Aside0.mk (below_drew1 HB.out)
           clear HO_0 HK HB
           have HO_0 := n0_
           have HK := n1_
           have HB := n2_
           clear n0_ n1_ n2_
           obtain ⟨Ao46, co46, eo46⟩ := Kd.R_slice HO_0.out
           (first | subst eo46 | (injection eo46 with f1_ f2_ f3_; have f4_ := f1_.symm; have f5_ := f3_.symm; clear f1_ f2_ f3_; subst f4_; subst f5_))
           have p136 : 0 ≤ (a2 : Int) := oda
           have q136 : a2 < (l0.length : Int) := oda
           obtain ⟨ad136, e136, hx136_0, hx136_1⟩ := at_T40 (Kd.R_reads' HO_0.out).2.2 a2 p136 q136
           cases e136
           replace p136 := eq_true p136
           replace q136 := eq_true q136
           have p137 : 0 ≤ ((ji37) : Int) := oda
           have q137 : (ji37) < (l0.length : Int) := oda
           obtain ⟨ad137, e137, hx137_0, hx137_1⟩ := at_T40 (Kd.R_reads' HO_0.out).2.2 (ji37) p137 q137
           obtain rfl : ad136 = ad137 := (by injection e137)
           replace p137 := eq_true p137
           replace q137 := eq_true q137
           refine start_ (n := 12) (S := fun w' => w'.cell? (ad136.add ((a2).toNat * 2)) = some (.int .i64 ((rd_T40 l0 a2).f0)) ∧ w'.cell? ⟨(ad136.add ((a2).toNat * 2)).block, (ad136.add ((a2).toNat * 2)).off + 1, none⟩ = some (.int .i64 ((rd_T40 l0 a2).f1)) ∧ w'.cell? (ad136.add (((ji37)).toNat * 2)) = some (.int .i64 ((rd_T40 l0 (ji37)).f0)) ∧ w'.cell? ⟨(ad136.add (((ji37)).toNat * 2)).block, (ad136.add (((ji37)).toNat * 2)).off + 1, none⟩ = some (.int .i64 ((rd_T40 l0 (ji37)).f1))) (ds := []) #[false, false, false, false, false, false, false, false, false, false, false, false] (by kernel_rfl) rfl rfl ⟨hx136_0, hx136_1, hx137_0, hx137_1⟩ (fun hHeld => ?_); refine with_tabW slices_symMergeCmpFunc_Step__profile_tidy_1.tab17 slices_symMergeCmpFunc_Step__profile_tidy_1.bits17 (fun HT_ HW_ => ?_)
           generalize wr.drew = w45 at HO_0 HK HB hx136_0 hx136_1 hx137_0 hx137_1 hHeld ⊢
           refine plan_ [(0, 92), (1, 93), (2, 94), (3, 95), (5, 97), (6, 98), (7, 99)] ?_
           iterate 7 (refine planP_ (v := ?_) (a' := ?_) rfl rfl (any_of HT_.out (by kernel_rfl)) (fun _ _ _ h => h) (Or.inl ⟨by rfl, ?_⟩) ?_ ?_; rotate_left; (intro w'; go_simp; with_reducible rfl); rotate_left; (simp only [Act.put, List.setIfInBounds_toArray, List.set_cons_zero, List.set_cons_succ, i64_w, i32_w]; rfl))
           refine planEnd_ ?_
           refine plan_ [(4, 96), (8, 100)] ?_
           iterate 2 (refine planT_ (v := ?_) (a' := ?_) rfl rfl (take_ofW HT_.out HW_.out (by kernel_rfl)) (fun _ _ _ h => h) (Or.inl ⟨by rfl, ?_⟩) hHeld ?_ ?_; rotate_left; (rintro w' ⟨s0, s1, s2, s3⟩; go_simp; with_reducible rfl); rotate_left; (simp only [Act.put, List.setIfInBounds_toArray, List.set_cons_zero, List.set_cons_succ, i64_w, i32_w]; rfl))
           refine planEnd_ ?_
           refine one_ (i := 9) (N := some 101) #[true, true, true, true, true, true, true, true, true, true, false, false] rfl rfl (one_of HT_.out (by kernel_rfl)) (by decide) (fun K hK => ?_)
           refine goesV_ C_.hf C_.hname C_.hb #[.agg #[.int .i64 ((rd_T40 l0 a2).f0), .int .i64 ((rd_T40 l0 a2).f1)], .agg #[.int .i64 ((rd_T40 l0 (ji37)).f0), .int .i64 ((rd_T40 l0 (ji37)).f1)]] (by rfl) rfl rfl (by (try simp only [List.map_toArray, List.map_cons, List.map_nil]); first | done | (simp only [hji37]; rfl) | rfl | (simp only [List.length_drop, List.length_take]; rfl)) rfl ?_
           with_reducible refine (C_.calls ((rd_T40 l0 a2).f0) ((rd_T40 l0 a2).f1) ((rd_T40 l0 (ji37)).f0) ((rd_T40 l0 (ji37)).f1) t138 _ A40.out).mono ?_
           rintro e w47 ⟨rfl, hb⟩
           have HS0_ := (hb.cell (World.block_lt_of_cell? _ _ (hHeld.1))).trans (hHeld.1)
           have HS1_ := (hb.cell (World.block_lt_of_cell? _ _ (hHeld.2.1))).trans (hHeld.2.1)
           have HS2_ := (hb.cell (World.block_lt_of_cell? _ _ (hHeld.2.2.1))).trans (hHeld.2.2.1)
           have HS3_ := (hb.cell (World.block_lt_of_cell? _ _ (hHeld.2.2.2))).trans (hHeld.2.2.2)
           refine ⟨_, rfl, ?_⟩
           have n0_ := Aside0.mk (Kd.R_below (mR HO_0.out) hb)
           have n1_ := Aside0.mk (Kept.below (S := (fun k_ => P0_ k_)) (mK HK.out) hb)
           have n2_ := Aside0.mk (below_step (mB HB.out) hb)
           clear HO_0 HK HB
           have HO_0 := n0_
           have HK := n1_
           have HB := n2_
           clear n0_ n1_ n2_
           clear hb
           refine hK.out _ _ ⟨HS0_, HS1_, HS2_, HS3_⟩ (fun hHeld => ?_)
           clear hK K
           refine norm_ (a' := ?_) ?_ ?_
           rotate_left
           ·show Act.put _ (some 101) _ = _
            simp only [Act.put, List.setIfInBounds_toArray, List.set_cons_zero, List.set_cons_succ, i64_w, i32_w]
            rfl
           refine plan_ [(10, 102), (11, 103)] ?_
           iterate 2 (refine planP_ (v := ?_) (a' := ?_) rfl rfl (any_of HT_.out (by kernel_rfl)) (fun _ _ _ h => h) (Or.inl ⟨by rfl, ?_⟩) ?_ ?_; rotate_left; (intro w'; go_simp; with_reducible rfl); rotate_left; (simp only [Act.put, List.setIfInBounds_toArray, List.set_cons_zero, List.set_cons_succ, i64_w, i32_w]; rfl))
           refine planEnd_ ?_
           refine done_ (done_of HT_.out (by kernel_rfl)) ?_
           try go_wp2
           go_roundg k1
           case measure => have := HK1.out; omega
           case rel => exact ⟨(wrap64 ((ji37) + 1)), (x15_1), (by first | rfl | (simp; done) | (simp only [← hji37] <;> (first | rfl | simp)) | (simp [*]; done)), ez, H', ⟨by have := HK1.out; omega⟩, ⟨mR HO_0.out⟩, ⟨mK HK.out⟩, ⟨mB HB.out⟩⟩
         ·rw [if_neg c39] at H
          exact absurd H (by simp)
        ·rw [if_neg c38] at H
         exact absurd H (by simp)
       ·rw [if_neg c36] at H
        exact absurd H (by simp)
      ·rw [if_neg c35] at H
       exact absurd H (by simp)
     ·rw [if_neg c34] at H
      have c34b0 : decide (x14_1 < x15_1) = false := decide_eq_false c34
      clear c34
      have H' := Aside0.mk H
      clear H
      go_wp2
      go_loopg [17] k1 (fun kq v17 w' => ∃ (x0_2 : List (S40)) (x17_2 : Int), v17 = .int .i64 x17_2 ∧ Aside0 (slices_symMergeCmpFunc_Step__profile_tidy_1.l3 kq x0_2 x14_1 x17_2 = some r) ∧ Aside0 (kq ≤ k1) ∧ Aside0 (Kd.R k40 40 w' w0.heap.size (fun k_ => (P0_ k_ ∨ w.heap.size ≤ k_)) u9000_ x0_2) ∧ Aside0 (Kept w w' (fun k_ => P0_ k_)) ∧ Aside0 (Below w0.heap.size w0 w'))
      case atStart => exact ⟨(l0), (a2), ez, H', ⟨Nat.le_refl _⟩, ⟨mR HO_0.out⟩, ⟨mK HK.out⟩, ⟨mB HB.out⟩⟩
      case round => as_aux_lemma =>
       clear H'
       clear c34b0
       obtain ⟨x0_2, x17_2, rfl, HA, HK2, HO_0, HK, HB⟩ := hrel
       cases gk with
       | zero => exact absurd HA.out (by simp [slices_symMergeCmpFunc_Step__profile_tidy_1.l3])
       | succ k2 =>
        have H := HA.out
        clear HA
        simp only [slices_symMergeCmpFunc_Step__profile_tidy_1.l3] at H
        by_cases c48 : x17_2 > x14_1
        ·rw [if_pos c48] at H
         have c48b0 : decide (x14_1 < x17_2) = true := decide_eq_true c48
         clear c48
         obtain ⟨ji49, hji49⟩ : ∃ j_ : Int, (wrap64 (x17_2 - 1)) = j_ := ⟨_, rfl⟩
         replace H : (if 0 ≤ (ji49) then (if (ji49) < (x0_2.length : Int) then (if 0 ≤ x17_2 then (if x17_2 < (x0_2.length : Int) then (slices_symMergeCmpFunc_Step__profile_tidy_1.l3 k2 ((x0_2.set (x17_2 : Int).toNat (⟨(rd_T40 x0_2 (ji49)).f0, (rd_T40 x0_2 (ji49)).f1⟩ : S40)).set ((ji49) : Int).toNat (⟨(rd_T40 x0_2 x17_2).f0, (rd_T40 x0_2 x17_2).f1⟩ : S40)) x14_1 ji49) else (none)) else (none)) else (none)) else (none)) = some r := by first | (rw [hji49] at H; exact H) | (simp only [hji49] at H ⊢; exact H)
         have hji49w : (IntKind.i64.wrap (x17_2 - 1)) = ji49 := (i64_w _).trans hji49
         by_cases c50 : 0 ≤ (ji49)
         ·rw [if_pos c50] at H
          have c50b0 : decide (0 ≤ (ji49)) = true := decide_eq_true c50
          clear c50
          by_cases c51 : (ji49) < (x0_2.length : Int)
          ·rw [if_pos c51] at H
           have c51b0 : decide ((ji49) < (x0_2.length : Int)) = true := decide_eq_true c51
           clear c51
           by_cases c52 : 0 ≤ x17_2
           ·rw [if_pos c52] at H
            have c52b0 : decide (0 ≤ x17_2) = true := decide_eq_true c52
            clear c52
            by_cases c53 : x17_2 < (x0_2.length : Int)
            ·rw [if_pos c53] at H
             have c53b0 : decide (x17_2 < (x0_2.length : Int)) = true := decide_eq_true c53
             clear c53
             obtain ⟨y141, hy141⟩ : ∃ y_ : List (S40), y_ = (x0_2.set (x17_2 : Int).toNat (⟨(rd_T40 x0_2 (ji49)).f0, (rd_T40 x0_2 (ji49)).f1⟩ : S40)) := ⟨_, rfl⟩
             replace H : (slices_symMergeCmpFunc_Step__profile_tidy_1.l3 k2 (y141.set ((ji49) : Int).toNat (⟨(rd_T40 x0_2 x17_2).f0, (rd_T40 x0_2 x17_2).f1⟩ : S40)) x14_1 ji49) = some r := mH hy141 H
             have Ny141 := Aside0.mk hy141
             clear hy141
             obtain ⟨y142, hy142⟩ : ∃ y_ : List (S40), y_ = (y141.set ((ji49) : Int).toNat (⟨(rd_T40 x0_2 x17_2).f0, (rd_T40 x0_2 x17_2).f1⟩ : S40)) := ⟨_, rfl⟩
             replace H : (slices_symMergeCmpFunc_Step__profile_tidy_1.l3 k2 y142 x14_1 ji49) = some r := mH hy142 H
             have Ny142 := Aside0.mk hy142
             clear hy142
             have H' := Aside0.mk H
             clear H
             try go_wp2
             have n0_ := Aside0.mk (Kd.R_drew HO_0.out)
             have n1_ := Aside0.mk (Kept.drew HK.out)
             have n2_ := Aside0.mk (below_drew1 HB.out)
             clear HO_0 HK HB
             have HO_0 := n0_
             have HK := n1_
             have HB := n2_
             clear n0_ n1_ n2_
             obtain ⟨Ao57, co57, eo57⟩ := Kd.R_slice HO_0.out
             (first | subst eo57 | (injection eo57 with f1_ f2_ f3_; have f4_ := f1_.symm; have f5_ := f3_.symm; clear f1_ f2_ f3_; subst f4_; subst f5_))
             have p139 : 0 ≤ ((ji49) : Int) := oda
             have q139 : (ji49) < (x0_2.length : Int) := oda
             obtain ⟨ad139, e139, hx139_0, hx139_1⟩ := at_T40 (Kd.R_reads' HO_0.out).2.2 (ji49) p139 q139
             cases e139
             replace p139 := eq_true p139
             replace q139 := eq_true q139
             have p140 : 0 ≤ (x17_2 : Int) := oda
             have q140 : x17_2 < (x0_2.length : Int) := oda
             obtain ⟨ad140, e140, hx140_0, hx140_1⟩ := at_T40 (Kd.R_reads' HO_0.out).2.2 x17_2 p140 q140
             obtain rfl : ad139 = ad140 := (by injection e140)
             replace p140 := eq_true p140
             replace q140 := eq_true q140
             have p54 : 0 ≤ (x17_2 : Int) := oda
             have q54 : (x17_2 : Int) < ((x0_2.length : Int) : Int) := oda
             obtain ⟨go54, co54, eo54, gb54, gl54, cl54, HG54⟩ := Kd.R_form HO_0.out (by omega)
             (first | cases eo54 | (injection eo54 with ea_ en_ ec_; (first | subst ea_ | (injection ea_ with ea_; subst ea_)); subst ec_; clear en_))
             have GB54 := Aside0.mk gb54
             have GG54 := Aside0.mk HG54
             clear gb54 gl54 HG54
             have HMgo54 := Aside0.mk (show (P0_ go54 ∨ w.heap.size ≤ go54) from (HO_0.out.1 _ rfl))
             (first | simp only [add_plain] at hx139_0 | skip)
             (first | simp only [add_plain] at hx139_1 | skip)
             (first | simp only [add_plain] at hx140_0 | skip)
             (first | simp only [add_plain] at hx140_1 | skip)
             obtain ⟨ce54, hcl54, hM54, hcc54, hfr54⟩ := Kd.R_elem HO_0.out z40 (x17_2 : Int) p54 q54
             obtain rfl := k40_openM hM54
             have hx54_0 : World.cell? _ ⟨go54, (x17_2 : Int).toNat * 2, none⟩ = some (.int .i64 ((rd_T40 x0_2 x17_2).f0)) := hcc54 0 _ rfl
             have hx54_1 : World.cell? _ ⟨go54, (x17_2 : Int).toNat * 2 + 1, none⟩ = some (.int .i64 ((rd_T40 x0_2 x17_2).f1)) := hcc54 1 _ rfl
             have hf54_0 : World.frozen? _ ⟨go54, (x17_2 : Int).toNat * 2, none⟩ = false := hfr54 0
             have hf54_1 : World.frozen? _ ⟨go54, (x17_2 : Int).toNat * 2 + 1, none⟩ = false := hfr54 1
             clear hcl54 hcc54 hfr54 hM54
             replace p54 := eq_true p54
             replace q54 := eq_true q54
             obtain ⟨ce58, hcl58, hM58, hcc58, hfr58⟩ := Kd.R_elem HO_0.out z40 (x17_2 : Int) (oda) (by have h_ : (x17_2 : Int) < ((x0_2.length : Int) : Int) := oda; first | exact h_ | (have e_ := (Kd.R_reads' HO_0.out).1; omega) | simpa using h_)
             obtain rfl := k40_openM hM58
             have HP58 := (Kd.R_seg HO_0.out (x17_2 : Int) (oda) (by have h_ : (x17_2 : Int) < ((x0_2.length : Int) : Int) := oda; first | exact h_ | (have e_ := (Kd.R_reads' HO_0.out).1; omega) | simpa using h_) (seg := [.int .i64 ((rd_T40 x0_2 (ji49)).f0), .int .i64 ((rd_T40 x0_2 (ji49)).f1)]) (j := 0) hcl58 hcc58 (show 2 ≤ 2 from by decide) (x' := (⟨(rd_T40 x0_2 (ji49)).f0, (rd_T40 x0_2 (ji49)).f1⟩ : S40)) (k40_mkM _ _ _ (⟨(rd_T40 x0_2 (ji49)).f0, (rd_T40 x0_2 (ji49)).f1⟩ : S40) ) (fun _ hk => hk)).1
             rw [← Ny141.out] at HP58
             have HQ58 := Aside0.mk HP58
             clear hcl58 hcc58 hfr58 hM58 HP58
             have p55 : 0 ≤ ((ji49) : Int) := oda
             have q55 : ((ji49) : Int) < ((x0_2.length : Int) : Int) := oda
             obtain ⟨ce55, hcl55, hM55, hcc55, hfr55⟩ := Kd.R_elem HQ58.out z40 ((ji49) : Int) p55 q55
             obtain rfl := k40_openM hM55
             have hx55_0 : World.cell? _ ⟨go54, ((ji49) : Int).toNat * 2, none⟩ = some (.int .i64 ((rd_T40 y141 (ji49)).f0)) := hcc55 0 _ rfl
             have hx55_1 : World.cell? _ ⟨go54, ((ji49) : Int).toNat * 2 + 1, none⟩ = some (.int .i64 ((rd_T40 y141 (ji49)).f1)) := hcc55 1 _ rfl
             have hf55_0 : World.frozen? _ ⟨go54, ((ji49) : Int).toNat * 2, none⟩ = false := hfr55 0
             have hf55_1 : World.frozen? _ ⟨go54, ((ji49) : Int).toNat * 2 + 1, none⟩ = false := hfr55 1
             clear hcl55 hcc55 hfr55 hM55
             replace p55 := eq_true p55
             replace q55 := eq_true q55
             obtain ⟨ce59, hcl59, hM59, hcc59, hfr59⟩ := Kd.R_elem HQ58.out z40 ((ji49) : Int) (oda) (by have h_ : ((ji49) : Int) < ((x0_2.length : Int) : Int) := oda; first | exact h_ | (have e_ := (Kd.R_reads' HO_0.out).1; omega) | simpa using h_)
             obtain rfl := k40_openM hM59
             have HP59 := (Kd.R_seg HQ58.out ((ji49) : Int) (oda) (by have h_ : ((ji49) : Int) < ((x0_2.length : Int) : Int) := oda; first | exact h_ | (have e_ := (Kd.R_reads' HO_0.out).1; omega) | simpa using h_) (seg := [.int .i64 ((rd_T40 x0_2 x17_2).f0), .int .i64 ((rd_T40 x0_2 x17_2).f1)]) (j := 0) hcl59 hcc59 (show 2 ≤ 2 from by decide) (x' := (⟨(rd_T40 x0_2 x17_2).f0, (rd_T40 x0_2 x17_2).f1⟩ : S40)) (k40_mkM _ _ _ (⟨(rd_T40 x0_2 x17_2).f0, (rd_T40 x0_2 x17_2).f1⟩ : S40) ) (fun _ hk => hk)).1
             rw [← Ny142.out] at HP59
             have HQ59 := Aside0.mk HP59
             clear hcl59 hcc59 hfr59 hM59 HP59
             refine start_ (n := 18) (S := fun w' => w'.cell? ⟨go54, (((ji49)).toNat * 2), none⟩ = some (.int .i64 ((rd_T40 x0_2 (ji49)).f0)) ∧ w'.cell? ⟨go54, (((ji49)).toNat * 2) + 1, none⟩ = some (.int .i64 ((rd_T40 x0_2 (ji49)).f1)) ∧ w'.cell? ⟨go54, ((x17_2).toNat * 2), none⟩ = some (.int .i64 ((rd_T40 x0_2 x17_2).f0)) ∧ w'.cell? ⟨go54, ((x17_2).toNat * 2) + 1, none⟩ = some (.int .i64 ((rd_T40 x0_2 x17_2).f1))) (ds := [15, 17]) #[false, false, false, false, false, false, false, false, false, false, false, false, false, false, false, false, false, false] (by kernel_rfl) rfl rfl ⟨hx139_0, hx139_1, hx140_0, hx140_1⟩ (fun hHeld => ?_); refine with_tabW slices_symMergeCmpFunc_Step__profile_tidy_1.tab23 slices_symMergeCmpFunc_Step__profile_tidy_1.bits23 (fun HT_ HW_ => ?_)
             generalize wr.drew = w56 at HO_0 HK HB GG54 HQ58 HQ59 hf54_0 hf54_1 hf55_0 hf55_1 hx139_0 hx139_1 hx140_0 hx140_1 hx54_0 hx54_1 hx55_0 hx55_1 hHeld ⊢
             (try simp [go_sem, World.setCells, show (k40).sz = 2 from rfl] at hf55_0)
             (try simp [go_sem, World.setCells, show (k40).sz = 2 from rfl] at hf55_1)
             (try simp [go_sem, World.setCells, show (k40).sz = 2 from rfl] at hx55_0)
             (try simp [go_sem, World.setCells, show (k40).sz = 2 from rfl] at hx55_1)
             refine plan_ [(0, 113), (1, 114), (2, 115), (3, 116), (4, 117), (5, 118), (6, 119), (7, 120), (8, 121), (10, 123), (11, 124), (12, 125)] ?_
             iterate 12 (refine planP_ (v := ?_) (a' := ?_) rfl rfl (any_of HT_.out (by kernel_rfl)) (fun _ _ _ h => h) (Or.inl ⟨by rfl, ?_⟩) ?_ ?_; rotate_left; (intro w'; go_simp; with_reducible rfl); rotate_left; (simp only [Act.put, List.setIfInBounds_toArray, List.set_cons_zero, List.set_cons_succ, i64_w, i32_w]; rfl))
             refine planEnd_ ?_
             refine plan_ [(9, 122), (13, 126)] ?_
             iterate 2 (refine planT_ (v := ?_) (a' := ?_) rfl rfl (take_ofW HT_.out HW_.out (by kernel_rfl)) (fun _ _ _ h => h) (Or.inl ⟨by rfl, ?_⟩) hHeld ?_ ?_; rotate_left; (rintro w' ⟨s0, s1, s2, s3⟩; go_simp; with_reducible rfl); rotate_left; (simp only [Act.put, List.setIfInBounds_toArray, List.set_cons_zero, List.set_cons_succ, i64_w, i32_w]; rfl))
             refine planEnd_ ?_
             refine plan_ [(14, 127)] ?_
             refine planP_ (v := ?_) (a' := ?_) rfl rfl (any_of HT_.out (by kernel_rfl)) (fun _ _ _ h => h) (Or.inl ⟨by rfl, ?_⟩) ?_ ?_; rotate_left; (intro w'; go_simp; with_reducible rfl); rotate_left; (simp only [Act.put, List.setIfInBounds_toArray, List.set_cons_zero, List.set_cons_succ, i64_w, i32_w]; rfl)
             refine planEnd_ ?_
             refine last_ (i := 15) (N := none) #[true, true, true, true, true, true, true, true, true, true, true, true, true, true, true, true, false, false] rfl rfl (one_of HT_.out (by kernel_rfl)) (by decide) (fun K hK => ?_)
             refine skip_ (w1 := ?_) (by rfl) rfl ?_ ?_
             rotate_left
             ·go_simp
              rfl
             refine hK.out _ _ ?_
             clear hK K
             refine plan_ [(16, 128)] ?_
             refine planP_ (v := ?_) (a' := ?_) rfl rfl (any_of HT_.out (by kernel_rfl)) (fun _ _ _ h => h) (Or.inl ⟨by rfl, ?_⟩) ?_ ?_; rotate_left; (intro w'; go_simp; with_reducible rfl); rotate_left; (simp only [Act.put, List.setIfInBounds_toArray, List.set_cons_zero, List.set_cons_succ, i64_w, i32_w]; rfl)
             refine planEnd_ ?_
             refine last_ (i := 17) (N := none) #[true, true, true, true, true, true, true, true, true, true, true, true, true, true, true, true, true, true] rfl rfl (one_of HT_.out (by kernel_rfl)) (by decide) (fun K hK => ?_)
             refine skip_ (w1 := ?_) (by rfl) rfl ?_ ?_
             rotate_left
             ·go_simp
              rfl
             refine hK.out _ _ ?_
             clear hK K
             refine done_ (done_of HT_.out (by kernel_rfl)) ?_
             try go_wp2
             go_roundg k2
             case measure => have := HK1.out; have := HK2.out; omega
             case rel => exact ⟨(y142), (ji49), (by first | rfl | (simp; done) | (simp only [← hji49] <;> (first | rfl | simp)) | (simp [*]; done)), H', ⟨by have := HK1.out; have := HK2.out; omega⟩, ⟨mR HQ59.out⟩, ⟨by repeat (first | (with_reducible first | exact HK.out | apply Kept.alloc | apply Kept.drewN | apply Kept.drew | refine Kept.setCell ?_ HMgo54.out _ | refine Kept.setCell ?_ HMgo54.out _ | refine Kept.setCell ?_ HMgo54.out _ | refine Kept.setCell ?_ HMgo54.out _) | exact HK.out)⟩, ⟨mBs HB.out⟩⟩
            ·rw [if_neg c53] at H
             exact absurd H (by simp)
           ·rw [if_neg c52] at H
            exact absurd H (by simp)
          ·rw [if_neg c51] at H
           exact absurd H (by simp)
         ·rw [if_neg c50] at H
          exact absurd H (by simp)
        ·rw [if_neg c48] at H
         have c48b0 : decide (x14_1 < x17_2) = false := decide_eq_false c48
         clear c48
         obtain rfl := Option.some.inj H
         go_wp2
         first | go_end0 | ((try simp only [Exit.inBlock, Exit.then]); refine bodyPost_ret (results_none rfl _ _ _) rfl ?_)
         exact ⟨by first | rfl | (simp [errW_none, errW_some] <;> rfl) | (simp [*, errW_none, errW_some] <;> rfl), mR HO_0.out, by repeat (first | (with_reducible first | exact HB.out | apply below_alloc | apply pw_below_drewN | apply below_drew1) | exact HB.out), by repeat (first | (with_reducible first | exact HK.out | apply Kept.alloc | apply Kept.drewN | apply Kept.drew) | exact HK.out)⟩
  ·rw [if_neg c33] at H
   have c33b0 : ((wrap64 (a3 - a2)) == 1) = false := beq_eq_false_iff_ne.mpr c33
   have c33b1 : ((wrap64 (a3 - a2)) != 1) = true := bne_iff_ne.mpr c33
   have HC60 := Aside0.mk H
   clear H
   go_enter Try.func64, Try.ntmps64
   go_upto_if 140 with (fail)
   go_cut [18, 19, 20, 21] (fun v18 v19 v20 v21 wc => ∃ (kq : Nat) (x18_59 : Int) (x19_59 : Int) (x20_59 : Int) (x21_59 : Int), v18 = .int .i64 x18_59 ∧ v19 = .int .i64 x19_59 ∧ v20 = .int .i64 x20_59 ∧ v21 = .int .i64 x21_59 ∧ Aside0 (slices_symMergeCmpFunc_Step__profile_tidy_1.j4 kq l0 a1 a2 a3 x18_59 x19_59 x20_59 x21_59 = some r) ∧ Aside0 (kq ≤ k) ∧ Aside0 (Kd.R k40 40 wc w0.heap.size (fun k_ => (P0_ k_ ∨ w.heap.size ≤ k_)) u9000_ l0) ∧ Aside0 (Kept w wc (fun k_ => P0_ k_)) ∧ Aside0 (Below w0.heap.size w0 wc))
   case first =>
    have H := HC60.out
    clear HC60
    by_cases c61 : a2 > (wrap64 ((IntKind.u64.wrap (wrap64 (a1 + a3))) / 2))
    ·rw [if_pos c61] at H
     have c61b0 : decide ((wrap64 ((IntKind.u64.wrap (wrap64 (a1 + a3))) / 2)) < a2) = true := decide_eq_true c61
     clear c61
     (first | rw [c61b0] | (simp only [i64_w, i32_w]; rw [c61b0]) | skip)
     have H' := Aside0.mk H
     clear H
     go_wp2
     go_meet
     case rel => exact ⟨_, (wrap64 ((IntKind.u64.wrap (wrap64 (a1 + a3))) / 2)), (wrap64 ((wrap64 ((IntKind.u64.wrap (wrap64 (a1 + a3))) / 2)) + a2)), (wrap64 ((wrap64 ((wrap64 ((IntKind.u64.wrap (wrap64 (a1 + a3))) / 2)) + a2)) - a3)), (wrap64 ((IntKind.u64.wrap (wrap64 (a1 + a3))) / 2)), (by first | rfl | (simp; done) | (simp [*, i64_w]; done)), (by first | rfl | (simp; done) | (simp [*, i64_w]; done)), ez, ez, H', ⟨by first | omega | exact Nat.le_refl _⟩, ⟨mR HO0.out⟩, ⟨mK HK.out⟩, ⟨mB HB.out⟩⟩
    ·rw [if_neg c61] at H
     have c61b0 : decide ((wrap64 ((IntKind.u64.wrap (wrap64 (a1 + a3))) / 2)) < a2) = false := decide_eq_false c61
     clear c61
     (first | rw [c61b0] | (simp only [i64_w, i32_w]; rw [c61b0]) | skip)
     have H' := Aside0.mk H
     clear H
     go_wp2
     go_meet
     case rel => exact ⟨_, (wrap64 ((IntKind.u64.wrap (wrap64 (a1 + a3))) / 2)), (wrap64 ((wrap64 ((IntKind.u64.wrap (wrap64 (a1 + a3))) / 2)) + a2)), (a1), (a2), (by first | rfl | (simp; done) | (simp [*, i64_w]; done)), (by first | rfl | (simp; done) | (simp [*, i64_w]; done)), ez, ez, H', ⟨by first | omega | exact Nat.le_refl _⟩, ⟨mR HO0.out⟩, ⟨mK HK.out⟩, ⟨mB HB.out⟩⟩
   case rest => as_aux_lemma =>
    clear HC60
    clear c6 c6b0 c6b1 c33 c33b0 c33b1
    obtain ⟨kq, x18_59, x19_59, x20_59, x21_59, rfl, rfl, rfl, rfl, HA, HJ59, HO_0, HK, HB⟩ := hcut
    cases kq with
    | zero => exact absurd HA.out (by simp [slices_symMergeCmpFunc_Step__profile_tidy_1.j4])
    | succ kj59 =>
     have H := HA.out
     clear HA
     simp only [slices_symMergeCmpFunc_Step__profile_tidy_1.j4] at H
     have H' := Aside0.mk H
     clear H
     go_wp2
     go_loopg [20, 21] kj59 (fun kq v20 v21 w' => ∃ (x20_2 : Int) (x21_2 : Int), v20 = .int .i64 x20_2 ∧ v21 = .int .i64 x21_2 ∧ Aside0 (slices_symMergeCmpFunc_Step__profile_tidy_1.l4 kq l0 a1 a2 a3 x18_59 x19_59 x20_2 x21_2 (wrap64 (x19_59 - 1)) = some r) ∧ Aside0 (kq ≤ kj59) ∧ Aside0 (Kd.R k40 40 w' w0.heap.size (fun k_ => (P0_ k_ ∨ w.heap.size ≤ k_)) u9000_ l0) ∧ Aside0 (Kept w w' (fun k_ => P0_ k_)) ∧ Aside0 (Below w0.heap.size w0 w'))
     case atStart => exact ⟨(x20_59), (x21_59), ez, ez, H', ⟨Nat.le_refl _⟩, ⟨mR HO_0.out⟩, ⟨mK HK.out⟩, ⟨mB HB.out⟩⟩
     case round => as_aux_lemma =>
      clear H'
      obtain ⟨x20_2, x21_2, rfl, rfl, HA, HK2, HO_0, HK, HB⟩ := hrel
      cases gk with
      | zero => exact absurd HA.out (by simp [slices_symMergeCmpFunc_Step__profile_tidy_1.l4])
      | succ k2 =>
       have H := HA.out
       clear HA
       simp only [slices_symMergeCmpFunc_Step__profile_tidy_1.l4] at H
       by_cases c62 : x20_2 < x21_2
       ·rw [if_pos c62] at H
        have c62b0 : decide (x20_2 < x21_2) = true := decide_eq_true c62
        clear c62
        obtain ⟨ji63, hji63⟩ : ∃ j_ : Int, (wrap64 ((wrap64 (x19_59 - 1)) - (wrap64 ((IntKind.u64.wrap (wrap64 (x20_2 + x21_2))) / 2)))) = j_ := ⟨_, rfl⟩
        replace H : (if 0 ≤ (ji63) then (if (ji63) < (l0.length : Int) then (if 0 ≤ (wrap64 ((IntKind.u64.wrap (wrap64 (x20_2 + x21_2))) / 2)) then (if (wrap64 ((IntKind.u64.wrap (wrap64 (x20_2 + x21_2))) / 2)) < (l0.length : Int) then ((profile_tidy_1.f ((rd_T40 l0 (ji63)).f0) ((rd_T40 l0 (ji63)).f1) ((rd_T40 l0 (wrap64 ((IntKind.u64.wrap (wrap64 (x20_2 + x21_2))) / 2))).f0) ((rd_T40 l0 (wrap64 ((IntKind.u64.wrap (wrap64 (x20_2 + x21_2))) / 2))).f1)).bind fun t145 => (if t145 < 0 then (slices_symMergeCmpFunc_Step__profile_tidy_1.l4 k2 l0 a1 a2 a3 x18_59 x19_59 x20_2 (wrap64 ((IntKind.u64.wrap (wrap64 (x20_2 + x21_2))) / 2)) (wrap64 (x19_59 - 1))) else (slices_symMergeCmpFunc_Step__profile_tidy_1.l4 k2 l0 a1 a2 a3 x18_59 x19_59 (wrap64 ((wrap64 ((IntKind.u64.wrap (wrap64 (x20_2 + x21_2))) / 2)) + 1)) x21_2 (wrap64 (x19_59 - 1))))) else (none)) else (none)) else (none)) else (none)) = some r := by first | (rw [hji63] at H; exact H) | (simp only [hji63] at H ⊢; exact H)
        have hji63w : (IntKind.i64.wrap ((wrap64 (x19_59 - 1)) - (wrap64 ((IntKind.u64.wrap (wrap64 (x20_2 + x21_2))) / 2)))) = ji63 := (i64_w _).trans hji63
        by_cases c64 : 0 ≤ (ji63)
        ·rw [if_pos c64] at H
         have c64b0 : decide (0 ≤ (ji63)) = true := decide_eq_true c64
         clear c64
         by_cases c65 : (ji63) < (l0.length : Int)
         ·rw [if_pos c65] at H
          have c65b0 : decide ((ji63) < (l0.length : Int)) = true := decide_eq_true c65
          clear c65
          obtain ⟨ji66, hji66⟩ : ∃ j_ : Int, (wrap64 ((IntKind.u64.wrap (wrap64 (x20_2 + x21_2))) / 2)) = j_ := ⟨_, rfl⟩
          replace H : (if 0 ≤ (ji66) then (if (ji66) < (l0.length : Int) then ((profile_tidy_1.f ((rd_T40 l0 (ji63)).f0) ((rd_T40 l0 (ji63)).f1) ((rd_T40 l0 (ji66)).f0) ((rd_T40 l0 (ji66)).f1)).bind fun t145 => (if t145 < 0 then (slices_symMergeCmpFunc_Step__profile_tidy_1.l4 k2 l0 a1 a2 a3 x18_59 x19_59 x20_2 ji66 (wrap64 (x19_59 - 1))) else (slices_symMergeCmpFunc_Step__profile_tidy_1.l4 k2 l0 a1 a2 a3 x18_59 x19_59 (wrap64 ((ji66) + 1)) x21_2 (wrap64 (x19_59 - 1))))) else (none)) else (none)) = some r := by first | (rw [hji66] at H; exact H) | (simp only [hji66] at H ⊢; exact H)
          have hji66w : (IntKind.i64.wrap ((IntKind.u64.wrap (wrap64 (x20_2 + x21_2))) / 2)) = ji66 := (i64_w _).trans hji66
          (try simp only [hji66] at hji63)
          (try simp only [hji66w] at hji63w)
          by_cases c67 : 0 ≤ (ji66)
          ·rw [if_pos c67] at H
           have c67b0 : decide (0 ≤ (ji66)) = true := decide_eq_true c67
           clear c67
           by_cases c68 : (ji66) < (l0.length : Int)
           ·rw [if_pos c68] at H
            have c68b0 : decide ((ji66) < (l0.length : Int)) = true := decide_eq_true c68
            clear c68
            replace H := Option.bind_eq_some_iff.mp H
            obtain ⟨t145, A690, H⟩ := H
            replace H : (if t145 < 0 then (slices_symMergeCmpFunc_Step__profile_tidy_1.l4 k2 l0 a1 a2 a3 x18_59 x19_59 x20_2 ji66 (wrap64 (x19_59 - 1))) else (slices_symMergeCmpFunc_Step__profile_tidy_1.l4 k2 l0 a1 a2 a3 x18_59 x19_59 (wrap64 ((ji66) + 1)) x21_2 (wrap64 (x19_59 - 1)))) = some r := H
            have A69 := Aside0.mk A690
            clear A690
            by_cases c70 : t145 < 0
            ·as_aux_lemma =>
             rw [if_pos c70] at H
             have c70b0 : decide (t145 < 0) = true := decide_eq_true c70
             clear c70
             have H' := Aside0.mk H
             clear H
             try go_wp2
             have n0_ := Aside0.mk (Kd.R_drew HO_0.out)
             have n1_ := Aside0.mk (Kept.drew HK.out)
             have n2_ := Aside0.mk (below_drew1 HB.out)
             clear HO_0 HK HB
             have HO_0 := n0_
             have HK := n1_
             have HB := n2_
             clear n0_ n1_ n2_
             obtain ⟨Ao72, co72, eo72⟩ := Kd.R_slice HO_0.out
             (first | subst eo72 | (injection eo72 with f1_ f2_ f3_; have f4_ := f1_.symm; have f5_ := f3_.symm; clear f1_ f2_ f3_; subst f4_; subst f5_))
             have p143 : 0 ≤ ((ji63) : Int) := oda
             have q143 : (ji63) < (l0.length : Int) := oda
             obtain ⟨ad143, e143, hx143_0, hx143_1⟩ := at_T40 (Kd.R_reads' HO_0.out).2.2 (ji63) p143 q143
             cases e143
             replace p143 := eq_true p143
             replace q143 := eq_true q143
             have p144 : 0 ≤ ((ji66) : Int) := oda
             have q144 : (ji66) < (l0.length : Int) := oda
             obtain ⟨ad144, e144, hx144_0, hx144_1⟩ := at_T40 (Kd.R_reads' HO_0.out).2.2 (ji66) p144 q144
             obtain rfl : ad143 = ad144 := (by injection e144)
             replace p144 := eq_true p144
             replace q144 := eq_true q144
             refine start_ (n := 14) (S := fun w' => w'.cell? (ad143.add (((ji63)).toNat * 2)) = some (.int .i64 ((rd_T40 l0 (ji63)).f0)) ∧ w'.cell? ⟨(ad143.add (((ji63)).toNat * 2)).block, (ad143.add (((ji63)).toNat * 2)).off + 1, none⟩ = some (.int .i64 ((rd_T40 l0 (ji63)).f1)) ∧ w'.cell? (ad143.add (((ji66)).toNat * 2)) = some (.int .i64 ((rd_T40 l0 (ji66)).f0)) ∧ w'.cell? ⟨(ad143.add (((ji66)).toNat * 2)).block, (ad143.add (((ji66)).toNat * 2)).off + 1, none⟩ = some (.int .i64 ((rd_T40 l0 (ji66)).f1))) (ds := []) #[false, false, false, false, false, false, false, false, false, false, false, false, false, false] (by kernel_rfl) rfl rfl ⟨hx143_0, hx143_1, hx144_0, hx144_1⟩ (fun hHeld => ?_); refine with_tabW slices_symMergeCmpFunc_Step__profile_tidy_1.tab35 slices_symMergeCmpFunc_Step__profile_tidy_1.bits35 (fun HT_ HW_ => ?_)
             generalize wr.drew = w71 at HO_0 HK HB hx143_0 hx143_1 hx144_0 hx144_1 hHeld ⊢
             refine plan_ [(0, 158), (1, 159), (2, 160), (3, 161), (4, 162), (5, 163), (7, 165), (8, 166), (9, 167)] ?_
             iterate 9 (refine planP_ (v := ?_) (a' := ?_) rfl rfl (any_of HT_.out (by kernel_rfl)) (fun _ _ _ h => h) (Or.inl ⟨by rfl, ?_⟩) ?_ ?_; rotate_left; (intro w'; go_simp; with_reducible rfl); rotate_left; (simp only [Act.put, List.setIfInBounds_toArray, List.set_cons_zero, List.set_cons_succ, i64_w, i32_w]; rfl))
             refine planEnd_ ?_
             refine plan_ [(6, 164), (10, 168)] ?_
             iterate 2 (refine planT_ (v := ?_) (a' := ?_) rfl rfl (take_ofW HT_.out HW_.out (by kernel_rfl)) (fun _ _ _ h => h) (Or.inl ⟨by rfl, ?_⟩) hHeld ?_ ?_; rotate_left; (rintro w' ⟨s0, s1, s2, s3⟩; go_simp; with_reducible rfl); rotate_left; (simp only [Act.put, List.setIfInBounds_toArray, List.set_cons_zero, List.set_cons_succ, i64_w, i32_w]; rfl))
             refine planEnd_ ?_
             refine one_ (i := 11) (N := some 169) #[true, true, true, true, true, true, true, true, true, true, true, true, false, false] rfl rfl (one_of HT_.out (by kernel_rfl)) (by decide) (fun K hK => ?_)
             refine goesV_ C_.hf C_.hname C_.hb #[.agg #[.int .i64 ((rd_T40 l0 (ji63)).f0), .int .i64 ((rd_T40 l0 (ji63)).f1)], .agg #[.int .i64 ((rd_T40 l0 (ji66)).f0), .int .i64 ((rd_T40 l0 (ji66)).f1)]] (by rfl) rfl rfl (by (try simp only [List.map_toArray, List.map_cons, List.map_nil]); first | done | (simp only [hji63, hji66]; rfl) | rfl | (simp only [List.length_drop, List.length_take]; rfl)) rfl ?_
             with_reducible refine (C_.calls ((rd_T40 l0 (ji63)).f0) ((rd_T40 l0 (ji63)).f1) ((rd_T40 l0 (ji66)).f0) ((rd_T40 l0 (ji66)).f1) t145 _ A69.out).mono ?_
             rintro e w73 ⟨rfl, hb⟩
             have HS0_ := (hb.cell (World.block_lt_of_cell? _ _ (hHeld.1))).trans (hHeld.1)
             have HS1_ := (hb.cell (World.block_lt_of_cell? _ _ (hHeld.2.1))).trans (hHeld.2.1)
             have HS2_ := (hb.cell (World.block_lt_of_cell? _ _ (hHeld.2.2.1))).trans (hHeld.2.2.1)
             have HS3_ := (hb.cell (World.block_lt_of_cell? _ _ (hHeld.2.2.2))).trans (hHeld.2.2.2)
             refine ⟨_, rfl, ?_⟩
             have n0_ := Aside0.mk (Kd.R_below (mR HO_0.out) hb)
             have n1_ := Aside0.mk (Kept.below (S := (fun k_ => P0_ k_)) (mK HK.out) hb)
             have n2_ := Aside0.mk (below_step (mB HB.out) hb)
             clear HO_0 HK HB
             have HO_0 := n0_
             have HK := n1_
             have HB := n2_
             clear n0_ n1_ n2_
             clear hb
             refine hK.out _ _ ⟨HS0_, HS1_, HS2_, HS3_⟩ (fun hHeld => ?_)
             clear hK K
             refine norm_ (a' := ?_) ?_ ?_
             rotate_left
             ·show Act.put _ (some 169) _ = _
              simp only [Act.put, List.setIfInBounds_toArray, List.set_cons_zero, List.set_cons_succ, i64_w, i32_w]
              rfl
             refine plan_ [(12, 170), (13, 171)] ?_
             iterate 2 (refine planP_ (v := ?_) (a' := ?_) rfl rfl (any_of HT_.out (by kernel_rfl)) (fun _ _ _ h => h) (Or.inl ⟨by rfl, ?_⟩) ?_ ?_; rotate_left; (intro w'; go_simp; with_reducible rfl); rotate_left; (simp only [Act.put, List.setIfInBounds_toArray, List.set_cons_zero, List.set_cons_succ, i64_w, i32_w]; rfl))
             refine planEnd_ ?_
             refine done_ (done_of HT_.out (by kernel_rfl)) ?_
             try go_wp2
             go_roundg k2
             case measure => have := HJ59.out; have := HK2.out; omega
             case rel => exact ⟨(x20_2), (ji66), ez, (by first | rfl | (simp; done) | (simp only [← hji66] <;> (first | rfl | simp)) | (simp [*]; done)), H', ⟨by have := HJ59.out; have := HK2.out; omega⟩, ⟨mR HO_0.out⟩, ⟨mK HK.out⟩, ⟨mB HB.out⟩⟩
            ·as_aux_lemma =>
             rw [if_neg c70] at H
             have c70b0 : decide (t145 < 0) = false := decide_eq_false c70
             clear c70
             have H' := Aside0.mk H
             clear H
             try go_wp2
             have n0_ := Aside0.mk (Kd.R_drew HO_0.out)
             have n1_ := Aside0.mk (Kept.drew HK.out)
             have n2_ := Aside0.mk (below_drew1 HB.out)
             clear HO_0 HK HB
             have HO_0 := n0_
             have HK := n1_
             have HB := n2_
             clear n0_ n1_ n2_
             obtain ⟨Ao75, co75, eo75⟩ := Kd.R_slice HO_0.out
             (first | subst eo75 | (injection eo75 with f1_ f2_ f3_; have f4_ := f1_.symm; have f5_ := f3_.symm; clear f1_ f2_ f3_; subst f4_; subst f5_))
             have p143 : 0 ≤ ((ji63) : Int) := oda
             have q143 : (ji63) < (l0.length : Int) := oda
             obtain ⟨ad143, e143, hx143_0, hx143_1⟩ := at_T40 (Kd.R_reads' HO_0.out).2.2 (ji63) p143 q143
             cases e143
             replace p143 := eq_true p143
             replace q143 := eq_true q143
             have p144 : 0 ≤ ((ji66) : Int) := oda
             have q144 : (ji66) < (l0.length : Int) := oda
             obtain ⟨ad144, e144, hx144_0, hx144_1⟩ := at_T40 (Kd.R_reads' HO_0.out).2.2 (ji66) p144 q144
             obtain rfl : ad143 = ad144 := (by injection e144)
             replace p144 := eq_true p144
             replace q144 := eq_true q144
             refine start_ (n := 14) (S := fun w' => w'.cell? (ad143.add (((ji63)).toNat * 2)) = some (.int .i64 ((rd_T40 l0 (ji63)).f0)) ∧ w'.cell? ⟨(ad143.add (((ji63)).toNat * 2)).block, (ad143.add (((ji63)).toNat * 2)).off + 1, none⟩ = some (.int .i64 ((rd_T40 l0 (ji63)).f1)) ∧ w'.cell? (ad143.add (((ji66)).toNat * 2)) = some (.int .i64 ((rd_T40 l0 (ji66)).f0)) ∧ w'.cell? ⟨(ad143.add (((ji66)).toNat * 2)).block, (ad143.add (((ji66)).toNat * 2)).off + 1, none⟩ = some (.int .i64 ((rd_T40 l0 (ji66)).f1))) (ds := []) #[false, false, false, false, false, false, false, false, false, false, false, false, false, false] (by kernel_rfl) rfl rfl ⟨hx143_0, hx143_1, hx144_0, hx144_1⟩ (fun hHeld => ?_); refine with_tabW slices_symMergeCmpFunc_Step__profile_tidy_1.tab35 slices_symMergeCmpFunc_Step__profile_tidy_1.bits35 (fun HT_ HW_ => ?_)
             generalize wr.drew = w74 at HO_0 HK HB hx143_0 hx143_1 hx144_0 hx144_1 hHeld ⊢
             refine plan_ [(0, 158), (1, 159), (2, 160), (3, 161), (4, 162), (5, 163), (7, 165), (8, 166), (9, 167)] ?_
             iterate 9 (refine planP_ (v := ?_) (a' := ?_) rfl rfl (any_of HT_.out (by kernel_rfl)) (fun _ _ _ h => h) (Or.inl ⟨by rfl, ?_⟩) ?_ ?_; rotate_left; (intro w'; go_simp; with_reducible rfl); rotate_left; (simp only [Act.put, List.setIfInBounds_toArray, List.set_cons_zero, List.set_cons_succ, i64_w, i32_w]; rfl))
             refine planEnd_ ?_
             refine plan_ [(6, 164), (10, 168)] ?_
             iterate 2 (refine planT_ (v := ?_) (a' := ?_) rfl rfl (take_ofW HT_.out HW_.out (by kernel_rfl)) (fun _ _ _ h => h) (Or.inl ⟨by rfl, ?_⟩) hHeld ?_ ?_; rotate_left; (rintro w' ⟨s0, s1, s2, s3⟩; go_simp; with_reducible rfl); rotate_left; (simp only [Act.put, List.setIfInBounds_toArray, List.set_cons_zero, List.set_cons_succ, i64_w, i32_w]; rfl))
             refine planEnd_ ?_
             refine one_ (i := 11) (N := some 169) #[true, true, true, true, true, true, true, true, true, true, true, true, false, false] rfl rfl (one_of HT_.out (by kernel_rfl)) (by decide) (fun K hK => ?_)
             refine goesV_ C_.hf C_.hname C_.hb #[.agg #[.int .i64 ((rd_T40 l0 (ji63)).f0), .int .i64 ((rd_T40 l0 (ji63)).f1)], .agg #[.int .i64 ((rd_T40 l0 (ji66)).f0), .int .i64 ((rd_T40 l0 (ji66)).f1)]] (by rfl) rfl rfl (by (try simp only [List.map_toArray, List.map_cons, List.map_nil]); first | done | (simp only [hji63, hji66]; rfl) | rfl | (simp only [List.length_drop, List.length_take]; rfl)) rfl ?_
             with_reducible refine (C_.calls ((rd_T40 l0 (ji63)).f0) ((rd_T40 l0 (ji63)).f1) ((rd_T40 l0 (ji66)).f0) ((rd_T40 l0 (ji66)).f1) t145 _ A69.out).mono ?_
             rintro e w76 ⟨rfl, hb⟩
             have HS0_ := (hb.cell (World.block_lt_of_cell? _ _ (hHeld.1))).trans (hHeld.1)
             have HS1_ := (hb.cell (World.block_lt_of_cell? _ _ (hHeld.2.1))).trans (hHeld.2.1)
             have HS2_ := (hb.cell (World.block_lt_of_cell? _ _ (hHeld.2.2.1))).trans (hHeld.2.2.1)
             have HS3_ := (hb.cell (World.block_lt_of_cell? _ _ (hHeld.2.2.2))).trans (hHeld.2.2.2)
             refine ⟨_, rfl, ?_⟩
             have n0_ := Aside0.mk (Kd.R_below (mR HO_0.out) hb)
             have n1_ := Aside0.mk (Kept.below (S := (fun k_ => P0_ k_)) (mK HK.out) hb)
             have n2_ := Aside0.mk (below_step (mB HB.out) hb)
             clear HO_0 HK HB
             have HO_0 := n0_
             have HK := n1_
             have HB := n2_
             clear n0_ n1_ n2_
             clear hb
             refine hK.out _ _ ⟨HS0_, HS1_, HS2_, HS3_⟩ (fun hHeld => ?_)
             clear hK K
             refine norm_ (a' := ?_) ?_ ?_
             rotate_left
             ·show Act.put _ (some 169) _ = _
              simp only [Act.put, List.setIfInBounds_toArray, List.set_cons_zero, List.set_cons_succ, i64_w, i32_w]
              rfl
             refine plan_ [(12, 170), (13, 171)] ?_
             iterate 2 (refine planP_ (v := ?_) (a' := ?_) rfl rfl (any_of HT_.out (by kernel_rfl)) (fun _ _ _ h => h) (Or.inl ⟨by rfl, ?_⟩) ?_ ?_; rotate_left; (intro w'; go_simp; with_reducible rfl); rotate_left; (simp only [Act.put, List.setIfInBounds_toArray, List.set_cons_zero, List.set_cons_succ, i64_w, i32_w]; rfl))
             refine planEnd_ ?_
             refine done_ (done_of HT_.out (by kernel_rfl)) ?_
             try go_wp2
             go_roundg k2
             case measure => have := HJ59.out; have := HK2.out; omega
             case rel => exact ⟨(wrap64 ((ji66) + 1)), (x21_2), (by first | rfl | (simp; done) | (simp only [← hji66] <;> (first | rfl | simp)) | (simp [*]; done)), ez, H', ⟨by have := HJ59.out; have := HK2.out; omega⟩, ⟨mR HO_0.out⟩, ⟨mK HK.out⟩, ⟨mB HB.out⟩⟩
           ·rw [if_neg c68] at H
            exact absurd H (by simp)
          ·rw [if_neg c67] at H
           exact absurd H (by simp)
         ·rw [if_neg c65] at H
          exact absurd H (by simp)
        ·rw [if_neg c64] at H
         exact absurd H (by simp)
       ·rw [if_neg c62] at H
        have c62b0 : decide (x20_2 < x21_2) = false := decide_eq_false c62
        clear c62
        have HC77 := Aside0.mk H
        clear H
        go_upto_region 39 with (fail)
        go_cut [185] (fun v185 wc => ∃ (kq : Nat) (x185_76 : Bool), v185 = .bool x185_76 ∧ Aside0 (slices_symMergeCmpFunc_Step__profile_tidy_1.j6 kq l0 a1 a2 a3 x18_59 x20_2 (wrap64 (x19_59 - x20_2)) x185_76 = some r) ∧ Aside0 (kq ≤ k2) ∧ Aside0 (Kd.R k40 40 wc w0.heap.size (fun k_ => (P0_ k_ ∨ w.heap.size ≤ k_)) u9000_ l0) ∧ Aside0 (Kept w wc (fun k_ => P0_ k_)) ∧ Aside0 (Below w0.heap.size w0 wc))
        case first =>
         have H := HC77.out
         clear HC77
         by_cases c78 : x20_2 < a2
         ·rw [if_pos c78] at H
          have c78b0 : decide (x20_2 < a2) = true := decide_eq_true c78
          clear c78
          (first | rw [c78b0] | (simp only [i64_w, i32_w]; rw [c78b0]) | skip)
          have H' := Aside0.mk H
          clear H
          go_wp2
          go_meet
          case rel => exact ⟨_, (decide (a2 < (wrap64 (x19_59 - x20_2)))), ez, H', ⟨by have := HJ59.out; have := HK2.out; first | omega | exact Nat.le_refl _⟩, ⟨mR HO_0.out⟩, ⟨mK HK.out⟩, ⟨mB HB.out⟩⟩
         ·rw [if_neg c78] at H
          have c78b0 : decide (x20_2 < a2) = false := decide_eq_false c78
          clear c78
          (first | rw [c78b0] | (simp only [i64_w, i32_w]; rw [c78b0]) | skip)
          have H' := Aside0.mk H
          clear H
          go_wp2
          go_meet
          case rel => exact ⟨_, (false), ez, H', ⟨by have := HJ59.out; have := HK2.out; first | omega | exact Nat.le_refl _⟩, ⟨mR HO_0.out⟩, ⟨mK HK.out⟩, ⟨mB HB.out⟩⟩
        case rest => as_aux_lemma =>
         clear HC77
         clear c62b0
         obtain ⟨kq, x185_76, rfl, HA, HJ76, HO_0, HK, HB⟩ := hcut
         cases kq with
         | zero => exact absurd HA.out (by simp [slices_symMergeCmpFunc_Step__profile_tidy_1.j6])
         | succ kj76 =>
          have H := HA.out
          clear HA
          simp only [slices_symMergeCmpFunc_Step__profile_tidy_1.j6] at H
          have HC79 := Aside0.mk H
          clear H
          go_upto_if 185 with (fail)
          go_cut [] (fun wc => ∃ (kq : Nat) (x0_78 : List (S40)), Aside0 (slices_symMergeCmpFunc_Step__profile_tidy_1.j7 kq x0_78 a1 a3 x18_59 x20_2 (wrap64 (x19_59 - x20_2)) = some r) ∧ Aside0 (kq ≤ kj76) ∧ Aside0 (Kd.R k40 40 wc w0.heap.size (fun k_ => (P0_ k_ ∨ w.heap.size ≤ k_)) u9000_ x0_78) ∧ Aside0 (Kept w wc (fun k_ => P0_ k_)) ∧ Aside0 (Below w0.heap.size w0 wc))
          case first =>
           have H := HC79.out
           clear HC79
           by_cases c80 : x185_76 = true
           ·subst c80
            have H1 : ((slices_rotateCmpFunc_Step__profile_tidy_1.f kj76 l0 x20_2 a2 (wrap64 (x19_59 - x20_2))).bind fun t146 => (slices_symMergeCmpFunc_Step__profile_tidy_1.j7 kj76 t146 a1 a3 x18_59 x20_2 (wrap64 (x19_59 - x20_2)))) = some r := by rw [if_pos rfl] at H; exact H
            clear H
            have H := H1
            clear H1
            replace H := Option.bind_eq_some_iff.mp H
            obtain ⟨t146, A810, H⟩ := H
            replace H : (slices_symMergeCmpFunc_Step__profile_tidy_1.j7 kj76 t146 a1 a3 x18_59 x20_2 (wrap64 (x19_59 - x20_2))) = some r := H
            have A81 := Aside0.mk A810
            clear A810
            have H' := Aside0.mk H
            clear H
            obtain ⟨Ao82, co82, eo82⟩ := Kd.R_slice HO_0.out
            subst eo82
            go_wp2_with (first | ((with_reducible refine gate_callee (f := 66) rfl ?_); refine goesL_ (some 191) rfl rfl Try.func66 (by kernel_rfl) rfl #[.slice Ao82 l0.length co82, .int .i64 x20_2, .int .i64 a2, .int .i64 (wrap64 (x19_59 - x20_2)), .func (.func fv_) #[] #[]] rfl mt ?_; (with_reducible refine (slices_rotateCmpFunc_Step__profile_tidy_1.calls C_ kj76 (fun k_ => some k_ = (.slice Ao82 l0.length co82 : Value).ownBlock) (.slice Ao82 l0.length co82) l0 x20_2 a2 (wrap64 (x19_59 - x20_2))  t146 w0 _ ?side1 ?side2 A81.out).mono ?_); (case side1 => repeat (first | (with_reducible first | exact HB.out | apply below_alloc | apply pw_below_drewN | apply below_drew1) | exact HB.out)); (case side2 => exact Kd.R_tight rfl HO_0.out); rintro e w83 ⟨rfl, hy0, hb, hkp⟩; refine ⟨_, rfl, ?_⟩; have n0_ := Aside0.mk (Kd.R_reok rfl hy0 (fun k_ e_ => HO_0.out.1 k_ e_)); have n1_ := Aside0.mk (Kept.then_ (S := (fun k_ => P0_ k_)) (mK HK.out) hkp (fun k_ hs_ => (fun e_ => (HO_0.out.1 k_ e_.symm)) hs_)); have n2_ := Aside0.mk (hb); clear HO_0 HK HB; have HO_0 := n0_; have HK := n1_; have HB := n2_; clear n0_ n1_ n2_ hb hkp hy0))
            go_meet
            case rel => exact ⟨_, (t146), H', ⟨by have := HJ59.out; have := HK2.out; have := HJ76.out; first | omega | exact Nat.le_refl _⟩, ⟨mR HO_0.out⟩, ⟨mK HK.out⟩, ⟨mB HB.out⟩⟩
           ·replace c80 := Bool.eq_false_iff.mpr c80
            subst c80
            have H1 : (slices_symMergeCmpFunc_Step__profile_tidy_1.j7 kj76 l0 a1 a3 x18_59 x20_2 (wrap64 (x19_59 - x20_2))) = some r := by rw [if_neg (show ¬ (false = true) by decide)] at H; exact H
            clear H
            have H := H1
            clear H1
            have H' := Aside0.mk H
            clear H
            go_wp2
            go_meet
            case rel => exact ⟨_, (l0), H', ⟨by have := HJ59.out; have := HK2.out; have := HJ76.out; first | omega | exact Nat.le_refl _⟩, ⟨mR HO_0.out⟩, ⟨mK HK.out⟩, ⟨mB HB.out⟩⟩
          case rest => as_aux_lemma =>
           clear HC79
           obtain ⟨kq, x0_78, HA, HJ78, HO_0, HK, HB⟩ := hcut
           cases kq with
           | zero => exact absurd HA.out (by simp [slices_symMergeCmpFunc_Step__profile_tidy_1.j7])
           | succ kj78 =>
            have H := HA.out
            clear HA
            simp only [slices_symMergeCmpFunc_Step__profile_tidy_1.j7] at H
            have HC84 := Aside0.mk H
            clear H
            go_upto_region 41 with (fail)
            go_cut [199] (fun v199 wc => ∃ (kq : Nat) (x199_83 : Bool), v199 = .bool x199_83 ∧ Aside0 (slices_symMergeCmpFunc_Step__profile_tidy_1.j8 kq x0_78 a1 a3 x18_59 x20_2 (wrap64 (x19_59 - x20_2)) x199_83 = some r) ∧ Aside0 (kq ≤ kj78) ∧ Aside0 (Kd.R k40 40 wc w0.heap.size (fun k_ => (P0_ k_ ∨ w.heap.size ≤ k_)) u9000_ x0_78) ∧ Aside0 (Kept w wc (fun k_ => P0_ k_)) ∧ Aside0 (Below w0.heap.size w0 wc))
            case first =>
             have H := HC84.out
             clear HC84
             by_cases c85 : a1 < x20_2
             ·rw [if_pos c85] at H
              have c85b0 : decide (a1 < x20_2) = true := decide_eq_true c85
              clear c85
              (first | rw [c85b0] | (simp only [i64_w, i32_w]; rw [c85b0]) | skip)
              have H' := Aside0.mk H
              clear H
              go_wp2
              go_meet
              case rel => exact ⟨_, (decide (x20_2 < x18_59)), ez, H', ⟨by have := HJ59.out; have := HK2.out; have := HJ76.out; have := HJ78.out; first | omega | exact Nat.le_refl _⟩, ⟨mR HO_0.out⟩, ⟨mK HK.out⟩, ⟨mB HB.out⟩⟩
             ·rw [if_neg c85] at H
              have c85b0 : decide (a1 < x20_2) = false := decide_eq_false c85
              clear c85
              (first | rw [c85b0] | (simp only [i64_w, i32_w]; rw [c85b0]) | skip)
              have H' := Aside0.mk H
              clear H
              go_wp2
              go_meet
              case rel => exact ⟨_, (false), ez, H', ⟨by have := HJ59.out; have := HK2.out; have := HJ76.out; have := HJ78.out; first | omega | exact Nat.le_refl _⟩, ⟨mR HO_0.out⟩, ⟨mK HK.out⟩, ⟨mB HB.out⟩⟩
            case rest => as_aux_lemma =>
             clear HC84
             obtain ⟨kq, x199_83, rfl, HA, HJ83, HO_0, HK, HB⟩ := hcut
             cases kq with
             | zero => exact absurd HA.out (by simp [slices_symMergeCmpFunc_Step__profile_tidy_1.j8])
             | succ kj83 =>
              have H := HA.out
              clear HA
              simp only [slices_symMergeCmpFunc_Step__profile_tidy_1.j8] at H
              by_cases c86 : x199_83 = true
              ·subst c86
               have H1 : ((slices_symMergeCmpFunc_Step__profile_tidy_1.f kj83 x0_78 a1 x20_2 x18_59).bind fun t147 => (if x18_59 < (wrap64 (x19_59 - x20_2)) then (if (wrap64 (x19_59 - x20_2)) < a3 then ((slices_symMergeCmpFunc_Step__profile_tidy_1.f kj83 t147 x18_59 (wrap64 (x19_59 - x20_2)) a3).bind fun t148 => (some t148)) else (some t147)) else (some t147))) = some r := by rw [if_pos rfl] at H; exact H
               clear H
               have H := H1
               clear H1
               replace H := Option.bind_eq_some_iff.mp H
               obtain ⟨t147, A870, H⟩ := H
               replace H : (if x18_59 < (wrap64 (x19_59 - x20_2)) then (if (wrap64 (x19_59 - x20_2)) < a3 then ((slices_symMergeCmpFunc_Step__profile_tidy_1.f kj83 t147 x18_59 (wrap64 (x19_59 - x20_2)) a3).bind fun t148 => (some t148)) else (some t147)) else (some t147)) = some r := H
               have A87 := Aside0.mk A870
               clear A870
               by_cases c88 : x18_59 < (wrap64 (x19_59 - x20_2))
               ·rw [if_pos c88] at H
                have c88b0 : decide (x18_59 < (wrap64 (x19_59 - x20_2))) = true := decide_eq_true c88
                clear c88
                by_cases c89 : (wrap64 (x19_59 - x20_2)) < a3
                ·rw [if_pos c89] at H
                 have c89b0 : decide ((wrap64 (x19_59 - x20_2)) < a3) = true := decide_eq_true c89
                 clear c89
                 replace H := Option.bind_eq_some_iff.mp H
                 obtain ⟨t148, A900, H⟩ := H
                 replace H : (some t148) = some r := H
                 have A90 := Aside0.mk A900
                 clear A900
                 obtain rfl := Option.some.inj H
                 obtain ⟨Ao91, co91, eo91⟩ := Kd.R_slice HO_0.out
                 subst eo91
                 go_wp2_with (first | ((with_reducible refine gate_callee (f := 64) rfl ?_); refine goesL_ (some 205) rfl rfl Try.func64 (by kernel_rfl) rfl #[.slice Ao91 x0_78.length co91, .int .i64 a1, .int .i64 x20_2, .int .i64 x18_59, .func (.func fv_) #[] #[]] rfl mt ?_; (with_reducible refine (ih kj83 (by have := HJ59.out; have := HK2.out; have := HJ76.out; have := HJ78.out; have := HJ83.out; omega) (fun k_ => some k_ = (.slice Ao91 x0_78.length co91 : Value).ownBlock) (.slice Ao91 x0_78.length co91) x0_78 a1 x20_2 x18_59  t147 w0 _ ?side1 ?side2 A87.out).mono ?_); (case side1 => repeat (first | (with_reducible first | exact HB.out | apply below_alloc | apply pw_below_drewN | apply below_drew1) | exact HB.out)); (case side2 => exact Kd.R_tight rfl HO_0.out); rintro e w92 ⟨rfl, hy0, hb, hkp⟩; refine ⟨_, rfl, ?_⟩; have n0_ := Aside0.mk (Kd.R_reok rfl hy0 (fun k_ e_ => HO_0.out.1 k_ e_)); have n1_ := Aside0.mk (Kept.then_ (S := (fun k_ => P0_ k_)) (mK HK.out) hkp (fun k_ hs_ => (fun e_ => (HO_0.out.1 k_ e_.symm)) hs_)); have n2_ := Aside0.mk (hb); clear HO_0 HK HB; have HO_0 := n0_; have HK := n1_; have HB := n2_; clear n0_ n1_ n2_ hb hkp hy0) | ((with_reducible refine gate_callee (f := 64) rfl ?_); refine goesL_ (some 219) rfl rfl Try.func64 (by kernel_rfl) rfl #[.slice Ao91 x0_78.length co91, .int .i64 x18_59, .int .i64 (wrap64 (x19_59 - x20_2)), .int .i64 a3, .func (.func fv_) #[] #[]] rfl mt ?_; (with_reducible refine (ih kj83 (by have := HJ59.out; have := HK2.out; have := HJ76.out; have := HJ78.out; have := HJ83.out; omega) (fun k_ => some k_ = (.slice Ao91 x0_78.length co91 : Value).ownBlock) (.slice Ao91 x0_78.length co91) t147 x18_59 (wrap64 (x19_59 - x20_2)) a3  t148 w0 _ ?side1 ?side2 A90.out).mono ?_); (case side1 => repeat (first | (with_reducible first | exact HB.out | apply below_alloc | apply pw_below_drewN | apply below_drew1) | exact HB.out)); (case side2 => exact Kd.R_tight rfl HO_0.out); rintro e w93 ⟨rfl, hy0, hb, hkp⟩; refine ⟨_, rfl, ?_⟩; have n0_ := Aside0.mk (Kd.R_reok rfl hy0 (fun k_ e_ => HO_0.out.1 k_ e_)); have n1_ := Aside0.mk (Kept.then_ (S := (fun k_ => P0_ k_)) (mK HK.out) hkp (fun k_ hs_ => (fun e_ => (HO_0.out.1 k_ e_.symm)) hs_)); have n2_ := Aside0.mk (hb); clear HO_0 HK HB; have HO_0 := n0_; have HK := n1_; have HB := n2_; clear n0_ n1_ n2_ hb hkp hy0))
                 first | go_end0 | ((try simp only [Exit.inBlock, Exit.then]); refine bodyPost_ret (results_none rfl _ _ _) rfl ?_)
                 exact ⟨by first | rfl | (simp [errW_none, errW_some] <;> rfl) | (simp [*, errW_none, errW_some] <;> rfl), mR HO_0.out, by repeat (first | (with_reducible first | exact HB.out | apply below_alloc | apply pw_below_drewN | apply below_drew1) | exact HB.out), by repeat (first | (with_reducible first | exact HK.out | apply Kept.alloc | apply Kept.drewN | apply Kept.drew) | exact HK.out)⟩
                ·rw [if_neg c89] at H
                 have c89b0 : decide ((wrap64 (x19_59 - x20_2)) < a3) = false := decide_eq_false c89
                 clear c89
                 obtain rfl := Option.some.inj H
                 obtain ⟨Ao94, co94, eo94⟩ := Kd.R_slice HO_0.out
                 subst eo94
                 go_wp2_with (first | ((with_reducible refine gate_callee (f := 64) rfl ?_); refine goesL_ (some 205) rfl rfl Try.func64 (by kernel_rfl) rfl #[.slice Ao94 x0_78.length co94, .int .i64 a1, .int .i64 x20_2, .int .i64 x18_59, .func (.func fv_) #[] #[]] rfl mt ?_; (with_reducible refine (ih kj83 (by have := HJ59.out; have := HK2.out; have := HJ76.out; have := HJ78.out; have := HJ83.out; omega) (fun k_ => some k_ = (.slice Ao94 x0_78.length co94 : Value).ownBlock) (.slice Ao94 x0_78.length co94) x0_78 a1 x20_2 x18_59  t147 w0 _ ?side1 ?side2 A87.out).mono ?_); (case side1 => repeat (first | (with_reducible first | exact HB.out | apply below_alloc | apply pw_below_drewN | apply below_drew1) | exact HB.out)); (case side2 => exact Kd.R_tight rfl HO_0.out); rintro e w95 ⟨rfl, hy0, hb, hkp⟩; refine ⟨_, rfl, ?_⟩; have n0_ := Aside0.mk (Kd.R_reok rfl hy0 (fun k_ e_ => HO_0.out.1 k_ e_)); have n1_ := Aside0.mk (Kept.then_ (S := (fun k_ => P0_ k_)) (mK HK.out) hkp (fun k_ hs_ => (fun e_ => (HO_0.out.1 k_ e_.symm)) hs_)); have n2_ := Aside0.mk (hb); clear HO_0 HK HB; have HO_0 := n0_; have HK := n1_; have HB := n2_; clear n0_ n1_ n2_ hb hkp hy0))
                 first | go_end0 | ((try simp only [Exit.inBlock, Exit.then]); refine bodyPost_ret (results_none rfl _ _ _) rfl ?_)
                 exact ⟨by first | rfl | (simp [errW_none, errW_some] <;> rfl) | (simp [*, errW_none, errW_some] <;> rfl), mR HO_0.out, by repeat (first | (with_reducible first | exact HB.out | apply below_alloc | apply pw_below_drewN | apply below_drew1) | exact HB.out), by repeat (first | (with_reducible first | exact HK.out | apply Kept.alloc | apply Kept.drewN | apply Kept.drew) | exact HK.out)⟩
               ·rw [if_neg c88] at H
                have c88b0 : decide (x18_59 < (wrap64 (x19_59 - x20_2))) = false := decide_eq_false c88
                clear c88
                obtain rfl := Option.some.inj H
                obtain ⟨Ao96, co96, eo96⟩ := Kd.R_slice HO_0.out
                subst eo96
                go_wp2_with (first | ((with_reducible refine gate_callee (f := 64) rfl ?_); refine goesL_ (some 205) rfl rfl Try.func64 (by kernel_rfl) rfl #[.slice Ao96 x0_78.length co96, .int .i64 a1, .int .i64 x20_2, .int .i64 x18_59, .func (.func fv_) #[] #[]] rfl mt ?_; (with_reducible refine (ih kj83 (by have := HJ59.out; have := HK2.out; have := HJ76.out; have := HJ78.out; have := HJ83.out; omega) (fun k_ => some k_ = (.slice Ao96 x0_78.length co96 : Value).ownBlock) (.slice Ao96 x0_78.length co96) x0_78 a1 x20_2 x18_59  t147 w0 _ ?side1 ?side2 A87.out).mono ?_); (case side1 => repeat (first | (with_reducible first | exact HB.out | apply below_alloc | apply pw_below_drewN | apply below_drew1) | exact HB.out)); (case side2 => exact Kd.R_tight rfl HO_0.out); rintro e w97 ⟨rfl, hy0, hb, hkp⟩; refine ⟨_, rfl, ?_⟩; have n0_ := Aside0.mk (Kd.R_reok rfl hy0 (fun k_ e_ => HO_0.out.1 k_ e_)); have n1_ := Aside0.mk (Kept.then_ (S := (fun k_ => P0_ k_)) (mK HK.out) hkp (fun k_ hs_ => (fun e_ => (HO_0.out.1 k_ e_.symm)) hs_)); have n2_ := Aside0.mk (hb); clear HO_0 HK HB; have HO_0 := n0_; have HK := n1_; have HB := n2_; clear n0_ n1_ n2_ hb hkp hy0))
                first | go_end0 | ((try simp only [Exit.inBlock, Exit.then]); refine bodyPost_ret (results_none rfl _ _ _) rfl ?_)
                exact ⟨by first | rfl | (simp [errW_none, errW_some] <;> rfl) | (simp [*, errW_none, errW_some] <;> rfl), mR HO_0.out, by repeat (first | (with_reducible first | exact HB.out | apply below_alloc | apply pw_below_drewN | apply below_drew1) | exact HB.out), by repeat (first | (with_reducible first | exact HK.out | apply Kept.alloc | apply Kept.drewN | apply Kept.drew) | exact HK.out)⟩
              ·replace c86 := Bool.eq_false_iff.mpr c86
               subst c86
               have H1 : (if x18_59 < (wrap64 (x19_59 - x20_2)) then (if (wrap64 (x19_59 - x20_2)) < a3 then ((slices_symMergeCmpFunc_Step__profile_tidy_1.f kj83 x0_78 x18_59 (wrap64 (x19_59 - x20_2)) a3).bind fun t149 => (some t149)) else (some x0_78)) else (some x0_78)) = some r := by rw [if_neg (show ¬ (false = true) by decide)] at H; exact H
               clear H
               have H := H1
               clear H1
               by_cases c98 : x18_59 < (wrap64 (x19_59 - x20_2))
               ·rw [if_pos c98] at H
                have c98b0 : decide (x18_59 < (wrap64 (x19_59 - x20_2))) = true := decide_eq_true c98
                clear c98
                by_cases c99 : (wrap64 (x19_59 - x20_2)) < a3
                ·rw [if_pos c99] at H
                 have c99b0 : decide ((wrap64 (x19_59 - x20_2)) < a3) = true := decide_eq_true c99
                 clear c99
                 replace H := Option.bind_eq_some_iff.mp H
                 obtain ⟨t149, A1000, H⟩ := H
                 replace H : (some t149) = some r := H
                 have A100 := Aside0.mk A1000
                 clear A1000
                 obtain rfl := Option.some.inj H
                 obtain ⟨Ao101, co101, eo101⟩ := Kd.R_slice HO_0.out
                 subst eo101
                 go_wp2_with (first | ((with_reducible refine gate_callee (f := 64) rfl ?_); refine goesL_ (some 219) rfl rfl Try.func64 (by kernel_rfl) rfl #[.slice Ao101 x0_78.length co101, .int .i64 x18_59, .int .i64 (wrap64 (x19_59 - x20_2)), .int .i64 a3, .func (.func fv_) #[] #[]] rfl mt ?_; (with_reducible refine (ih kj83 (by have := HJ59.out; have := HK2.out; have := HJ76.out; have := HJ78.out; have := HJ83.out; omega) (fun k_ => some k_ = (.slice Ao101 x0_78.length co101 : Value).ownBlock) (.slice Ao101 x0_78.length co101) x0_78 x18_59 (wrap64 (x19_59 - x20_2)) a3  t149 w0 _ ?side1 ?side2 A100.out).mono ?_); (case side1 => repeat (first | (with_reducible first | exact HB.out | apply below_alloc | apply pw_below_drewN | apply below_drew1) | exact HB.out)); (case side2 => exact Kd.R_tight rfl HO_0.out); rintro e w102 ⟨rfl, hy0, hb, hkp⟩; refine ⟨_, rfl, ?_⟩; have n0_ := Aside0.mk (Kd.R_reok rfl hy0 (fun k_ e_ => HO_0.out.1 k_ e_)); have n1_ := Aside0.mk (Kept.then_ (S := (fun k_ => P0_ k_)) (mK HK.out) hkp (fun k_ hs_ => (fun e_ => (HO_0.out.1 k_ e_.symm)) hs_)); have n2_ := Aside0.mk (hb); clear HO_0 HK HB; have HO_0 := n0_; have HK := n1_; have HB := n2_; clear n0_ n1_ n2_ hb hkp hy0))
                 first | go_end0 | ((try simp only [Exit.inBlock, Exit.then]); refine bodyPost_ret (results_none rfl _ _ _) rfl ?_)
                 exact ⟨by first | rfl | (simp [errW_none, errW_some] <;> rfl) | (simp [*, errW_none, errW_some] <;> rfl), mR HO_0.out, by repeat (first | (with_reducible first | exact HB.out | apply below_alloc | apply pw_below_drewN | apply below_drew1) | exact HB.out), by repeat (first | (with_reducible first | exact HK.out | apply Kept.alloc | apply Kept.drewN | apply Kept.drew) | exact HK.out)⟩
                ·rw [if_neg c99] at H
                 have c99b0 : decide ((wrap64 (x19_59 - x20_2)) < a3) = false := decide_eq_false c99
                 clear c99
                 obtain rfl := Option.some.inj H
                 go_wp2
                 first | go_end0 | ((try simp only [Exit.inBlock, Exit.then]); refine bodyPost_ret (results_none rfl _ _ _) rfl ?_)
                 exact ⟨by first | rfl | (simp [errW_none, errW_some] <;> rfl) | (simp [*, errW_none, errW_some] <;> rfl), mR HO_0.out, by repeat (first | (with_reducible first | exact HB.out | apply below_alloc | apply pw_below_drewN | apply below_drew1) | exact HB.out), by repeat (first | (with_reducible first | exact HK.out | apply Kept.alloc | apply Kept.drewN | apply Kept.drew) | exact HK.out)⟩
               ·rw [if_neg c98] at H
                have c98b0 : decide (x18_59 < (wrap64 (x19_59 - x20_2))) = false := decide_eq_false c98
                clear c98
                obtain rfl := Option.some.inj H
                go_wp2
                first | go_end0 | ((try simp only [Exit.inBlock, Exit.then]); refine bodyPost_ret (results_none rfl _ _ _) rfl ?_)
                exact ⟨by first | rfl | (simp [errW_none, errW_some] <;> rfl) | (simp [*, errW_none, errW_some] <;> rfl), mR HO_0.out, by repeat (first | (with_reducible first | exact HB.out | apply below_alloc | apply pw_below_drewN | apply below_drew1) | exact HB.out), by repeat (first | (with_reducible first | exact HK.out | apply Kept.alloc | apply Kept.drewN | apply Kept.drew) | exact HK.out)⟩

end Go.Proofs.Ytedpoahndddgfaa.PAll
end
section
namespace Go.Proofs.Ytedpoahndddgfaa.PAll
open Go.RowKit Go.Proofs.YtedpoahndddgfaaW.PrintWords Go.Proofs.YtedpoahndddgfaaW.PrintLast Go.Proofs.YtedpoahndddgfaaW.PrintMore
attribute [local go_sem] max2_int min2_int max_two min_two max_three min_three max_four min_four   -- for this text's walks alone
set_option linter.unusedVariables false
set_option linter.unusedSimpArgs false

/-! ### slices_stableCmpFunc_Step__profile_tidy_1: function 59 -/
mutual
def slices_stableCmpFunc_Step__profile_tidy_1.l0 : Nat → List (S40) → Int → Int → Int → Int → Option ((List (S40)))
 | 0, _, _, _, _, _ => none
 | k + 1, x0, x1, x6, x7, x8 => if x8 ≤ x1 then ((slices_insertionSortCmpFunc_Step__profile_tidy_1.f k x0 x7 x8).bind fun t150 => (slices_stableCmpFunc_Step__profile_tidy_1.l0 k t150 x1 x6 x8 (wrap64 (x8 + x6)))) else ((slices_insertionSortCmpFunc_Step__profile_tidy_1.f k x0 x7 x1).bind fun t151 => (slices_stableCmpFunc_Step__profile_tidy_1.l1 k t151 x1 x6))
def slices_stableCmpFunc_Step__profile_tidy_1.l1 : Nat → List (S40) → Int → Int → Option ((List (S40)))
 | 0, _, _, _ => none
 | k + 1, x0, x1, x6 => if x6 < x1 then (slices_stableCmpFunc_Step__profile_tidy_1.l2 k x0 x1 x6 0 (wrap64 (2 * x6))) else (some x0)
def slices_stableCmpFunc_Step__profile_tidy_1.l2 : Nat → List (S40) → Int → Int → Int → Int → Option ((List (S40)))
 | 0, _, _, _, _, _ => none
 | k + 1, x0, x1, x6, x7, x8 => if x8 ≤ x1 then ((slices_symMergeCmpFunc_Step__profile_tidy_1.f k x0 x7 (wrap64 (x7 + x6)) x8).bind fun t152 => (slices_stableCmpFunc_Step__profile_tidy_1.l2 k t152 x1 x6 x8 (wrap64 (x8 + (wrap64 (2 * x6)))))) else (if (wrap64 (x7 + x6)) < x1 then ((slices_symMergeCmpFunc_Step__profile_tidy_1.f k x0 x7 (wrap64 (x7 + x6)) x1).bind fun t153 => (slices_stableCmpFunc_Step__profile_tidy_1.l1 k t153 x1 (wrap64 (x6 * 2)))) else (slices_stableCmpFunc_Step__profile_tidy_1.l1 k x0 x1 (wrap64 (x6 * 2))))
end
def slices_stableCmpFunc_Step__profile_tidy_1.f (k : Nat) (l0 : List (S40)) (a1 : Int)  : Option ((List (S40))) := slices_stableCmpFunc_Step__profile_tidy_1.l0 k l0 a1 20 0 20
theorem slices_stableCmpFunc_Step__profile_tidy_1.mono_l : ∀ k, (∀ y0 y1 y2 y3 y4, LeO (slices_stableCmpFunc_Step__profile_tidy_1.l0 k y0 y1 y2 y3 y4) (slices_stableCmpFunc_Step__profile_tidy_1.l0 (k + 1) y0 y1 y2 y3 y4)) ∧ (∀ y0 y1 y2, LeO (slices_stableCmpFunc_Step__profile_tidy_1.l1 k y0 y1 y2) (slices_stableCmpFunc_Step__profile_tidy_1.l1 (k + 1) y0 y1 y2)) ∧ (∀ y0 y1 y2 y3 y4, LeO (slices_stableCmpFunc_Step__profile_tidy_1.l2 k y0 y1 y2 y3 y4) (slices_stableCmpFunc_Step__profile_tidy_1.l2 (k + 1) y0 y1 y2 y3 y4))
 | 0 => ⟨fun _ _ _ _ _ r h => by simp [slices_stableCmpFunc_Step__profile_tidy_1.l0] at h, fun _ _ _ r h => by simp [slices_stableCmpFunc_Step__profile_tidy_1.l1] at h, fun _ _ _ _ _ r h => by simp [slices_stableCmpFunc_Step__profile_tidy_1.l2] at h⟩
 | k + 1 => by
  obtain ⟨ih0, ih1, ih2⟩ := slices_stableCmpFunc_Step__profile_tidy_1.mono_l k
  refine ⟨?_, ?_, ?_⟩
  ·intro y0 y1 y2 y3 y4
   unfold slices_stableCmpFunc_Step__profile_tidy_1.l0
   repeat' first
   | (with_reducible exact ih0 _ _ _ _ _)
   | (with_reducible exact ih1 _ _ _)
   | (with_reducible exact ih2 _ _ _ _ _)
   | (with_reducible exact slices_insertionSortCmpFunc_Step__profile_tidy_1.mono _ _ _ _)
   | (with_reducible exact slices_symMergeCmpFunc_Step__profile_tidy_1.mono _ _ _ _ _)
   | (with_reducible exact LeO.refl _)
   | (with_reducible exact LeO.none _)
   | (with_reducible refine LeO.ite ?_ ?_)
   | (with_reducible refine LeO.bind ?_ (fun _ => ?_))
   | exact ih0 _ _ _ _ _
   | exact ih1 _ _ _
   | exact ih2 _ _ _ _ _
   | exact slices_insertionSortCmpFunc_Step__profile_tidy_1.mono _ _ _ _
   | exact slices_symMergeCmpFunc_Step__profile_tidy_1.mono _ _ _ _ _
   | exact LeO.none _
   | refine LeO.ite ?_ ?_
   | refine LeO.bind ?_ (fun _ => ?_)
  ·intro y0 y1 y2
   unfold slices_stableCmpFunc_Step__profile_tidy_1.l1
   repeat' first
   | (with_reducible exact ih0 _ _ _ _ _)
   | (with_reducible exact ih1 _ _ _)
   | (with_reducible exact ih2 _ _ _ _ _)
   | (with_reducible exact slices_insertionSortCmpFunc_Step__profile_tidy_1.mono _ _ _ _)
   | (with_reducible exact slices_symMergeCmpFunc_Step__profile_tidy_1.mono _ _ _ _ _)
   | (with_reducible exact LeO.refl _)
   | (with_reducible exact LeO.none _)
   | (with_reducible refine LeO.ite ?_ ?_)
   | (with_reducible refine LeO.bind ?_ (fun _ => ?_))
   | exact ih0 _ _ _ _ _
   | exact ih1 _ _ _
   | exact ih2 _ _ _ _ _
   | exact slices_insertionSortCmpFunc_Step__profile_tidy_1.mono _ _ _ _
   | exact slices_symMergeCmpFunc_Step__profile_tidy_1.mono _ _ _ _ _
   | exact LeO.none _
   | refine LeO.ite ?_ ?_
   | refine LeO.bind ?_ (fun _ => ?_)
  ·intro y0 y1 y2 y3 y4
   unfold slices_stableCmpFunc_Step__profile_tidy_1.l2
   repeat' first
   | (with_reducible exact ih0 _ _ _ _ _)
   | (with_reducible exact ih1 _ _ _)
   | (with_reducible exact ih2 _ _ _ _ _)
   | (with_reducible exact slices_insertionSortCmpFunc_Step__profile_tidy_1.mono _ _ _ _)
   | (with_reducible exact slices_symMergeCmpFunc_Step__profile_tidy_1.mono _ _ _ _ _)
   | (with_reducible exact LeO.refl _)
   | (with_reducible exact LeO.none _)
   | (with_reducible refine LeO.ite ?_ ?_)
   | (with_reducible refine LeO.bind ?_ (fun _ => ?_))
   | exact ih0 _ _ _ _ _
   | exact ih1 _ _ _
   | exact ih2 _ _ _ _ _
   | exact slices_insertionSortCmpFunc_Step__profile_tidy_1.mono _ _ _ _
   | exact slices_symMergeCmpFunc_Step__profile_tidy_1.mono _ _ _ _ _
   | exact LeO.none _
   | refine LeO.ite ?_ ?_
   | refine LeO.bind ?_ (fun _ => ?_)
theorem slices_stableCmpFunc_Step__profile_tidy_1.mono : ∀ a0 a1 k, LeO (slices_stableCmpFunc_Step__profile_tidy_1.f k a0 a1) (slices_stableCmpFunc_Step__profile_tidy_1.f (k + 1) a0 a1) := by
 intro a0 a1 k
 obtain ⟨ih0, ih1, ih2⟩ := slices_stableCmpFunc_Step__profile_tidy_1.mono_l k
 unfold slices_stableCmpFunc_Step__profile_tidy_1.f
 repeat' first
   | (with_reducible exact ih0 _ _ _ _ _)
   | (with_reducible exact ih1 _ _ _)
   | (with_reducible exact ih2 _ _ _ _ _)
   | (with_reducible exact slices_insertionSortCmpFunc_Step__profile_tidy_1.mono _ _ _ _)
   | (with_reducible exact slices_symMergeCmpFunc_Step__profile_tidy_1.mono _ _ _ _ _)
   | (with_reducible exact LeO.refl _)
   | (with_reducible exact LeO.none _)
   | (with_reducible refine LeO.ite ?_ ?_)
   | (with_reducible refine LeO.bind ?_ (fun _ => ?_))
   | exact ih0 _ _ _ _ _
   | exact ih1 _ _ _
   | exact ih2 _ _ _ _ _
   | exact slices_insertionSortCmpFunc_Step__profile_tidy_1.mono _ _ _ _
   | exact slices_symMergeCmpFunc_Step__profile_tidy_1.mono _ _ _ _ _
   | exact LeO.none _
   | refine LeO.ite ?_ ?_
   | refine LeO.bind ?_ (fun _ => ?_)
set_option maxHeartbeats 8000000 in
set_option maxRecDepth 100000 in
theorem slices_stableCmpFunc_Step__profile_tidy_1.calls {fv_ : Nat} {fn_ : Func} (C_ : Cmp40 fv_ fn_) (k : Nat) (P0_ : Nat → Prop) (u9000_ : Value) (l0 : List (S40)) (a1 : Int)  (r : List (S40)) (w0 w : World) (hB : Below w0.heap.size w0 w) (ho0 : Kd.R k40 40 w w0.heap.size P0_ u9000_ l0) (h : slices_stableCmpFunc_Step__profile_tidy_1.f k l0 a1 = some r) :
  Calls Try.prog 59 #[u9000_, .int .i64 a1, .func (.func fv_) #[] #[]] w fun e w' => e = .returned (.tuple #[]) ∧ Kd.R k40 40 w' w0.heap.size (fun k_ => (P0_ k_ ∨ w.heap.size ≤ k_)) u9000_ r ∧ Below w0.heap.size w0 w' ∧ Kept w w' (fun k_ => P0_ k_) := by
 have HO0 := Aside0.mk (show Kd.R k40 40 w w0.heap.size (fun k_ => (P0_ k_ ∨ w.heap.size ≤ k_)) u9000_ l0 from Kd.R_mono ho0 (fun k_ hk => (.inl hk)))
 have HK := Aside0.mk (Kept.refl w (fun k_ => P0_ k_))
 have HW0 := Aside0.mk hB.size
 have HB := Aside0.mk hB
 clear hB
 have H : (slices_stableCmpFunc_Step__profile_tidy_1.l0 k l0 a1 20 0 20) = some r := h
 clear h
 have H' := Aside0.mk H
 clear H
 go_enter Try.func59, Try.ntmps59
 go_wp2
 go_loopg [7, 8] k (fun kq v7 v8 w' => ∃ (x0_1 : List (S40)) (x7_1 : Int) (x8_1 : Int), v7 = .int .i64 x7_1 ∧ v8 = .int .i64 x8_1 ∧ Aside0 (slices_stableCmpFunc_Step__profile_tidy_1.l0 kq x0_1 a1 20 x7_1 x8_1 = some r) ∧ Aside0 (kq ≤ k) ∧ Aside0 (Kd.R k40 40 w' w0.heap.size (fun k_ => (P0_ k_ ∨ w.heap.size ≤ k_)) u9000_ x0_1) ∧ Aside0 (Kept w w' (fun k_ => P0_ k_)) ∧ Aside0 (Below w0.heap.size w0 w'))
 case atStart => exact ⟨(l0), (0), (20), ez, ez, H', ⟨Nat.le_refl _⟩, ⟨mR HO0.out⟩, ⟨mK HK.out⟩, ⟨mB HB.out⟩⟩
 case round =>
  clear H'
  (try clear p2)
  obtain ⟨x0_1, x7_1, x8_1, rfl, rfl, HA, HK1, HO_0, HK, HB⟩ := hrel
  cases gk with
  | zero => exact absurd HA.out (by simp [slices_stableCmpFunc_Step__profile_tidy_1.l0])
  | succ k1 =>
   have H := HA.out
   clear HA
   simp only [slices_stableCmpFunc_Step__profile_tidy_1.l0] at H
   by_cases c4 : x8_1 ≤ a1
   ·rw [if_pos c4] at H
    have c4b0 : decide (x8_1 ≤ a1) = true := decide_eq_true c4
    clear c4
    replace H := Option.bind_eq_some_iff.mp H
    obtain ⟨t150, A50, H⟩ := H
    replace H : (slices_stableCmpFunc_Step__profile_tidy_1.l0 k1 t150 a1 20 x8_1 (wrap64 (x8_1 + 20))) = some r := H
    have A5 := Aside0.mk A50
    clear A50
    have H' := Aside0.mk H
    clear H
    obtain ⟨Ao6, co6, eo6⟩ := Kd.R_slice HO_0.out
    subst eo6
    go_wp2_with (first | ((with_reducible refine gate_callee (f := 63) rfl ?_); refine goesL_ (some 18) rfl rfl Try.func63 (by kernel_rfl) rfl #[.slice Ao6 x0_1.length co6, .int .i64 x7_1, .int .i64 x8_1, .func (.func fv_) #[] #[]] rfl mt ?_; (with_reducible refine (slices_insertionSortCmpFunc_Step__profile_tidy_1.calls C_ k1 (fun k_ => some k_ = (.slice Ao6 x0_1.length co6 : Value).ownBlock) (.slice Ao6 x0_1.length co6) x0_1 x7_1 x8_1  t150 w0 _ ?side1 ?side2 A5.out).mono ?_); (case side1 => repeat (first | (with_reducible first | exact HB.out | apply below_alloc | apply pw_below_drewN | apply below_drew1) | exact HB.out)); (case side2 => exact Kd.R_tight rfl HO_0.out); rintro e w7 ⟨rfl, hy0, hb, hkp⟩; refine ⟨_, rfl, ?_⟩; have n0_ := Aside0.mk (Kd.R_reok rfl hy0 (fun k_ e_ => HO_0.out.1 k_ e_)); have n1_ := Aside0.mk (Kept.then_ (S := (fun k_ => P0_ k_)) (mK HK.out) hkp (fun k_ hs_ => (fun e_ => (HO_0.out.1 k_ e_.symm)) hs_)); have n2_ := Aside0.mk (hb); clear HO_0; clear HK; clear HB; have HO_0 := n0_; have HK := n1_; have HB := n2_; clear n0_ n1_ n2_; (try clear hb); (try clear hkp); (try clear hy0)))
    go_roundg k1
    case measure => have := HK1.out; omega
    case rel => exact ⟨(t150), (x8_1), (wrap64 (x8_1 + 20)), ez, ez, H', ⟨by have := HK1.out; omega⟩, ⟨mR HO_0.out⟩, ⟨mK HK.out⟩, ⟨mB HB.out⟩⟩
   ·rw [if_neg c4] at H
    have c4b0 : decide (x8_1 ≤ a1) = false := decide_eq_false c4
    clear c4
    replace H := Option.bind_eq_some_iff.mp H
    obtain ⟨t151, A80, H⟩ := H
    replace H : (slices_stableCmpFunc_Step__profile_tidy_1.l1 k1 t151 a1 20) = some r := H
    have A8 := Aside0.mk A80
    clear A80
    have H' := Aside0.mk H
    clear H
    obtain ⟨Ao9, co9, eo9⟩ := Kd.R_slice HO_0.out
    subst eo9
    go_wp2_with (first | ((with_reducible refine gate_callee (f := 63) rfl ?_); refine goesL_ (some 27) rfl rfl Try.func63 (by kernel_rfl) rfl #[.slice Ao9 x0_1.length co9, .int .i64 x7_1, .int .i64 a1, .func (.func fv_) #[] #[]] rfl mt ?_; (with_reducible refine (slices_insertionSortCmpFunc_Step__profile_tidy_1.calls C_ k1 (fun k_ => some k_ = (.slice Ao9 x0_1.length co9 : Value).ownBlock) (.slice Ao9 x0_1.length co9) x0_1 x7_1 a1  t151 w0 _ ?side1 ?side2 A8.out).mono ?_); (case side1 => repeat (first | (with_reducible first | exact HB.out | apply below_alloc | apply pw_below_drewN | apply below_drew1) | exact HB.out)); (case side2 => exact Kd.R_tight rfl HO_0.out); rintro e w10 ⟨rfl, hy0, hb, hkp⟩; refine ⟨_, rfl, ?_⟩; have n0_ := Aside0.mk (Kd.R_reok rfl hy0 (fun k_ e_ => HO_0.out.1 k_ e_)); have n1_ := Aside0.mk (Kept.then_ (S := (fun k_ => P0_ k_)) (mK HK.out) hkp (fun k_ hs_ => (fun e_ => (HO_0.out.1 k_ e_.symm)) hs_)); have n2_ := Aside0.mk (hb); clear HO_0; clear HK; clear HB; have HO_0 := n0_; have HK := n1_; have HB := n2_; clear n0_ n1_ n2_; (try clear hb); (try clear hkp); (try clear hy0)))
    simp only [Act.put, List.setIfInBounds_toArray, List.set_cons_zero, List.set_cons_succ]
    go_loopg [6] k1 (fun kq v6 w' => ∃ (x0_2 : List (S40)) (x6_2 : Int), v6 = .int .i64 x6_2 ∧ Aside0 (slices_stableCmpFunc_Step__profile_tidy_1.l1 kq x0_2 a1 x6_2 = some r) ∧ Aside0 (kq ≤ k1) ∧ Aside0 (Kd.R k40 40 w' w0.heap.size (fun k_ => (P0_ k_ ∨ w.heap.size ≤ k_)) (.slice Ao9 x0_1.length co9) x0_2) ∧ Aside0 (Kept w w' (fun k_ => P0_ k_)) ∧ Aside0 (Below w0.heap.size w0 w'))
    case atStart => exact ⟨(t151), (20), ez, H', ⟨Nat.le_refl _⟩, ⟨mR HO_0.out⟩, ⟨mK HK.out⟩, ⟨mB HB.out⟩⟩
    case round =>
     clear H'
     (try clear p2); (try clear c4); (try clear c4b0); (try clear p6); (try clear c7); (try clear p2)
     obtain ⟨x0_2, x6_2, rfl, HA, HK2, HO_0, HK, HB⟩ := hrel
     have hl0_2 := (Kd.R_reads' HO_0.out).1
     rw [hl0_2] at HO_0
     (try simp only [hl0_2])
     cases gk with
     | zero => exact absurd HA.out (by simp [slices_stableCmpFunc_Step__profile_tidy_1.l1])
     | succ k2 =>
      have H := HA.out
      clear HA
      simp only [slices_stableCmpFunc_Step__profile_tidy_1.l1] at H
      by_cases c11 : x6_2 < a1
      ·rw [if_pos c11] at H
       have c11b0 : decide (x6_2 < a1) = true := decide_eq_true c11
       clear c11
       have H' := Aside0.mk H
       clear H
       go_wp2
       go_loopg [7, 8] k2 (fun kq v7 v8 w' => ∃ (x0_3 : List (S40)) (x7_3 : Int) (x8_3 : Int), v7 = .int .i64 x7_3 ∧ v8 = .int .i64 x8_3 ∧ Aside0 (slices_stableCmpFunc_Step__profile_tidy_1.l2 kq x0_3 a1 x6_2 x7_3 x8_3 = some r) ∧ Aside0 (kq ≤ k2) ∧ Aside0 (Kd.R k40 40 w' w0.heap.size (fun k_ => (P0_ k_ ∨ w.heap.size ≤ k_)) (.slice Ao9 x0_2.length co9) x0_3) ∧ Aside0 (Kept w w' (fun k_ => P0_ k_)) ∧ Aside0 (Below w0.heap.size w0 w'))
       case atStart => exact ⟨(x0_2), (0), (wrap64 (2 * x6_2)), ez, ez, H', ⟨Nat.le_refl _⟩, ⟨by (try simp only [hl0_2]); (with_reducible repeat (first | apply Kd.R_alloc | apply Kd.R_drewN | apply Kd.R_drew)); exact HO_0.out⟩, ⟨mK HK.out⟩, ⟨mB HB.out⟩⟩
       case round =>
        clear H'
        (try clear c1); (try clear p2); (try clear c4); (try clear c4b0); (try clear p6); (try clear c7); (try clear c11); (try clear c11b0); (try clear p2); (try clear p6)
        obtain ⟨x0_3, x7_3, x8_3, rfl, rfl, HA, HK3, HO_0, HK, HB⟩ := hrel
        have hl0_3 := (Kd.R_reads' HO_0.out).1
        rw [hl0_3] at HO_0
        (try simp only [hl0_3])
        cases gk with
        | zero => exact absurd HA.out (by simp [slices_stableCmpFunc_Step__profile_tidy_1.l2])
        | succ k3 =>
         have H := HA.out
         clear HA
         simp only [slices_stableCmpFunc_Step__profile_tidy_1.l2] at H
         by_cases c12 : x8_3 ≤ a1
         ·rw [if_pos c12] at H
          have c12b0 : decide (x8_3 ≤ a1) = true := decide_eq_true c12
          clear c12
          replace H := Option.bind_eq_some_iff.mp H
          obtain ⟨t152, A130, H⟩ := H
          replace H : (slices_stableCmpFunc_Step__profile_tidy_1.l2 k3 t152 a1 x6_2 x8_3 (wrap64 (x8_3 + (wrap64 (2 * x6_2))))) = some r := H
          have A13 := Aside0.mk A130
          clear A130
          have H' := Aside0.mk H
          clear H
          go_wp2_with (first | ((with_reducible refine gate_callee (f := 64) rfl ?_); refine goesL_ (some 43) rfl rfl Try.func64 (by kernel_rfl) rfl #[.slice Ao9 x0_3.length co9, .int .i64 x7_3, .int .i64 (wrap64 (x7_3 + x6_2)), .int .i64 x8_3, .func (.func fv_) #[] #[]] rfl mt ?_; (with_reducible refine (slices_symMergeCmpFunc_Step__profile_tidy_1.calls C_ k3 (fun k_ => some k_ = (.slice Ao9 x0_3.length co9 : Value).ownBlock) (.slice Ao9 x0_3.length co9) x0_3 x7_3 (wrap64 (x7_3 + x6_2)) x8_3  t152 w0 _ ?side1 ?side2 A13.out).mono ?_); (case side1 => repeat (first | (with_reducible first | exact HB.out | apply below_alloc | apply pw_below_drewN | apply below_drew1) | exact HB.out)); (case side2 => exact Kd.R_tight rfl HO_0.out); rintro e w14 ⟨rfl, hy0, hb, hkp⟩; refine ⟨_, rfl, ?_⟩; have n0_ := Aside0.mk (Kd.R_reok rfl hy0 (fun k_ e_ => HO_0.out.1 k_ e_)); have n1_ := Aside0.mk (Kept.then_ (S := (fun k_ => P0_ k_)) (mK HK.out) hkp (fun k_ hs_ => (fun e_ => (HO_0.out.1 k_ e_.symm)) hs_)); have n2_ := Aside0.mk (hb); clear HO_0; clear HK; clear HB; have HO_0 := n0_; have HK := n1_; have HB := n2_; clear n0_ n1_ n2_; (try clear hb); (try clear hkp); (try clear hy0)))
          (try simp only [← hl0_3])
          go_roundg k3
          case measure => have := HK1.out; have := HK2.out; have := HK3.out; omega
          case rel => exact ⟨(t152), (x8_3), (wrap64 (x8_3 + (wrap64 (2 * x6_2)))), ez, ez, H', ⟨by have := HK1.out; have := HK2.out; have := HK3.out; omega⟩, ⟨by (try simp only [hl0_2]); (try simp only [hl0_3]); (with_reducible repeat (first | apply Kd.R_alloc | apply Kd.R_drewN | apply Kd.R_drew)); exact HO_0.out⟩, ⟨mK HK.out⟩, ⟨mB HB.out⟩⟩
         ·rw [if_neg c12] at H
          have c12b0 : decide (x8_3 ≤ a1) = false := decide_eq_false c12
          clear c12
          by_cases c15 : (wrap64 (x7_3 + x6_2)) < a1
          ·rw [if_pos c15] at H
           have c15b0 : decide ((wrap64 (x7_3 + x6_2)) < a1) = true := decide_eq_true c15
           clear c15
           replace H := Option.bind_eq_some_iff.mp H
           obtain ⟨t153, A160, H⟩ := H
           replace H : (slices_stableCmpFunc_Step__profile_tidy_1.l1 k3 t153 a1 (wrap64 (x6_2 * 2))) = some r := H
           have A16 := Aside0.mk A160
           clear A160
           have H' := Aside0.mk H
           clear H
           go_wp2_with (first | ((with_reducible refine gate_callee (f := 64) rfl ?_); refine goesL_ (some 60) rfl rfl Try.func64 (by kernel_rfl) rfl #[.slice Ao9 x0_3.length co9, .int .i64 x7_3, .int .i64 (wrap64 (x7_3 + x6_2)), .int .i64 a1, .func (.func fv_) #[] #[]] rfl mt ?_; (with_reducible refine (slices_symMergeCmpFunc_Step__profile_tidy_1.calls C_ k3 (fun k_ => some k_ = (.slice Ao9 x0_3.length co9 : Value).ownBlock) (.slice Ao9 x0_3.length co9) x0_3 x7_3 (wrap64 (x7_3 + x6_2)) a1  t153 w0 _ ?side1 ?side2 A16.out).mono ?_); (case side1 => repeat (first | (with_reducible first | exact HB.out | apply below_alloc | apply pw_below_drewN | apply below_drew1) | exact HB.out)); (case side2 => exact Kd.R_tight rfl HO_0.out); rintro e w17 ⟨rfl, hy0, hb, hkp⟩; refine ⟨_, rfl, ?_⟩; have n0_ := Aside0.mk (Kd.R_reok rfl hy0 (fun k_ e_ => HO_0.out.1 k_ e_)); have n1_ := Aside0.mk (Kept.then_ (S := (fun k_ => P0_ k_)) (mK HK.out) hkp (fun k_ hs_ => (fun e_ => (HO_0.out.1 k_ e_.symm)) hs_)); have n2_ := Aside0.mk (hb); clear HO_0; clear HK; clear HB; have HO_0 := n0_; have HK := n1_; have HB := n2_; clear n0_ n1_ n2_; (try clear hb); (try clear hkp); (try clear hy0)))
           (try simp only [← hl0_2, ← hl0_3])
           go_roundg k3
           case measure => have := HK1.out; have := HK2.out; have := HK3.out; omega
           case rel => exact ⟨(t153), (wrap64 (x6_2 * 2)), ez, H', ⟨by have := HK1.out; have := HK2.out; have := HK3.out; omega⟩, ⟨by (try simp only [hl0_2]); (try simp only [hl0_3]); (with_reducible repeat (first | apply Kd.R_alloc | apply Kd.R_drewN | apply Kd.R_drew)); exact HO_0.out⟩, ⟨mK HK.out⟩, ⟨mB HB.out⟩⟩
          ·rw [if_neg c15] at H
           have c15b0 : decide ((wrap64 (x7_3 + x6_2)) < a1) = false := decide_eq_false c15
           clear c15
           have H' := Aside0.mk H
           clear H
           go_wp2
           (try simp only [← hl0_2, ← hl0_3])
           go_roundg k3
           case measure => have := HK1.out; have := HK2.out; have := HK3.out; omega
           case rel => exact ⟨(x0_3), (wrap64 (x6_2 * 2)), ez, H', ⟨by have := HK1.out; have := HK2.out; have := HK3.out; omega⟩, ⟨by (try simp only [hl0_2]); (try simp only [hl0_3]); (with_reducible repeat (first | apply Kd.R_alloc | apply Kd.R_drewN | apply Kd.R_drew)); exact HO_0.out⟩, ⟨mK HK.out⟩, ⟨mB HB.out⟩⟩
      ·rw [if_neg c11] at H
       have c11b0 : decide (x6_2 < a1) = false := decide_eq_false c11
       clear c11
       obtain rfl := Option.some.inj H
       go_wp2
       first | go_end0 | ((try simp only [Exit.inBlock, Exit.then]); refine bodyPost_ret (results_none rfl _ _ _) rfl ?_)
       exact ⟨by first | rfl | (simp [errW_none, errW_some] <;> rfl) | (simp [*, errW_none, errW_some] <;> rfl), (by first | exact (mR HO_0.out) | (simp only [hl0_2]; exact (mR HO_0.out))), by repeat (first | (with_reducible first | exact HB.out | apply below_alloc | apply pw_below_drewN | apply below_drew1) | exact HB.out), by repeat (first | (with_reducible first | exact HK.out | apply Kept.alloc | apply Kept.drewN | apply Kept.drew) | exact HK.out)⟩

end Go.Proofs.Ytedpoahndddgfaa.PAll
end
section
namespace Go.Proofs.Ytedpoahndddgfaa.PAll
open Go.RowKit Go.Proofs.YtedpoahndddgfaaW.PrintWords Go.Proofs.YtedpoahndddgfaaW.PrintLast Go.Proofs.YtedpoahndddgfaaW.PrintMore
attribute [local go_sem] max2_int min2_int max_two min_two max_three min_three max_four min_four   -- for this text's walks alone
set_option linter.unusedVariables false
set_option linter.unusedSimpArgs false

/-! ### slices_SortStableFunc_Step__profile_tidy_1: function 48 -/
def slices_SortStableFunc_Step__profile_tidy_1.f (k : Nat) (l0 : List (S40))  : Option ((List (S40))) := (slices_stableCmpFunc_Step__profile_tidy_1.f k l0 (l0.length : Int)).bind fun t154 => (some t154)
theorem slices_SortStableFunc_Step__profile_tidy_1.mono : ∀ a0 k, LeO (slices_SortStableFunc_Step__profile_tidy_1.f k a0) (slices_SortStableFunc_Step__profile_tidy_1.f (k + 1) a0) := by
 intro a0 k
 unfold slices_SortStableFunc_Step__profile_tidy_1.f
 repeat' first
   | (with_reducible exact slices_stableCmpFunc_Step__profile_tidy_1.mono _ _ _)
   | (with_reducible exact LeO.refl _)
   | (with_reducible exact LeO.none _)
   | (with_reducible refine LeO.ite ?_ ?_)
   | (with_reducible refine LeO.bind ?_ (fun _ => ?_))
   | exact slices_stableCmpFunc_Step__profile_tidy_1.mono _ _ _
   | exact LeO.none _
   | refine LeO.ite ?_ ?_
   | refine LeO.bind ?_ (fun _ => ?_)
set_option maxHeartbeats 8000000 in
set_option maxRecDepth 100000 in
theorem slices_SortStableFunc_Step__profile_tidy_1.calls {fv_ : Nat} {fn_ : Func} (C_ : Cmp40 fv_ fn_) (k : Nat) (P0_ : Nat → Prop) (u9000_ : Value) (l0 : List (S40))  (r : List (S40)) (w0 w : World) (hB : Below w0.heap.size w0 w) (ho0 : Kd.R k40 40 w w0.heap.size P0_ u9000_ l0) (h : slices_SortStableFunc_Step__profile_tidy_1.f k l0 = some r) :
  Calls Try.prog 48 #[u9000_, .func (.func fv_) #[] #[]] w fun e w' => e = .returned (.tuple #[]) ∧ Kd.R k40 40 w' w0.heap.size (fun k_ => (P0_ k_ ∨ w.heap.size ≤ k_)) u9000_ r ∧ Below w0.heap.size w0 w' ∧ Kept w w' (fun k_ => P0_ k_) := by
 have HO0 := Aside0.mk (show Kd.R k40 40 w w0.heap.size (fun k_ => (P0_ k_ ∨ w.heap.size ≤ k_)) u9000_ l0 from Kd.R_mono ho0 (fun k_ hk => (.inl hk)))
 have HK := Aside0.mk (Kept.refl w (fun k_ => P0_ k_))
 have HW0 := Aside0.mk hB.size
 have HB := Aside0.mk hB
 clear hB
 have H : ((slices_stableCmpFunc_Step__profile_tidy_1.f k l0 (l0.length : Int)).bind fun t154 => (some t154)) = some r := h
 clear h
 replace H := Option.bind_eq_some_iff.mp H
 obtain ⟨t154, A30, H⟩ := H
 replace H : (some t154) = some r := H
 have A3 := Aside0.mk A30
 clear A30
 obtain rfl := Option.some.inj H
 obtain ⟨Ao4, co4, eo4⟩ := Kd.R_slice HO0.out
 subst eo4
 go_enter Try.func48, Try.ntmps48
 go_wp2_with (first | ((with_reducible refine gate_callee (f := 59) rfl ?_); refine goesL_ (some 8) rfl rfl Try.func59 (by kernel_rfl) rfl #[.slice Ao4 l0.length co4, .int .i64 (l0.length : Int), .func (.func fv_) #[] #[]] rfl mt ?_; (with_reducible refine (slices_stableCmpFunc_Step__profile_tidy_1.calls C_ k (fun k_ => some k_ = (.slice Ao4 l0.length co4 : Value).ownBlock) (.slice Ao4 l0.length co4) l0 (l0.length : Int)  t154 w0 _ ?side1 ?side2 A3.out).mono ?_); (case side1 => repeat (first | (with_reducible first | exact HB.out | apply below_alloc | apply pw_below_drewN | apply below_drew1) | exact HB.out)); (case side2 => exact Kd.R_tight rfl HO0.out); rintro e w5 ⟨rfl, hy0, hb, hkp⟩; refine ⟨_, rfl, ?_⟩; have n0_ := Aside0.mk (Kd.R_reok rfl hy0 (fun k_ e_ => HO0.out.1 k_ e_)); have n1_ := Aside0.mk (Kept.then_ (S := (fun k_ => P0_ k_)) (mK HK.out) hkp (fun k_ hs_ => (fun e_ => (HO0.out.1 k_ e_.symm)) hs_)); have n2_ := Aside0.mk (hb); clear HO0; clear HK; clear HB; have HO0 := n0_; have HK := n1_; have HB := n2_; clear n0_ n1_ n2_; (try clear hb); (try clear hkp); (try clear hy0)))
 first | go_end0 | ((try simp only [Exit.inBlock, Exit.then]); refine bodyPost_ret (results_none rfl _ _ _) rfl ?_)
 exact ⟨by first | rfl | (simp [errW_none, errW_some] <;> rfl) | (simp [*, errW_none, errW_some] <;> rfl), mR HO0.out, by repeat (first | (with_reducible first | exact HB.out | apply below_alloc | apply pw_below_drewN | apply below_drew1) | exact HB.out), by repeat (first | (with_reducible first | exact HK.out | apply Kept.alloc | apply Kept.drewN | apply Kept.drew) | exact HK.out)⟩

end Go.Proofs.Ytedpoahndddgfaa.PAll
end
section
namespace Go.Proofs.Ytedpoahndddgfaa.PAll
open Go.RowKit Go.Proofs.YtedpoahndddgfaaW.PrintWords Go.Proofs.YtedpoahndddgfaaW.PrintLast Go.Proofs.YtedpoahndddgfaaW.PrintMore
attribute [local go_sem] max2_int min2_int max_two min_two max_three min_three max_four min_four   -- for this text's walks alone
set_option linter.unusedVariables false
set_option linter.unusedSimpArgs false

/-! ### profile_tidy: function 43 -/
def profile_tidy.l0 : Nat → List (S40) → List (S40) → List (S40) → Int → Int → Option ((List (S40)) × (List (S40)))
 | 0, _, _, _, _, _ => none
 | k + 1, x0, x3, x8, x9, x10 => if x10 < x9 then (if 0 ≤ x10 then (if x10 < (x8.length : Int) then (if (wrap64 (x10 + 1)) < (x0.length : Int) then (if 0 ≤ (wrap64 (x10 + 1)) then (if ((rd_T40 x0 (wrap64 (x10 + 1))).f0) = ((rd_T40 x8 x10).f0) then (profile_tidy.l0 k x0 x3 x8 x9 (wrap64 (x10 + 1))) else (if (x3.length : Int) > 0 then (if 0 ≤ (wrap64 ((x3.length : Int) - 1)) then (if (wrap64 ((x3.length : Int) - 1)) < (x3.length : Int) then (if ((rd_T40 x3 (wrap64 ((x3.length : Int) - 1))).f1) = ((rd_T40 x8 x10).f1) then (profile_tidy.l0 k x0 x3 x8 x9 (wrap64 (x10 + 1))) else (if x3.length < 8796093022208 then (profile_tidy.l0 k x0 (x3 ++ [(⟨(rd_T40 x8 x10).f0, (rd_T40 x8 x10).f1⟩ : S40)]) x8 x9 (wrap64 (x10 + 1))) else (none))) else (none)) else (none)) else (if x3.length < 8796093022208 then (profile_tidy.l0 k x0 (x3 ++ [(⟨(rd_T40 x8 x10).f0, (rd_T40 x8 x10).f1⟩ : S40)]) x8 x9 (wrap64 (x10 + 1))) else (none)))) else (none)) else (if (x3.length : Int) > 0 then (if 0 ≤ (wrap64 ((x3.length : Int) - 1)) then (if (wrap64 ((x3.length : Int) - 1)) < (x3.length : Int) then (if ((rd_T40 x3 (wrap64 ((x3.length : Int) - 1))).f1) = ((rd_T40 x8 x10).f1) then (profile_tidy.l0 k x0 x3 x8 x9 (wrap64 (x10 + 1))) else (if x3.length < 8796093022208 then (profile_tidy.l0 k x0 (x3 ++ [(⟨(rd_T40 x8 x10).f0, (rd_T40 x8 x10).f1⟩ : S40)]) x8 x9 (wrap64 (x10 + 1))) else (none))) else (none)) else (none)) else (if x3.length < 8796093022208 then (profile_tidy.l0 k x0 (x3 ++ [(⟨(rd_T40 x8 x10).f0, (rd_T40 x8 x10).f1⟩ : S40)]) x8 x9 (wrap64 (x10 + 1))) else (none)))) else (none)) else (none)) else ((slices_Clip_Step.f x3).bind fun t133 => (some (t133, x0)))
def profile_tidy.f (k : Nat) (l0 : List (S40)) : Option ((List (S40)) × (List (S40))) := (slices_SortStableFunc_Step__profile_tidy_1.f k l0).bind fun t115 => (profile_tidy.l0 k t115 ([] : List (S40)) t115 (l0.length : Int) 0)
theorem profile_tidy.mono_l : ∀ k, (∀ y0 y1 y2 y3 y4, LeO (profile_tidy.l0 k y0 y1 y2 y3 y4) (profile_tidy.l0 (k + 1) y0 y1 y2 y3 y4))
 | 0 => fun _ _ _ _ _ r h => by simp [profile_tidy.l0] at h
 | k + 1 => by
  have ih0 := profile_tidy.mono_l k
  ·intro y0 y1 y2 y3 y4
   unfold profile_tidy.l0
   repeat' first
   | (with_reducible exact ih0 _ _ _ _ _)
   | (with_reducible exact slices_SortStableFunc_Step__profile_tidy_1.mono _ _)
   | (with_reducible exact LeO.refl _)
   | (with_reducible exact LeO.none _)
   | (with_reducible refine LeO.ite ?_ ?_)
   | (with_reducible refine LeO.bind ?_ (fun _ => ?_))
   | exact ih0 _ _ _ _ _
   | exact slices_SortStableFunc_Step__profile_tidy_1.mono _ _
   | exact LeO.none _
   | refine LeO.ite ?_ ?_
   | refine LeO.bind ?_ (fun _ => ?_)
theorem profile_tidy.mono : ∀ a0 k, LeO (profile_tidy.f k a0) (profile_tidy.f (k + 1) a0) := by
 intro a0 k
 have ih0 := profile_tidy.mono_l k
 unfold profile_tidy.f
 repeat' first
   | (with_reducible exact ih0 _ _ _ _ _)
   | (with_reducible exact slices_SortStableFunc_Step__profile_tidy_1.mono _ _)
   | (with_reducible exact LeO.refl _)
   | (with_reducible exact LeO.none _)
   | (with_reducible refine LeO.ite ?_ ?_)
   | (with_reducible refine LeO.bind ?_ (fun _ => ?_))
   | exact ih0 _ _ _ _ _
   | exact slices_SortStableFunc_Step__profile_tidy_1.mono _ _
   | exact LeO.none _
   | refine LeO.ite ?_ ?_
   | refine LeO.bind ?_ (fun _ => ?_)
set_option maxHeartbeats 8000000 in
set_option maxRecDepth 100000 in
theorem profile_tidy.calls (k : Nat) (P0_ : Nat → Prop) (u9000_ : Value) (l0 : List (S40)) (r1 : List (S40)) (r2 : List (S40)) (w0 w : World) (hB : Below w0.heap.size w0 w) (ho0 : Kd.R k40 40 w w0.heap.size P0_ u9000_ l0) (h : profile_tidy.f k l0 = some (r1, r2)) :
  Calls Try.prog 43 #[u9000_] w fun e w' => ∃ v0_ : Value, e = .returned (v0_) ∧ Kd.V k40 40 w' w0.heap.size (fun k_ => (P0_ k_ ∨ w.heap.size ≤ k_) ∧ some k_ ≠ (u9000_ : Value).ownBlock) v0_ r1 ∧ Kd.R k40 40 w' w0.heap.size (fun k_ => (P0_ k_ ∨ w.heap.size ≤ k_)) u9000_ r2 ∧ Below w0.heap.size w0 w' ∧ Kept w w' (fun k_ => P0_ k_) := by
 have hu40 := Try.underlying40
 have HO0 := Aside0.mk (show Kd.R k40 40 w w0.heap.size (fun k_ => (P0_ k_ ∨ w.heap.size ≤ k_)) u9000_ l0 from Kd.R_mono ho0 (fun k_ hk => (.inl hk)))
 have HK := Aside0.mk (Kept.refl w (fun k_ => P0_ k_))
 have HW0 := Aside0.mk hB.size
 have HB := Aside0.mk hB
 clear hB
 have H : ((slices_SortStableFunc_Step__profile_tidy_1.f k l0).bind fun t115 => (profile_tidy.l0 k t115 ([] : List (S40)) t115 (l0.length : Int) 0)) = some (r1, r2) := h
 clear h
 replace H := Option.bind_eq_some_iff.mp H
 obtain ⟨t115, A20, H⟩ := H
 replace H : (profile_tidy.l0 k t115 ([] : List (S40)) t115 (l0.length : Int) 0) = some (r1, r2) := H
 have A2 := Aside0.mk A20
 clear A20
 have H' := Aside0.mk H
 clear H
 obtain ⟨Ao3, co3, eo3⟩ := Kd.R_slice HO0.out
 subst eo3
 go_enter Try.func43, Try.ntmps43
 go_wp2_with (first | (go_at_call 48; (with_reducible refine (slices_SortStableFunc_Step__profile_tidy_1.calls cmp57 k (fun k_ => some k_ = (.slice Ao3 l0.length co3 : Value).ownBlock) (.slice Ao3 l0.length co3) l0  t115 w0 _ ?side1 ?side2 A2.out).mono ?_); (case side1 => repeat (first | (with_reducible first | exact HB.out | apply below_alloc | apply pw_below_drewN | apply below_drew1) | exact HB.out)); (case side2 => exact Kd.R_tight rfl HO0.out); rintro e w4 ⟨rfl, hy0, hb, hkp⟩; have n0_ := Aside0.mk (Kd.R_reok rfl hy0 (fun k_ e_ => HO0.out.1 k_ e_)); have n1_ := Aside0.mk (Kept.then_ (S := (fun k_ => P0_ k_)) (mK HK.out) hkp (fun k_ hs_ => (fun e_ => (HO0.out.1 k_ e_.symm)) hs_)); have n2_ := Aside0.mk (hb); clear HO0; clear HK; clear HB; have HO0 := n0_; have HK := n1_; have HB := n2_; clear n0_ n1_ n2_; (try clear hb); (try clear hkp); (try clear hy0)))
 repeat (go_quiet (fail); try go_wp2)
 go_loopg [3, 10] k (fun kq v3 v10 w' => ∃ (x3_1 : List (S40)) (x10_1 : Int), v10 = .int .i64 x10_1 ∧ Aside0 (profile_tidy.l0 kq t115 x3_1 t115 (l0.length : Int) x10_1 = some (r1, r2)) ∧ Aside0 (kq ≤ k) ∧ Aside0 (Kd.R k40 40 w' w0.heap.size (fun k_ => (P0_ k_ ∨ w.heap.size ≤ k_) ∧ some k_ ≠ (v3 : Value).ownBlock) (.slice Ao3 l0.length co3) t115) ∧ Aside0 (Kd.R k40 40 w' w0.heap.size (fun k_ => (P0_ k_ ∨ w.heap.size ≤ k_) ∧ some k_ ≠ ((.slice Ao3 l0.length co3) : Value).ownBlock ∧ some k_ ≠ ((.slice Ao3 l0.length co3) : Value).ownBlock) v3 x3_1) ∧ Aside0 (Kd.R k40 40 w' w0.heap.size (fun k_ => (P0_ k_ ∨ w.heap.size ≤ k_) ∧ some k_ ≠ (v3 : Value).ownBlock) (.slice Ao3 l0.length co3) t115) ∧ Aside0 (Kept w w' (fun k_ => P0_ k_)) ∧ Aside0 (Below w0.heap.size w0 w'))
 case atStart => exact ⟨(([] : List (S40))), (0), ez, H', ⟨Nat.le_refl _⟩, ⟨by (with_reducible repeat (first | apply Kd.R_alloc | apply Kd.R_drewN | apply Kd.R_drew)); exact Kd.R_mono HO0.out (fun _ hk => ⟨hk, (by simp [Value.ownBlock])⟩)⟩, ⟨by first | exact Kd.R_nil _ _ _ _ _ | exact Kd.N_nil _ _ _ _ _ | exact Kd.V_nil _ _ _ _ _ | exact Kd.Q_nil _ _ _ _ _ | exact Kd.S_nil _ _ _ _ _⟩, ⟨by (with_reducible repeat (first | apply Kd.R_alloc | apply Kd.R_drewN | apply Kd.R_drew)); exact Kd.R_mono HO0.out (fun _ hk => ⟨hk, (by simp [Value.ownBlock])⟩)⟩, ⟨mK HK.out⟩, ⟨mB HB.out⟩⟩
 case round =>
  clear H'
  (try clear p2); (try clear c4)
  obtain ⟨x3_1, x10_1, rfl, HA, HK1, HO_0, HO_3, HO_8, HK, HB⟩ := hrel
  have hl0_1 := (Kd.R_reads' HO_0.out).1
  rw [hl0_1] at HO_0
  (try simp only [hl0_1])
  (try simp only [hl0_1] at HO_3)
  (try simp only [hl0_1] at HO_8)
  have hl8_1 := (Kd.R_reads' HO_8.out).1
  rw [hl8_1] at HO_8
  (try simp only [hl8_1])
  (try simp only [hl8_1] at HO_0)
  (try simp only [hl8_1] at HO_3)
  cases gk with
  | zero => exact absurd HA.out (by simp [profile_tidy.l0])
  | succ k1 =>
   have H := HA.out
   clear HA
   simp only [profile_tidy.l0] at H
   by_cases c5 : x10_1 < (l0.length : Int)
   ·rw [if_pos c5] at H
    have c5b0 : decide (x10_1 < (l0.length : Int)) = true := decide_eq_true c5
    clear c5
    by_cases c6 : 0 ≤ x10_1
    ·rw [if_pos c6] at H
     have c6b0 : decide (0 ≤ x10_1) = true := decide_eq_true c6
     clear c6
     by_cases c7 : x10_1 < (t115.length : Int)
     ·rw [if_pos c7] at H
      have c7b0 : decide (x10_1 < (t115.length : Int)) = true := decide_eq_true c7
      clear c7
      by_cases c8 : (wrap64 (x10_1 + 1)) < (t115.length : Int)
      ·rw [if_pos c8] at H
       have c8b0 : decide ((wrap64 (x10_1 + 1)) < (t115.length : Int)) = true := decide_eq_true c8
       clear c8
       obtain ⟨ji9, hji9⟩ : ∃ j_ : Int, (wrap64 (x10_1 + 1)) = j_ := ⟨_, rfl⟩
       replace H : (if 0 ≤ (ji9) then (if ((rd_T40 t115 (ji9)).f0) = ((rd_T40 t115 x10_1).f0) then (profile_tidy.l0 k1 t115 x3_1 t115 (l0.length : Int) ji9) else (if (x3_1.length : Int) > 0 then (if 0 ≤ (wrap64 ((x3_1.length : Int) - 1)) then (if (wrap64 ((x3_1.length : Int) - 1)) < (x3_1.length : Int) then (if ((rd_T40 x3_1 (wrap64 ((x3_1.length : Int) - 1))).f1) = ((rd_T40 t115 x10_1).f1) then (profile_tidy.l0 k1 t115 x3_1 t115 (l0.length : Int) ji9) else (if x3_1.length < 8796093022208 then (profile_tidy.l0 k1 t115 (x3_1 ++ [(⟨(rd_T40 t115 x10_1).f0, (rd_T40 t115 x10_1).f1⟩ : S40)]) t115 (l0.length : Int) ji9) else (none))) else (none)) else (none)) else (if x3_1.length < 8796093022208 then (profile_tidy.l0 k1 t115 (x3_1 ++ [(⟨(rd_T40 t115 x10_1).f0, (rd_T40 t115 x10_1).f1⟩ : S40)]) t115 (l0.length : Int) ji9) else (none)))) else (none)) = some (r1, r2) := by first | (rw [hji9] at H; exact H) | (simp only [hji9] at H ⊢; exact H)
       (try rw [hji9] at c8b0)
       have hji9w : (IntKind.i64.wrap (x10_1 + 1)) = ji9 := (i64_w _).trans hji9
       by_cases c10 : 0 ≤ (ji9)
       ·rw [if_pos c10] at H
        have c10b0 : decide (0 ≤ (ji9)) = true := decide_eq_true c10
        clear c10
        by_cases c11 : ((rd_T40 t115 (ji9)).f0) = ((rd_T40 t115 x10_1).f0)
        ·rw [if_pos c11] at H
         have c11b0 : (((rd_T40 t115 (ji9)).f0) == ((rd_T40 t115 x10_1).f0)) = true := beq_iff_eq.mpr c11
         have c11b1 : (((rd_T40 t115 (ji9)).f0) != ((rd_T40 t115 x10_1).f0)) = false := bne_eq_false_iff_eq.mpr c11
         clear c11
         have H' := Aside0.mk H
         clear H
         have p116 : 0 ≤ (x10_1 : Int) := oda
         have q116 : x10_1 < (t115.length : Int) := oda
         obtain ⟨ad116, e116, hx116_0, hx116_1⟩ := at_T40 (Kd.R_reads' HO_8.out).2.2 x10_1 p116 q116
         cases e116
         replace p116 := eq_true p116
         replace q116 := eq_true q116
         go_wp2_with (first | ((with_reducible refine gate_dst (N := 5) rfl ?_); (try (refine gate_guard (by rfl) ?_; dsimp only)); refine box_event ?hg (N := 5) ?hd (cs := #[.int .i64 0, .int .i64 0]) (t := 40) ?hr ?_; (case hd => rfl); (case hg => rfl); (case hr => first | (go_simp; done) | (go_simp; rfl)); intro gb117 hg w12 hbox hb; have n0_ := Aside0.mk (Kd.R_below (Kd.R_elderB (mR HO_0.out) gb117 (Nat.le_of_eq hg.symm)) hb); have n1_ := Aside0.mk (Kd.R_below (Kd.R_elderB (mR HO_3.out) gb117 (Nat.le_of_eq hg.symm)) hb); have n2_ := Aside0.mk (Kd.R_below (Kd.R_elderB (mR HO_8.out) gb117 (Nat.le_of_eq hg.symm)) hb); have n3_ := Aside0.mk (Kept.below (S := (fun k_ => P0_ k_)) (mK HK.out) hb); have n4_ := Aside0.mk (below_step (mB HB.out) hb); have n5_ := Aside0.mk (hbox); have n6_ := Aside0.mk ((by rw [hg]; exact (by first | exact HK.out.1 | exact (show Kept w _ (fun k_ => P0_ k_) from by repeat (first | (with_reducible first | exact HK.out | apply Kept.alloc | apply Kept.drewN | apply Kept.drew) | exact HK.out)).1) : w.heap.size ≤ gb117)); have n7_ := Aside0.mk ((by rw [hg]; exact (below_size (mB HB.out)) : w0.heap.size ≤ gb117)); clear HO_0; clear HO_3; clear HO_8; clear HK; clear HB; have HO_0 := n0_; have HO_3 := n1_; have HO_8 := n2_; have HK := n3_; have HB := n4_; have BK117 := n5_; have GW117 := n6_; have GE117 := n7_; clear n0_ n1_ n2_ n3_ n4_ n5_ n6_ n7_; clear hb hbox hg; have hcz13_0 : w12.cell? ⟨gb117, 0, none⟩ = some (.int .i64 0) := (blk_cell BK117.out 0).trans rfl; have hcz13_1 : w12.cell? ⟨gb117, 1, none⟩ = some (.int .i64 0) := (blk_cell BK117.out 1).trans rfl; have hfz13_0 := blk_frozen BK117.out 0; have hfz13_1 := blk_frozen BK117.out 1; have p118 : 0 ≤ ((ji9) : Int) := oda; have q118 : (ji9) < (t115.length : Int) := oda; obtain ⟨ad118, e118, hx118_0, hx118_1⟩ := at_T40 (Kd.R_reads' HO_0.out).2.2 (ji9) p118 q118; obtain rfl : ad116 = ad118 := (by injection e118); have hn118_0 : ad116.block ≠ gb117 := (by first | exact Kd.own_blk (Kd.R_ne HO_0.out BK117.out (by decide)) | exact Kd.own_blk (Kd.R_away HO_0.out (fun _ h_ => h_.2))); have hn118_1 : ad116.block ≠ gb117 := (by first | exact Kd.own_blk (Kd.R_ne HO_0.out BK117.out (by decide)) | exact Kd.own_blk (Kd.R_away HO_0.out (fun _ h_ => h_.2))); replace hx118_0 := (cell_far (p := ⟨gb117, 0, none⟩) (by first | (rw [add_block]; exact hn118_0) | (show (Addr.add _ _).block ≠ _; rw [add_block]; exact hn118_0) | exact hn118_0) (.int .i64 ((rd_T40 t115 x10_1).f0))).trans hx118_0; replace hx118_1 := (cell_far (p := ⟨gb117, 0, none⟩) (by first | (rw [add_block]; exact hn118_0) | (show (Addr.add _ _).block ≠ _; rw [add_block]; exact hn118_0) | exact hn118_0) (.int .i64 ((rd_T40 t115 x10_1).f0))).trans hx118_1; replace hx118_0 := (cell_far (p := ⟨gb117, 1, none⟩) (by first | (rw [add_block]; exact hn118_1) | (show (Addr.add _ _).block ≠ _; rw [add_block]; exact hn118_1) | exact hn118_1) (.int .i64 ((rd_T40 t115 x10_1).f1))).trans hx118_0; replace hx118_1 := (cell_far (p := ⟨gb117, 1, none⟩) (by first | (rw [add_block]; exact hn118_1) | (show (Addr.add _ _).block ≠ _; rw [add_block]; exact hn118_1) | exact hn118_1) (.int .i64 ((rd_T40 t115 x10_1).f1))).trans hx118_1; (try have hy118_0 := fun (n_ : Nat) => (show ((((w12.drewN n_).setCell ⟨gb117, 0, none⟩ (.int .i64 ((rd_T40 t115 x10_1).f0))).setCell ⟨gb117, 1, none⟩ (.int .i64 ((rd_T40 t115 x10_1).f1)))).cell? _ = some _ from hx118_0)); (try have hy118_1 := fun (n_ : Nat) => (show ((((w12.drewN n_).setCell ⟨gb117, 0, none⟩ (.int .i64 ((rd_T40 t115 x10_1).f0))).setCell ⟨gb117, 1, none⟩ (.int .i64 ((rd_T40 t115 x10_1).f1)))).cell? _ = some _ from hx118_1)); clear hn118_0; clear hn118_1; replace p118 := eq_true p118; replace q118 := eq_true q118))
         repeat (go_quiet (fail); try go_wp2)
         (try simp only [← hl0_1])
         go_roundg k1
         case measure => have := HK1.out; omega
         case rel => exact ⟨(x3_1), (ji9), (by first | rfl | (simp; done) | (simp only [← hji9] <;> (first | rfl | simp)) | (simp [*]; done)), H', ⟨by have := HK1.out; omega⟩, ⟨by (try simp only [hl0_1]); (try simp only [hl8_1]); (with_reducible repeat (first | apply Kd.R_alloc | apply Kd.R_drewN | apply Kd.R_drew)); exact Kd.R_mono (Kd.R_far (p := ⟨gb117, 1, none⟩) (Kd.R_far (p := ⟨gb117, 0, none⟩) (Kd.R_mono HO_0.out (fun k_ hk => (⟨hk, hk.2⟩ : _ ∧ k_ ≠ gb117))) (fun _ hk => hk.2) (.int .i64 ((rd_T40 t115 x10_1).f0))) (fun _ hk => hk.2) (.int .i64 ((rd_T40 t115 x10_1).f1))) (fun _ hk => ⟨hk.1.1.1, hk.1.1.2⟩)⟩, ⟨by (try simp only [hl0_1]); (try simp only [hl8_1]); (with_reducible repeat (first | apply Kd.R_alloc | apply Kd.R_drewN | apply Kd.R_drew)); exact Kd.R_mono (Kd.R_far (p := ⟨gb117, 1, none⟩) (Kd.R_far (p := ⟨gb117, 0, none⟩) (Kd.R_mono HO_3.out (fun k_ hk => (⟨hk, hk.2⟩ : _ ∧ k_ ≠ gb117))) (fun _ hk => hk.2) (.int .i64 ((rd_T40 t115 x10_1).f0))) (fun _ hk => hk.2) (.int .i64 ((rd_T40 t115 x10_1).f1))) (fun _ hk => ⟨hk.1.1.1, ⟨hk.1.1.2.1, hk.1.1.2.2⟩⟩)⟩, ⟨by (try simp only [hl0_1]); (try simp only [hl8_1]); (with_reducible repeat (first | apply Kd.R_alloc | apply Kd.R_drewN | apply Kd.R_drew)); exact Kd.R_mono (Kd.R_far (p := ⟨gb117, 1, none⟩) (Kd.R_far (p := ⟨gb117, 0, none⟩) (Kd.R_mono HO_8.out (fun k_ hk => (⟨hk, hk.2⟩ : _ ∧ k_ ≠ gb117))) (fun _ hk => hk.2) (.int .i64 ((rd_T40 t115 x10_1).f0))) (fun _ hk => hk.2) (.int .i64 ((rd_T40 t115 x10_1).f1))) (fun _ hk => ⟨hk.1.1.1, hk.1.1.2⟩)⟩, ⟨by repeat (first | (with_reducible first | exact HK.out | apply Kept.alloc | apply Kept.drewN | apply Kept.drew | refine Kept.setCell ?_ (.inr GW117.out) _) | exact HK.out)⟩, ⟨mBs HB.out⟩⟩
        ·rw [if_neg c11] at H
         have c11b0 : (((rd_T40 t115 (ji9)).f0) == ((rd_T40 t115 x10_1).f0)) = false := beq_eq_false_iff_ne.mpr c11
         have c11b1 : (((rd_T40 t115 (ji9)).f0) != ((rd_T40 t115 x10_1).f0)) = true := bne_iff_ne.mpr c11
         by_cases c14 : (x3_1.length : Int) > 0
         ·rw [if_pos c14] at H
          have c14b0 : decide (0 < (x3_1.length : Int)) = true := decide_eq_true c14
          have c14b1 : decide (0 < x3_1.length) = true := decide_eq_true (by omega)
          clear c14
          obtain ⟨ji15, hji15⟩ : ∃ j_ : Int, (wrap64 ((x3_1.length : Int) - 1)) = j_ := ⟨_, rfl⟩
          replace H : (if 0 ≤ (ji15) then (if (ji15) < (x3_1.length : Int) then (if ((rd_T40 x3_1 (ji15)).f1) = ((rd_T40 t115 x10_1).f1) then (profile_tidy.l0 k1 t115 x3_1 t115 (l0.length : Int) ji9) else (if x3_1.length < 8796093022208 then (profile_tidy.l0 k1 t115 (x3_1 ++ [(⟨(rd_T40 t115 x10_1).f0, (rd_T40 t115 x10_1).f1⟩ : S40)]) t115 (l0.length : Int) ji9) else (none))) else (none)) else (none)) = some (r1, r2) := by first | (rw [hji15] at H; exact H) | (simp only [hji15] at H ⊢; exact H)
          have hji15w : (IntKind.i64.wrap ((x3_1.length : Int) - 1)) = ji15 := (i64_w _).trans hji15
          (try simp only [hji15] at hji9)
          (try simp only [hji15w] at hji9w)
          by_cases c16 : 0 ≤ (ji15)
          ·rw [if_pos c16] at H
           have c16b0 : decide (0 ≤ (ji15)) = true := decide_eq_true c16
           clear c16
           by_cases c17 : (ji15) < (x3_1.length : Int)
           ·rw [if_pos c17] at H
            have c17b0 : decide ((ji15) < (x3_1.length : Int)) = true := decide_eq_true c17
            clear c17
            by_cases c18 : ((rd_T40 x3_1 (ji15)).f1) = ((rd_T40 t115 x10_1).f1)
            ·rw [if_pos c18] at H
             have c18b0 : (((rd_T40 x3_1 (ji15)).f1) == ((rd_T40 t115 x10_1).f1)) = true := beq_iff_eq.mpr c18
             have c18b1 : (((rd_T40 x3_1 (ji15)).f1) != ((rd_T40 t115 x10_1).f1)) = false := bne_eq_false_iff_eq.mpr c18
             clear c18
             have H' := Aside0.mk H
             clear H
             have p116 : 0 ≤ (x10_1 : Int) := oda
             have q116 : x10_1 < (t115.length : Int) := oda
             obtain ⟨ad116, e116, hx116_0, hx116_1⟩ := at_T40 (Kd.R_reads' HO_8.out).2.2 x10_1 p116 q116
             cases e116
             replace p116 := eq_true p116
             replace q116 := eq_true q116
             go_wp2_with (first | ((with_reducible refine gate_dst (N := 5) rfl ?_); (try (refine gate_guard (by rfl) ?_; dsimp only)); refine box_event ?hg (N := 5) ?hd (cs := #[.int .i64 0, .int .i64 0]) (t := 40) ?hr ?_; (case hd => rfl); (case hg => rfl); (case hr => first | (go_simp; done) | (go_simp; rfl)); intro gb117 hg w19 hbox hb; have n0_ := Aside0.mk (Kd.R_below (Kd.R_elderB (mR HO_0.out) gb117 (Nat.le_of_eq hg.symm)) hb); have n1_ := Aside0.mk (Kd.R_below (Kd.R_elderB (mR HO_3.out) gb117 (Nat.le_of_eq hg.symm)) hb); have n2_ := Aside0.mk (Kd.R_below (Kd.R_elderB (mR HO_8.out) gb117 (Nat.le_of_eq hg.symm)) hb); have n3_ := Aside0.mk (Kept.below (S := (fun k_ => P0_ k_)) (mK HK.out) hb); have n4_ := Aside0.mk (below_step (mB HB.out) hb); have n5_ := Aside0.mk (hbox); have n6_ := Aside0.mk ((by rw [hg]; exact (by first | exact HK.out.1 | exact (show Kept w _ (fun k_ => P0_ k_) from by repeat (first | (with_reducible first | exact HK.out | apply Kept.alloc | apply Kept.drewN | apply Kept.drew) | exact HK.out)).1) : w.heap.size ≤ gb117)); have n7_ := Aside0.mk ((by rw [hg]; exact (below_size (mB HB.out)) : w0.heap.size ≤ gb117)); clear HO_0; clear HO_3; clear HO_8; clear HK; clear HB; have HO_0 := n0_; have HO_3 := n1_; have HO_8 := n2_; have HK := n3_; have HB := n4_; have BK117 := n5_; have GW117 := n6_; have GE117 := n7_; clear n0_ n1_ n2_ n3_ n4_ n5_ n6_ n7_; clear hb hbox hg; have hcz20_0 : w19.cell? ⟨gb117, 0, none⟩ = some (.int .i64 0) := (blk_cell BK117.out 0).trans rfl; have hcz20_1 : w19.cell? ⟨gb117, 1, none⟩ = some (.int .i64 0) := (blk_cell BK117.out 1).trans rfl; have hfz20_0 := blk_frozen BK117.out 0; have hfz20_1 := blk_frozen BK117.out 1; have p118 : 0 ≤ ((ji9) : Int) := oda; have q118 : (ji9) < (t115.length : Int) := oda; obtain ⟨ad118, e118, hx118_0, hx118_1⟩ := at_T40 (Kd.R_reads' HO_0.out).2.2 (ji9) p118 q118; obtain rfl : ad116 = ad118 := (by injection e118); have hn118_0 : ad116.block ≠ gb117 := (by first | exact Kd.own_blk (Kd.R_ne HO_0.out BK117.out (by decide)) | exact Kd.own_blk (Kd.R_away HO_0.out (fun _ h_ => h_.2))); have hn118_1 : ad116.block ≠ gb117 := (by first | exact Kd.own_blk (Kd.R_ne HO_0.out BK117.out (by decide)) | exact Kd.own_blk (Kd.R_away HO_0.out (fun _ h_ => h_.2))); replace hx118_0 := (cell_far (p := ⟨gb117, 0, none⟩) (by first | (rw [add_block]; exact hn118_0) | (show (Addr.add _ _).block ≠ _; rw [add_block]; exact hn118_0) | exact hn118_0) (.int .i64 ((rd_T40 t115 x10_1).f0))).trans hx118_0; replace hx118_1 := (cell_far (p := ⟨gb117, 0, none⟩) (by first | (rw [add_block]; exact hn118_0) | (show (Addr.add _ _).block ≠ _; rw [add_block]; exact hn118_0) | exact hn118_0) (.int .i64 ((rd_T40 t115 x10_1).f0))).trans hx118_1; replace hx118_0 := (cell_far (p := ⟨gb117, 1, none⟩) (by first | (rw [add_block]; exact hn118_1) | (show (Addr.add _ _).block ≠ _; rw [add_block]; exact hn118_1) | exact hn118_1) (.int .i64 ((rd_T40 t115 x10_1).f1))).trans hx118_0; replace hx118_1 := (cell_far (p := ⟨gb117, 1, none⟩) (by first | (rw [add_block]; exact hn118_1) | (show (Addr.add _ _).block ≠ _; rw [add_block]; exact hn118_1) | exact hn118_1) (.int .i64 ((rd_T40 t115 x10_1).f1))).trans hx118_1; (try have hy118_0 := fun (n_ : Nat) => (show ((((w19.drewN n_).setCell ⟨gb117, 0, none⟩ (.int .i64 ((rd_T40 t115 x10_1).f0))).setCell ⟨gb117, 1, none⟩ (.int .i64 ((rd_T40 t115 x10_1).f1)))).cell? _ = some _ from hx118_0)); (try have hy118_1 := fun (n_ : Nat) => (show ((((w19.drewN n_).setCell ⟨gb117, 0, none⟩ (.int .i64 ((rd_T40 t115 x10_1).f0))).setCell ⟨gb117, 1, none⟩ (.int .i64 ((rd_T40 t115 x10_1).f1)))).cell? _ = some _ from hx118_1)); clear hn118_0; clear hn118_1; replace p118 := eq_true p118; replace q118 := eq_true q118; obtain ⟨Ao21, co21, eo21⟩ := Kd.R_slice HO_3.out; subst eo21; have p119 : 0 ≤ ((ji15) : Int) := oda; have q119 : (ji15) < (x3_1.length : Int) := oda; obtain ⟨ad119, e119, hx119_0, hx119_1⟩ := at_T40 (Kd.R_reads' HO_3.out).2.2 (ji15) p119 q119; cases e119; have hn119_0 : ad119.block ≠ gb117 := (by first | exact Kd.own_blk (Kd.R_ne HO_3.out BK117.out (by decide)) | exact Kd.own_blk (Kd.R_away HO_3.out (fun _ h_ => h_.2))); have hn119_1 : ad119.block ≠ gb117 := (by first | exact Kd.own_blk (Kd.R_ne HO_3.out BK117.out (by decide)) | exact Kd.own_blk (Kd.R_away HO_3.out (fun _ h_ => h_.2))); replace hx119_0 := (cell_far (p := ⟨gb117, 0, none⟩) (by first | (rw [add_block]; exact hn119_0) | (show (Addr.add _ _).block ≠ _; rw [add_block]; exact hn119_0) | exact hn119_0) (.int .i64 ((rd_T40 t115 x10_1).f0))).trans hx119_0; replace hx119_1 := (cell_far (p := ⟨gb117, 0, none⟩) (by first | (rw [add_block]; exact hn119_0) | (show (Addr.add _ _).block ≠ _; rw [add_block]; exact hn119_0) | exact hn119_0) (.int .i64 ((rd_T40 t115 x10_1).f0))).trans hx119_1; replace hx119_0 := (cell_far (p := ⟨gb117, 1, none⟩) (by first | (rw [add_block]; exact hn119_1) | (show (Addr.add _ _).block ≠ _; rw [add_block]; exact hn119_1) | exact hn119_1) (.int .i64 ((rd_T40 t115 x10_1).f1))).trans hx119_0; replace hx119_1 := (cell_far (p := ⟨gb117, 1, none⟩) (by first | (rw [add_block]; exact hn119_1) | (show (Addr.add _ _).block ≠ _; rw [add_block]; exact hn119_1) | exact hn119_1) (.int .i64 ((rd_T40 t115 x10_1).f1))).trans hx119_1; (try have hy119_0 := fun (n_ : Nat) => (show ((((w19.drewN n_).setCell ⟨gb117, 0, none⟩ (.int .i64 ((rd_T40 t115 x10_1).f0))).setCell ⟨gb117, 1, none⟩ (.int .i64 ((rd_T40 t115 x10_1).f1)))).cell? _ = some _ from hx119_0)); (try have hy119_1 := fun (n_ : Nat) => (show ((((w19.drewN n_).setCell ⟨gb117, 0, none⟩ (.int .i64 ((rd_T40 t115 x10_1).f0))).setCell ⟨gb117, 1, none⟩ (.int .i64 ((rd_T40 t115 x10_1).f1)))).cell? _ = some _ from hx119_1)); clear hn119_0; clear hn119_1; replace p119 := eq_true p119; replace q119 := eq_true q119))
             repeat (go_quiet (fail); try go_wp2)
             (try simp only [← hl0_1])
             go_roundg k1
             case measure => have := HK1.out; omega
             case rel => exact ⟨(x3_1), (ji9), (by first | rfl | (simp; done) | (simp only [← hji9] <;> (first | rfl | simp)) | (simp [*]; done)), H', ⟨by have := HK1.out; omega⟩, ⟨by (try simp only [hl0_1]); (try simp only [hl8_1]); (with_reducible repeat (first | apply Kd.R_alloc | apply Kd.R_drewN | apply Kd.R_drew)); exact Kd.R_mono (Kd.R_far (p := ⟨gb117, 1, none⟩) (Kd.R_far (p := ⟨gb117, 0, none⟩) (Kd.R_mono HO_0.out (fun k_ hk => (⟨hk, hk.2⟩ : _ ∧ k_ ≠ gb117))) (fun _ hk => hk.2) (.int .i64 ((rd_T40 t115 x10_1).f0))) (fun _ hk => hk.2) (.int .i64 ((rd_T40 t115 x10_1).f1))) (fun _ hk => ⟨hk.1.1.1, hk.1.1.2⟩)⟩, ⟨by (try simp only [hl0_1]); (try simp only [hl8_1]); (with_reducible repeat (first | apply Kd.R_alloc | apply Kd.R_drewN | apply Kd.R_drew)); exact Kd.R_mono (Kd.R_far (p := ⟨gb117, 1, none⟩) (Kd.R_far (p := ⟨gb117, 0, none⟩) (Kd.R_mono HO_3.out (fun k_ hk => (⟨hk, hk.2⟩ : _ ∧ k_ ≠ gb117))) (fun _ hk => hk.2) (.int .i64 ((rd_T40 t115 x10_1).f0))) (fun _ hk => hk.2) (.int .i64 ((rd_T40 t115 x10_1).f1))) (fun _ hk => ⟨hk.1.1.1, ⟨hk.1.1.2.1, hk.1.1.2.2⟩⟩)⟩, ⟨by (try simp only [hl0_1]); (try simp only [hl8_1]); (with_reducible repeat (first | apply Kd.R_alloc | apply Kd.R_drewN | apply Kd.R_drew)); exact Kd.R_mono (Kd.R_far (p := ⟨gb117, 1, none⟩) (Kd.R_far (p := ⟨gb117, 0, none⟩) (Kd.R_mono HO_8.out (fun k_ hk => (⟨hk, hk.2⟩ : _ ∧ k_ ≠ gb117))) (fun _ hk => hk.2) (.int .i64 ((rd_T40 t115 x10_1).f0))) (fun _ hk => hk.2) (.int .i64 ((rd_T40 t115 x10_1).f1))) (fun _ hk => ⟨hk.1.1.1, hk.1.1.2⟩)⟩, ⟨by repeat (first | (with_reducible first | exact HK.out | apply Kept.alloc | apply Kept.drewN | apply Kept.drew | refine Kept.setCell ?_ (.inr GW117.out) _) | exact HK.out)⟩, ⟨mBs HB.out⟩⟩
            ·rw [if_neg c18] at H
             have c18b0 : (((rd_T40 x3_1 (ji15)).f1) == ((rd_T40 t115 x10_1).f1)) = false := beq_eq_false_iff_ne.mpr c18
             have c18b1 : (((rd_T40 x3_1 (ji15)).f1) != ((rd_T40 t115 x10_1).f1)) = true := bne_iff_ne.mpr c18
             by_cases c22 : x3_1.length < 8796093022208
             ·rw [if_pos c22] at H
              have LMc22 := Aside0.mk c22
              clear c22
              obtain ⟨y120, hy120⟩ : ∃ y_ : List (S40), y_ = (x3_1 ++ [(⟨(rd_T40 t115 x10_1).f0, (rd_T40 t115 x10_1).f1⟩ : S40)]) := ⟨_, rfl⟩
              replace H : (profile_tidy.l0 k1 t115 y120 t115 (l0.length : Int) ji9) = some (r1, r2) := mH hy120 H
              have Ny120 := Aside0.mk hy120
              clear hy120
              have H' := Aside0.mk H
              clear H
              have p116 : 0 ≤ (x10_1 : Int) := oda
              have q116 : x10_1 < (t115.length : Int) := oda
              obtain ⟨ad116, e116, hx116_0, hx116_1⟩ := at_T40 (Kd.R_reads' HO_8.out).2.2 x10_1 p116 q116
              cases e116
              replace p116 := eq_true p116
              replace q116 := eq_true q116
              go_wp2_with (first | ((with_reducible refine gate_dst (N := 5) rfl ?_); (try (refine gate_guard (by rfl) ?_; dsimp only)); refine box_event ?hg (N := 5) ?hd (cs := #[.int .i64 0, .int .i64 0]) (t := 40) ?hr ?_; (case hd => rfl); (case hg => rfl); (case hr => first | (go_simp; done) | (go_simp; rfl)); intro gb117 hg w23 hbox hb; have n0_ := Aside0.mk (Kd.R_below (Kd.R_elderB (mR HO_0.out) gb117 (Nat.le_of_eq hg.symm)) hb); have n1_ := Aside0.mk (Kd.R_below (Kd.R_elderB (mR HO_3.out) gb117 (Nat.le_of_eq hg.symm)) hb); have n2_ := Aside0.mk (Kd.R_below (Kd.R_elderB (mR HO_8.out) gb117 (Nat.le_of_eq hg.symm)) hb); have n3_ := Aside0.mk (Kept.below (S := (fun k_ => P0_ k_)) (mK HK.out) hb); have n4_ := Aside0.mk (below_step (mB HB.out) hb); have n5_ := Aside0.mk (hbox); have n6_ := Aside0.mk ((by rw [hg]; exact (by first | exact HK.out.1 | exact (show Kept w _ (fun k_ => P0_ k_) from by repeat (first | (with_reducible first | exact HK.out | apply Kept.alloc | apply Kept.drewN | apply Kept.drew) | exact HK.out)).1) : w.heap.size ≤ gb117)); have n7_ := Aside0.mk ((by rw [hg]; exact (below_size (mB HB.out)) : w0.heap.size ≤ gb117)); clear HO_0; clear HO_3; clear HO_8; clear HK; clear HB; have HO_0 := n0_; have HO_3 := n1_; have HO_8 := n2_; have HK := n3_; have HB := n4_; have BK117 := n5_; have GW117 := n6_; have GE117 := n7_; clear n0_ n1_ n2_ n3_ n4_ n5_ n6_ n7_; clear hb hbox hg; have hcz24_0 : w23.cell? ⟨gb117, 0, none⟩ = some (.int .i64 0) := (blk_cell BK117.out 0).trans rfl; have hcz24_1 : w23.cell? ⟨gb117, 1, none⟩ = some (.int .i64 0) := (blk_cell BK117.out 1).trans rfl; have hfz24_0 := blk_frozen BK117.out 0; have hfz24_1 := blk_frozen BK117.out 1; have p118 : 0 ≤ ((ji9) : Int) := oda; have q118 : (ji9) < (t115.length : Int) := oda; obtain ⟨ad118, e118, hx118_0, hx118_1⟩ := at_T40 (Kd.R_reads' HO_0.out).2.2 (ji9) p118 q118; obtain rfl : ad116 = ad118 := (by injection e118); have hn118_0 : ad116.block ≠ gb117 := (by first | exact Kd.own_blk (Kd.R_ne HO_0.out BK117.out (by decide)) | exact Kd.own_blk (Kd.R_away HO_0.out (fun _ h_ => h_.2))); have hn118_1 : ad116.block ≠ gb117 := (by first | exact Kd.own_blk (Kd.R_ne HO_0.out BK117.out (by decide)) | exact Kd.own_blk (Kd.R_away HO_0.out (fun _ h_ => h_.2))); replace hx118_0 := (cell_far (p := ⟨gb117, 0, none⟩) (by first | (rw [add_block]; exact hn118_0) | (show (Addr.add _ _).block ≠ _; rw [add_block]; exact hn118_0) | exact hn118_0) (.int .i64 ((rd_T40 t115 x10_1).f0))).trans hx118_0; replace hx118_1 := (cell_far (p := ⟨gb117, 0, none⟩) (by first | (rw [add_block]; exact hn118_0) | (show (Addr.add _ _).block ≠ _; rw [add_block]; exact hn118_0) | exact hn118_0) (.int .i64 ((rd_T40 t115 x10_1).f0))).trans hx118_1; replace hx118_0 := (cell_far (p := ⟨gb117, 1, none⟩) (by first | (rw [add_block]; exact hn118_1) | (show (Addr.add _ _).block ≠ _; rw [add_block]; exact hn118_1) | exact hn118_1) (.int .i64 ((rd_T40 t115 x10_1).f1))).trans hx118_0; replace hx118_1 := (cell_far (p := ⟨gb117, 1, none⟩) (by first | (rw [add_block]; exact hn118_1) | (show (Addr.add _ _).block ≠ _; rw [add_block]; exact hn118_1) | exact hn118_1) (.int .i64 ((rd_T40 t115 x10_1).f1))).trans hx118_1; (try have hy118_0 := fun (n_ : Nat) => (show ((((w23.drewN n_).setCell ⟨gb117, 0, none⟩ (.int .i64 ((rd_T40 t115 x10_1).f0))).setCell ⟨gb117, 1, none⟩ (.int .i64 ((rd_T40 t115 x10_1).f1)))).cell? _ = some _ from hx118_0)); (try have hy118_1 := fun (n_ : Nat) => (show ((((w23.drewN n_).setCell ⟨gb117, 0, none⟩ (.int .i64 ((rd_T40 t115 x10_1).f0))).setCell ⟨gb117, 1, none⟩ (.int .i64 ((rd_T40 t115 x10_1).f1)))).cell? _ = some _ from hx118_1)); clear hn118_0; clear hn118_1; replace p118 := eq_true p118; replace q118 := eq_true q118; obtain ⟨Ao25, co25, eo25⟩ := Kd.R_slice HO_3.out; subst eo25; have p119 : 0 ≤ ((ji15) : Int) := oda; have q119 : (ji15) < (x3_1.length : Int) := oda; obtain ⟨ad119, e119, hx119_0, hx119_1⟩ := at_T40 (Kd.R_reads' HO_3.out).2.2 (ji15) p119 q119; cases e119; have hn119_0 : ad119.block ≠ gb117 := (by first | exact Kd.own_blk (Kd.R_ne HO_3.out BK117.out (by decide)) | exact Kd.own_blk (Kd.R_away HO_3.out (fun _ h_ => h_.2))); have hn119_1 : ad119.block ≠ gb117 := (by first | exact Kd.own_blk (Kd.R_ne HO_3.out BK117.out (by decide)) | exact Kd.own_blk (Kd.R_away HO_3.out (fun _ h_ => h_.2))); replace hx119_0 := (cell_far (p := ⟨gb117, 0, none⟩) (by first | (rw [add_block]; exact hn119_0) | (show (Addr.add _ _).block ≠ _; rw [add_block]; exact hn119_0) | exact hn119_0) (.int .i64 ((rd_T40 t115 x10_1).f0))).trans hx119_0; replace hx119_1 := (cell_far (p := ⟨gb117, 0, none⟩) (by first | (rw [add_block]; exact hn119_0) | (show (Addr.add _ _).block ≠ _; rw [add_block]; exact hn119_0) | exact hn119_0) (.int .i64 ((rd_T40 t115 x10_1).f0))).trans hx119_1; replace hx119_0 := (cell_far (p := ⟨gb117, 1, none⟩) (by first | (rw [add_block]; exact hn119_1) | (show (Addr.add _ _).block ≠ _; rw [add_block]; exact hn119_1) | exact hn119_1) (.int .i64 ((rd_T40 t115 x10_1).f1))).trans hx119_0; replace hx119_1 := (cell_far (p := ⟨gb117, 1, none⟩) (by first | (rw [add_block]; exact hn119_1) | (show (Addr.add _ _).block ≠ _; rw [add_block]; exact hn119_1) | exact hn119_1) (.int .i64 ((rd_T40 t115 x10_1).f1))).trans hx119_1; (try have hy119_0 := fun (n_ : Nat) => (show ((((w23.drewN n_).setCell ⟨gb117, 0, none⟩ (.int .i64 ((rd_T40 t115 x10_1).f0))).setCell ⟨gb117, 1, none⟩ (.int .i64 ((rd_T40 t115 x10_1).f1)))).cell? _ = some _ from hx119_0)); (try have hy119_1 := fun (n_ : Nat) => (show ((((w23.drewN n_).setCell ⟨gb117, 0, none⟩ (.int .i64 ((rd_T40 t115 x10_1).f0))).setCell ⟨gb117, 1, none⟩ (.int .i64 ((rd_T40 t115 x10_1).f1)))).cell? _ = some _ from hx119_1)); clear hn119_0; clear hn119_1; replace p119 := eq_true p119; replace q119 := eq_true q119) | ((with_reducible refine gate_builtin (b := .append) (xs := #[.tmp 48, .tmp 50]) rfl ?_); (try (refine gate_guard (by rfl) ?_; dsimp only)); at_builtin; refine Kd.R_append k40 (w0 := w0) w0.heap.size rfl (.tmp 48) (.tmp 50) 25 40 (.agg #[(.int .i64 0), (.int .i64 0)]) 16 rfl Try.underlying25 info40 rfl (by decide) (by omega) (.slice (some ad119) x3_1.length co25) x3_1 (⟨(rd_T40 t115 x10_1).f0, (rd_T40 t115 x10_1).f1⟩ : S40) [.int .i64 ((rd_T40 t115 x10_1).f0), .int .i64 ((rd_T40 t115 x10_1).f1)] (fun k_ => (P0_ k_ ∨ w.heap.size ≤ k_) ∧ some k_ ≠ (.slice (some ad116) t115.length co3 : Value).ownBlock ∧ some k_ ≠ (.slice (some ad116) t115.length co3 : Value).ownBlock ∧ k_ ≠ gb117) (fun _ => False) rfl (by first | (go_simp; done) | (go_simp; rfl)) ?aP (fun _ hk => hk.elim) ?aF ?aO ?aB ?aS ?aL ?_; (case aP => exact k40_mkM _ _ _ (⟨(rd_T40 t115 x10_1).f0, (rd_T40 t115 x10_1).f1⟩ : S40)); (case aB => exact (mBs HB.out)); (case aF => exact (fun k_ hk => ⟨(.inr (Nat.le_trans (show Kept w _ (fun k_ => P0_ k_) from by repeat (first | (with_reducible first | exact HK.out | apply Kept.alloc | apply Kept.drewN | apply Kept.drew | refine Kept.setCell ?_ (.inr GW117.out) _) | exact HK.out)).1 hk)), Kd.fresh' (Kd.R_lt (by (with_reducible repeat (first | apply Kd.R_alloc | apply Kd.R_drewN | apply Kd.R_drew)); exact (Kd.R_mono (Kd.R_far (p := ⟨gb117, 1, none⟩) (Kd.R_far (p := ⟨gb117, 0, none⟩) (Kd.R_mono HO_0.out (fun k_ hk => (⟨hk, hk.2⟩ : _ ∧ k_ ≠ gb117))) (fun _ hk => hk.2) (.int .i64 ((rd_T40 t115 x10_1).f0))) (fun _ hk => hk.2) (.int .i64 ((rd_T40 t115 x10_1).f1))) (fun _ h_ => h_.1)))) k_ hk, Kd.fresh' (Kd.R_lt (by (with_reducible repeat (first | apply Kd.R_alloc | apply Kd.R_drewN | apply Kd.R_drew)); exact (Kd.R_mono (Kd.R_far (p := ⟨gb117, 1, none⟩) (Kd.R_far (p := ⟨gb117, 0, none⟩) (Kd.R_mono HO_8.out (fun k_ hk => (⟨hk, hk.2⟩ : _ ∧ k_ ≠ gb117))) (fun _ hk => hk.2) (.int .i64 ((rd_T40 t115 x10_1).f0))) (fun _ hk => hk.2) (.int .i64 ((rd_T40 t115 x10_1).f1))) (fun _ h_ => h_.1)))) k_ hk, Kd.freshB (g := gb117) (o := .cells #[.int .i64 ((rd_T40 t115 x10_1).f0), .int .i64 ((rd_T40 t115 x10_1).f1)] 40 (0, 0)) (by (with_reducible repeat (first | refine blk_drewN ?_ _ | refine blk_drew ?_ | refine blk_alloc ?_ _)); refine blk_put (cs := #[.int .i64 ((rd_T40 t115 x10_1).f0), .int .i64 0]) ?_ 1 _ rfl; (with_reducible repeat (first | refine blk_drewN ?_ _ | refine blk_drew ?_ | refine blk_alloc ?_ _)); refine blk_put (cs := #[.int .i64 0, .int .i64 0]) ?_ 0 _ rfl; (with_reducible repeat (first | refine blk_drewN ?_ _ | refine blk_drew ?_ | refine blk_alloc ?_ _)); exact BK117.out) k_ hk⟩)); (case aO => exact (by (with_reducible repeat (first | apply Kd.R_alloc | apply Kd.R_drewN | apply Kd.R_drew)); exact Kd.R_mono (Kd.R_far (p := ⟨gb117, 1, none⟩) (Kd.R_far (p := ⟨gb117, 0, none⟩) (Kd.R_mono HO_3.out (fun k_ hk => (⟨hk, hk.2⟩ : _ ∧ k_ ≠ gb117))) (fun _ hk => hk.2) (.int .i64 ((rd_T40 t115 x10_1).f0))) (fun _ hk => hk.2) (.int .i64 ((rd_T40 t115 x10_1).f1))) (fun _ hk => ⟨hk.1.1.1, ⟨hk.1.1.2.1, ⟨hk.1.1.2.2, hk.1.2⟩⟩⟩))); (case aS => exact (below_size (mBs HB.out))); (case aL => have := LMc22.out; omega); intro v121 w26 ho hb hg hat; rw [← Ny120.out] at ho; have n0_ := Aside0.mk (Kd.R_after (ok := (fun k_ => (P0_ k_ ∨ w.heap.size ≤ k_) ∧ k_ ≠ gb117)) (by (with_reducible repeat (first | apply Kd.R_alloc | apply Kd.R_drewN | apply Kd.R_drew)); exact Kd.R_mono (Kd.R_far (p := ⟨gb117, 1, none⟩) (Kd.R_far (p := ⟨gb117, 0, none⟩) (Kd.R_mono HO_0.out (fun k_ hk => (⟨hk, hk.2⟩ : _ ∧ k_ ≠ gb117))) (fun _ hk => hk.2) (.int .i64 ((rd_T40 t115 x10_1).f0))) (fun _ hk => hk.2) (.int .i64 ((rd_T40 t115 x10_1).f1))) (fun _ hk => ⟨⟨hk.1.1.1, hk.1.2⟩, hk.1.1.2⟩)) hg hat); have n1_ := Aside0.mk (Kd.R_after (ok := (fun k_ => (P0_ k_ ∨ w.heap.size ≤ k_) ∧ k_ ≠ gb117)) (by (with_reducible repeat (first | apply Kd.R_alloc | apply Kd.R_drewN | apply Kd.R_drew)); exact Kd.R_mono (Kd.R_far (p := ⟨gb117, 1, none⟩) (Kd.R_far (p := ⟨gb117, 0, none⟩) (Kd.R_mono HO_8.out (fun k_ hk => (⟨hk, hk.2⟩ : _ ∧ k_ ≠ gb117))) (fun _ hk => hk.2) (.int .i64 ((rd_T40 t115 x10_1).f0))) (fun _ hk => hk.2) (.int .i64 ((rd_T40 t115 x10_1).f1))) (fun _ hk => ⟨⟨hk.1.1.1, hk.1.2⟩, hk.1.1.2⟩)) hg hat); have n2_ := Aside0.mk (blk_grown (g := gb117) (o := .cells #[.int .i64 ((rd_T40 t115 x10_1).f0), .int .i64 ((rd_T40 t115 x10_1).f1)] 40 (0, 0)) (by (with_reducible repeat (first | refine blk_drewN ?_ _ | refine blk_drew ?_ | refine blk_alloc ?_ _)); refine blk_put (cs := #[.int .i64 ((rd_T40 t115 x10_1).f0), .int .i64 0]) ?_ 1 _ rfl; (with_reducible repeat (first | refine blk_drewN ?_ _ | refine blk_drew ?_ | refine blk_alloc ?_ _)); refine blk_put (cs := #[.int .i64 0, .int .i64 0]) ?_ 0 _ rfl; (with_reducible repeat (first | refine blk_drewN ?_ _ | refine blk_drew ?_ | refine blk_alloc ?_ _)); exact BK117.out) hg (Kd.R_away HO_3.out (fun _ hk => hk.2))); have n3_ := Aside0.mk (hb); have n4_ := Aside0.mk (Kept.of_grown (S := (fun k_ => P0_ k_)) hg (by repeat (first | (with_reducible first | exact HK.out | apply Kept.alloc | apply Kept.drewN | apply Kept.drew | refine Kept.setCell ?_ (.inr GW117.out) _) | exact HK.out)) (fun k_ e_ => (HO_3.out.1 k_ e_).1.1)); have n5_ := Aside0.mk (ho); clear HO_0; clear HO_8; clear BK117; clear HB; clear HK; clear HO_3; have HO_0 := n0_; have HO_8 := n1_; have BK117 := n2_; have HB := n3_; have HK := n4_; have HO122 := n5_; clear n0_ n1_ n2_ n3_ n4_ n5_; clear ho hb hg hat))
              repeat (go_quiet (fail); try go_wp2_with (first | ((with_reducible refine gate_dst (N := 5) rfl ?_); (try (refine gate_guard (by rfl) ?_; dsimp only)); refine box_event ?hg (N := 5) ?hd (cs := #[.int .i64 0, .int .i64 0]) (t := 40) ?hr ?_; (case hd => rfl); (case hg => rfl); (case hr => first | (go_simp; done) | (go_simp; rfl)); intro gb117 hg w23 hbox hb; have n0_ := Aside0.mk (Kd.R_below (Kd.R_elderB (mR HO_0.out) gb117 (Nat.le_of_eq hg.symm)) hb); have n1_ := Aside0.mk (Kd.R_below (Kd.R_elderB (mR HO_3.out) gb117 (Nat.le_of_eq hg.symm)) hb); have n2_ := Aside0.mk (Kd.R_below (Kd.R_elderB (mR HO_8.out) gb117 (Nat.le_of_eq hg.symm)) hb); have n3_ := Aside0.mk (Kept.below (S := (fun k_ => P0_ k_)) (mK HK.out) hb); have n4_ := Aside0.mk (below_step (mB HB.out) hb); have n5_ := Aside0.mk (hbox); have n6_ := Aside0.mk ((by rw [hg]; exact (by first | exact HK.out.1 | exact (show Kept w _ (fun k_ => P0_ k_) from by repeat (first | (with_reducible first | exact HK.out | apply Kept.alloc | apply Kept.drewN | apply Kept.drew) | exact HK.out)).1) : w.heap.size ≤ gb117)); have n7_ := Aside0.mk ((by rw [hg]; exact (below_size (mB HB.out)) : w0.heap.size ≤ gb117)); clear HO_0; clear HO_3; clear HO_8; clear HK; clear HB; have HO_0 := n0_; have HO_3 := n1_; have HO_8 := n2_; have HK := n3_; have HB := n4_; have BK117 := n5_; have GW117 := n6_; have GE117 := n7_; clear n0_ n1_ n2_ n3_ n4_ n5_ n6_ n7_; clear hb hbox hg; have hcz24_0 : w23.cell? ⟨gb117, 0, none⟩ = some (.int .i64 0) := (blk_cell BK117.out 0).trans rfl; have hcz24_1 : w23.cell? ⟨gb117, 1, none⟩ = some (.int .i64 0) := (blk_cell BK117.out 1).trans rfl; have hfz24_0 := blk_frozen BK117.out 0; have hfz24_1 := blk_frozen BK117.out 1; have p118 : 0 ≤ ((ji9) : Int) := oda; have q118 : (ji9) < (t115.length : Int) := oda; obtain ⟨ad118, e118, hx118_0, hx118_1⟩ := at_T40 (Kd.R_reads' HO_0.out).2.2 (ji9) p118 q118; obtain rfl : ad116 = ad118 := (by injection e118); have hn118_0 : ad116.block ≠ gb117 := (by first | exact Kd.own_blk (Kd.R_ne HO_0.out BK117.out (by decide)) | exact Kd.own_blk (Kd.R_away HO_0.out (fun _ h_ => h_.2))); have hn118_1 : ad116.block ≠ gb117 := (by first | exact Kd.own_blk (Kd.R_ne HO_0.out BK117.out (by decide)) | exact Kd.own_blk (Kd.R_away HO_0.out (fun _ h_ => h_.2))); replace hx118_0 := (cell_far (p := ⟨gb117, 0, none⟩) (by first | (rw [add_block]; exact hn118_0) | (show (Addr.add _ _).block ≠ _; rw [add_block]; exact hn118_0) | exact hn118_0) (.int .i64 ((rd_T40 t115 x10_1).f0))).trans hx118_0; replace hx118_1 := (cell_far (p := ⟨gb117, 0, none⟩) (by first | (rw [add_block]; exact hn118_0) | (show (Addr.add _ _).block ≠ _; rw [add_block]; exact hn118_0) | exact hn118_0) (.int .i64 ((rd_T40 t115 x10_1).f0))).trans hx118_1; replace hx118_0 := (cell_far (p := ⟨gb117, 1, none⟩) (by first | (rw [add_block]; exact hn118_1) | (show (Addr.add _ _).block ≠ _; rw [add_block]; exact hn118_1) | exact hn118_1) (.int .i64 ((rd_T40 t115 x10_1).f1))).trans hx118_0; replace hx118_1 := (cell_far (p := ⟨gb117, 1, none⟩) (by first | (rw [add_block]; exact hn118_1) | (show (Addr.add _ _).block ≠ _; rw [add_block]; exact hn118_1) | exact hn118_1) (.int .i64 ((rd_T40 t115 x10_1).f1))).trans hx118_1; (try have hy118_0 := fun (n_ : Nat) => (show ((((w23.drewN n_).setCell ⟨gb117, 0, none⟩ (.int .i64 ((rd_T40 t115 x10_1).f0))).setCell ⟨gb117, 1, none⟩ (.int .i64 ((rd_T40 t115 x10_1).f1)))).cell? _ = some _ from hx118_0)); (try have hy118_1 := fun (n_ : Nat) => (show ((((w23.drewN n_).setCell ⟨gb117, 0, none⟩ (.int .i64 ((rd_T40 t115 x10_1).f0))).setCell ⟨gb117, 1, none⟩ (.int .i64 ((rd_T40 t115 x10_1).f1)))).cell? _ = some _ from hx118_1)); clear hn118_0; clear hn118_1; replace p118 := eq_true p118; replace q118 := eq_true q118; obtain ⟨Ao25, co25, eo25⟩ := Kd.R_slice HO_3.out; subst eo25; have p119 : 0 ≤ ((ji15) : Int) := oda; have q119 : (ji15) < (x3_1.length : Int) := oda; obtain ⟨ad119, e119, hx119_0, hx119_1⟩ := at_T40 (Kd.R_reads' HO_3.out).2.2 (ji15) p119 q119; cases e119; have hn119_0 : ad119.block ≠ gb117 := (by first | exact Kd.own_blk (Kd.R_ne HO_3.out BK117.out (by decide)) | exact Kd.own_blk (Kd.R_away HO_3.out (fun _ h_ => h_.2))); have hn119_1 : ad119.block ≠ gb117 := (by first | exact Kd.own_blk (Kd.R_ne HO_3.out BK117.out (by decide)) | exact Kd.own_blk (Kd.R_away HO_3.out (fun _ h_ => h_.2))); replace hx119_0 := (cell_far (p := ⟨gb117, 0, none⟩) (by first | (rw [add_block]; exact hn119_0) | (show (Addr.add _ _).block ≠ _; rw [add_block]; exact hn119_0) | exact hn119_0) (.int .i64 ((rd_T40 t115 x10_1).f0))).trans hx119_0; replace hx119_1 := (cell_far (p := ⟨gb117, 0, none⟩) (by first | (rw [add_block]; exact hn119_0) | (show (Addr.add _ _).block ≠ _; rw [add_block]; exact hn119_0) | exact hn119_0) (.int .i64 ((rd_T40 t115 x10_1).f0))).trans hx119_1; replace hx119_0 := (cell_far (p := ⟨gb117, 1, none⟩) (by first | (rw [add_block]; exact hn119_1) | (show (Addr.add _ _).block ≠ _; rw [add_block]; exact hn119_1) | exact hn119_1) (.int .i64 ((rd_T40 t115 x10_1).f1))).trans hx119_0; replace hx119_1 := (cell_far (p := ⟨gb117, 1, none⟩) (by first | (rw [add_block]; exact hn119_1) | (show (Addr.add _ _).block ≠ _; rw [add_block]; exact hn119_1) | exact hn119_1) (.int .i64 ((rd_T40 t115 x10_1).f1))).trans hx119_1; (try have hy119_0 := fun (n_ : Nat) => (show ((((w23.drewN n_).setCell ⟨gb117, 0, none⟩ (.int .i64 ((rd_T40 t115 x10_1).f0))).setCell ⟨gb117, 1, none⟩ (.int .i64 ((rd_T40 t115 x10_1).f1)))).cell? _ = some _ from hx119_0)); (try have hy119_1 := fun (n_ : Nat) => (show ((((w23.drewN n_).setCell ⟨gb117, 0, none⟩ (.int .i64 ((rd_T40 t115 x10_1).f0))).setCell ⟨gb117, 1, none⟩ (.int .i64 ((rd_T40 t115 x10_1).f1)))).cell? _ = some _ from hx119_1)); clear hn119_0; clear hn119_1; replace p119 := eq_true p119; replace q119 := eq_true q119) | ((with_reducible refine gate_builtin (b := .append) (xs := #[.tmp 48, .tmp 50]) rfl ?_); (try (refine gate_guard (by rfl) ?_; dsimp only)); at_builtin; refine Kd.R_append k40 (w0 := w0) w0.heap.size rfl (.tmp 48) (.tmp 50) 25 40 (.agg #[(.int .i64 0), (.int .i64 0)]) 16 rfl Try.underlying25 info40 rfl (by decide) (by omega) (.slice (some ad119) x3_1.length co25) x3_1 (⟨(rd_T40 t115 x10_1).f0, (rd_T40 t115 x10_1).f1⟩ : S40) [.int .i64 ((rd_T40 t115 x10_1).f0), .int .i64 ((rd_T40 t115 x10_1).f1)] (fun k_ => (P0_ k_ ∨ w.heap.size ≤ k_) ∧ some k_ ≠ (.slice (some ad116) t115.length co3 : Value).ownBlock ∧ some k_ ≠ (.slice (some ad116) t115.length co3 : Value).ownBlock ∧ k_ ≠ gb117) (fun _ => False) rfl (by first | (go_simp; done) | (go_simp; rfl)) ?aP (fun _ hk => hk.elim) ?aF ?aO ?aB ?aS ?aL ?_; (case aP => exact k40_mkM _ _ _ (⟨(rd_T40 t115 x10_1).f0, (rd_T40 t115 x10_1).f1⟩ : S40)); (case aB => exact (mBs HB.out)); (case aF => exact (fun k_ hk => ⟨(.inr (Nat.le_trans (show Kept w _ (fun k_ => P0_ k_) from by repeat (first | (with_reducible first | exact HK.out | apply Kept.alloc | apply Kept.drewN | apply Kept.drew | refine Kept.setCell ?_ (.inr GW117.out) _) | exact HK.out)).1 hk)), Kd.fresh' (Kd.R_lt (by (with_reducible repeat (first | apply Kd.R_alloc | apply Kd.R_drewN | apply Kd.R_drew)); exact (Kd.R_mono (Kd.R_far (p := ⟨gb117, 1, none⟩) (Kd.R_far (p := ⟨gb117, 0, none⟩) (Kd.R_mono HO_0.out (fun k_ hk => (⟨hk, hk.2⟩ : _ ∧ k_ ≠ gb117))) (fun _ hk => hk.2) (.int .i64 ((rd_T40 t115 x10_1).f0))) (fun _ hk => hk.2) (.int .i64 ((rd_T40 t115 x10_1).f1))) (fun _ h_ => h_.1)))) k_ hk, Kd.fresh' (Kd.R_lt (by (with_reducible repeat (first | apply Kd.R_alloc | apply Kd.R_drewN | apply Kd.R_drew)); exact (Kd.R_mono (Kd.R_far (p := ⟨gb117, 1, none⟩) (Kd.R_far (p := ⟨gb117, 0, none⟩) (Kd.R_mono HO_8.out (fun k_ hk => (⟨hk, hk.2⟩ : _ ∧ k_ ≠ gb117))) (fun _ hk => hk.2) (.int .i64 ((rd_T40 t115 x10_1).f0))) (fun _ hk => hk.2) (.int .i64 ((rd_T40 t115 x10_1).f1))) (fun _ h_ => h_.1)))) k_ hk, Kd.freshB (g := gb117) (o := .cells #[.int .i64 ((rd_T40 t115 x10_1).f0), .int .i64 ((rd_T40 t115 x10_1).f1)] 40 (0, 0)) (by (with_reducible repeat (first | refine blk_drewN ?_ _ | refine blk_drew ?_ | refine blk_alloc ?_ _)); refine blk_put (cs := #[.int .i64 ((rd_T40 t115 x10_1).f0), .int .i64 0]) ?_ 1 _ rfl; (with_reducible repeat (first | refine blk_drewN ?_ _ | refine blk_drew ?_ | refine blk_alloc ?_ _)); refine blk_put (cs := #[.int .i64 0, .int .i64 0]) ?_ 0 _ rfl; (with_reducible repeat (first | refine blk_drewN ?_ _ | refine blk_drew ?_ | refine blk_alloc ?_ _)); exact BK117.out) k_ hk⟩)); (case aO => exact (by (with_reducible repeat (first | apply Kd.R_alloc | apply Kd.R_drewN | apply Kd.R_drew)); exact Kd.R_mono (Kd.R_far (p := ⟨gb117, 1, none⟩) (Kd.R_far (p := ⟨gb117, 0, none⟩) (Kd.R_mono HO_3.out (fun k_ hk => (⟨hk, hk.2⟩ : _ ∧ k_ ≠ gb117))) (fun _ hk => hk.2) (.int .i64 ((rd_T40 t115 x10_1).f0))) (fun _ hk => hk.2) (.int .i64 ((rd_T40 t115 x10_1).f1))) (fun _ hk => ⟨hk.1.1.1, ⟨hk.1.1.2.1, ⟨hk.1.1.2.2, hk.1.2⟩⟩⟩))); (case aS => exact (below_size (mBs HB.out))); (case aL => have := LMc22.out; omega); intro v121 w26 ho hb hg hat; rw [← Ny120.out] at ho; have n0_ := Aside0.mk (Kd.R_after (ok := (fun k_ => (P0_ k_ ∨ w.heap.size ≤ k_) ∧ k_ ≠ gb117)) (by (with_reducible repeat (first | apply Kd.R_alloc | apply Kd.R_drewN | apply Kd.R_drew)); exact Kd.R_mono (Kd.R_far (p := ⟨gb117, 1, none⟩) (Kd.R_far (p := ⟨gb117, 0, none⟩) (Kd.R_mono HO_0.out (fun k_ hk => (⟨hk, hk.2⟩ : _ ∧ k_ ≠ gb117))) (fun _ hk => hk.2) (.int .i64 ((rd_T40 t115 x10_1).f0))) (fun _ hk => hk.2) (.int .i64 ((rd_T40 t115 x10_1).f1))) (fun _ hk => ⟨⟨hk.1.1.1, hk.1.2⟩, hk.1.1.2⟩)) hg hat); have n1_ := Aside0.mk (Kd.R_after (ok := (fun k_ => (P0_ k_ ∨ w.heap.size ≤ k_) ∧ k_ ≠ gb117)) (by (with_reducible repeat (first | apply Kd.R_alloc | apply Kd.R_drewN | apply Kd.R_drew)); exact Kd.R_mono (Kd.R_far (p := ⟨gb117, 1, none⟩) (Kd.R_far (p := ⟨gb117, 0, none⟩) (Kd.R_mono HO_8.out (fun k_ hk => (⟨hk, hk.2⟩ : _ ∧ k_ ≠ gb117))) (fun _ hk => hk.2) (.int .i64 ((rd_T40 t115 x10_1).f0))) (fun _ hk => hk.2) (.int .i64 ((rd_T40 t115 x10_1).f1))) (fun _ hk => ⟨⟨hk.1.1.1, hk.1.2⟩, hk.1.1.2⟩)) hg hat); have n2_ := Aside0.mk (blk_grown (g := gb117) (o := .cells #[.int .i64 ((rd_T40 t115 x10_1).f0), .int .i64 ((rd_T40 t115 x10_1).f1)] 40 (0, 0)) (by (with_reducible repeat (first | refine blk_drewN ?_ _ | refine blk_drew ?_ | refine blk_alloc ?_ _)); refine blk_put (cs := #[.int .i64 ((rd_T40 t115 x10_1).f0), .int .i64 0]) ?_ 1 _ rfl; (with_reducible repeat (first | refine blk_drewN ?_ _ | refine blk_drew ?_ | refine blk_alloc ?_ _)); refine blk_put (cs := #[.int .i64 0, .int .i64 0]) ?_ 0 _ rfl; (with_reducible repeat (first | refine blk_drewN ?_ _ | refine blk_drew ?_ | refine blk_alloc ?_ _)); exact BK117.out) hg (Kd.R_away HO_3.out (fun _ hk => hk.2))); have n3_ := Aside0.mk (hb); have n4_ := Aside0.mk (Kept.of_grown (S := (fun k_ => P0_ k_)) hg (by repeat (first | (with_reducible first | exact HK.out | apply Kept.alloc | apply Kept.drewN | apply Kept.drew | refine Kept.setCell ?_ (.inr GW117.out) _) | exact HK.out)) (fun k_ e_ => (HO_3.out.1 k_ e_).1.1)); have n5_ := Aside0.mk (ho); clear HO_0; clear HO_8; clear BK117; clear HB; clear HK; clear HO_3; have HO_0 := n0_; have HO_8 := n1_; have BK117 := n2_; have HB := n3_; have HK := n4_; have HO122 := n5_; clear n0_ n1_ n2_ n3_ n4_ n5_; clear ho hb hg hat)))
              (try simp only [← hl0_1])
              go_roundg k1
              case measure => have := HK1.out; omega
              case rel => exact ⟨(y120), (ji9), (by first | rfl | (simp; done) | (simp only [← hji9] <;> (first | rfl | simp)) | (simp [*]; done)), H', ⟨by have := HK1.out; omega⟩, ⟨by (try simp only [hl0_1]); (try simp only [hl8_1]); (with_reducible repeat (first | apply Kd.R_alloc | apply Kd.R_drewN | apply Kd.R_drew)); exact Kd.R_mono HO_0.out (fun _ hk => ⟨hk.1.1, hk.2⟩)⟩, ⟨by (try simp only [hl0_1]); (try simp only [hl8_1]); (with_reducible repeat (first | apply Kd.R_alloc | apply Kd.R_drewN | apply Kd.R_drew)); exact Kd.R_mono HO122.out (fun _ hk => ⟨hk.1, ⟨hk.2.1, hk.2.2.1⟩⟩)⟩, ⟨by (try simp only [hl0_1]); (try simp only [hl8_1]); (with_reducible repeat (first | apply Kd.R_alloc | apply Kd.R_drewN | apply Kd.R_drew)); exact Kd.R_mono HO_8.out (fun _ hk => ⟨hk.1.1, hk.2⟩)⟩, ⟨by repeat (first | (with_reducible first | exact HK.out | apply Kept.alloc | apply Kept.drewN | apply Kept.drew | refine Kept.setCell ?_ (.inr GW117.out) _) | exact HK.out)⟩, ⟨mBs HB.out⟩⟩
             ·rw [if_neg c22] at H
              exact absurd H (by simp)
           ·rw [if_neg c17] at H
            exact absurd H (by simp)
          ·rw [if_neg c16] at H
           exact absurd H (by simp)
         ·rw [if_neg c14] at H
          have c14b0 : decide (0 < (x3_1.length : Int)) = false := decide_eq_false c14
          have c14b1 : decide (0 < x3_1.length) = false := decide_eq_false (by omega)
          clear c14
          by_cases c27 : x3_1.length < 8796093022208
          ·rw [if_pos c27] at H
           have LMc27 := Aside0.mk c27
           clear c27
           obtain ⟨y123, hy123⟩ : ∃ y_ : List (S40), y_ = (x3_1 ++ [(⟨(rd_T40 t115 x10_1).f0, (rd_T40 t115 x10_1).f1⟩ : S40)]) := ⟨_, rfl⟩
           replace H : (profile_tidy.l0 k1 t115 y123 t115 (l0.length : Int) ji9) = some (r1, r2) := mH hy123 H
           have Ny123 := Aside0.mk hy123
           clear hy123
           have H' := Aside0.mk H
           clear H
           have p116 : 0 ≤ (x10_1 : Int) := oda
           have q116 : x10_1 < (t115.length : Int) := oda
           obtain ⟨ad116, e116, hx116_0, hx116_1⟩ := at_T40 (Kd.R_reads' HO_8.out).2.2 x10_1 p116 q116
           cases e116
           replace p116 := eq_true p116
           replace q116 := eq_true q116
           go_wp2_with (first | ((with_reducible refine gate_dst (N := 5) rfl ?_); (try (refine gate_guard (by rfl) ?_; dsimp only)); refine box_event ?hg (N := 5) ?hd (cs := #[.int .i64 0, .int .i64 0]) (t := 40) ?hr ?_; (case hd => rfl); (case hg => rfl); (case hr => first | (go_simp; done) | (go_simp; rfl)); intro gb117 hg w28 hbox hb; have n0_ := Aside0.mk (Kd.R_below (Kd.R_elderB (mR HO_0.out) gb117 (Nat.le_of_eq hg.symm)) hb); have n1_ := Aside0.mk (Kd.R_below (Kd.R_elderB (mR HO_3.out) gb117 (Nat.le_of_eq hg.symm)) hb); have n2_ := Aside0.mk (Kd.R_below (Kd.R_elderB (mR HO_8.out) gb117 (Nat.le_of_eq hg.symm)) hb); have n3_ := Aside0.mk (Kept.below (S := (fun k_ => P0_ k_)) (mK HK.out) hb); have n4_ := Aside0.mk (below_step (mB HB.out) hb); have n5_ := Aside0.mk (hbox); have n6_ := Aside0.mk ((by rw [hg]; exact (by first | exact HK.out.1 | exact (show Kept w _ (fun k_ => P0_ k_) from by repeat (first | (with_reducible first | exact HK.out | apply Kept.alloc | apply Kept.drewN | apply Kept.drew) | exact HK.out)).1) : w.heap.size ≤ gb117)); have n7_ := Aside0.mk ((by rw [hg]; exact (below_size (mB HB.out)) : w0.heap.size ≤ gb117)); clear HO_0; clear HO_3; clear HO_8; clear HK; clear HB; have HO_0 := n0_; have HO_3 := n1_; have HO_8 := n2_; have HK := n3_; have HB := n4_; have BK117 := n5_; have GW117 := n6_; have GE117 := n7_; clear n0_ n1_ n2_ n3_ n4_ n5_ n6_ n7_; clear hb hbox hg; have hcz29_0 : w28.cell? ⟨gb117, 0, none⟩ = some (.int .i64 0) := (blk_cell BK117.out 0).trans rfl; have hcz29_1 : w28.cell? ⟨gb117, 1, none⟩ = some (.int .i64 0) := (blk_cell BK117.out 1).trans rfl; have hfz29_0 := blk_frozen BK117.out 0; have hfz29_1 := blk_frozen BK117.out 1; have p118 : 0 ≤ ((ji9) : Int) := oda; have q118 : (ji9) < (t115.length : Int) := oda; obtain ⟨ad118, e118, hx118_0, hx118_1⟩ := at_T40 (Kd.R_reads' HO_0.out).2.2 (ji9) p118 q118; obtain rfl : ad116 = ad118 := (by injection e118); have hn118_0 : ad116.block ≠ gb117 := (by first | exact Kd.own_blk (Kd.R_ne HO_0.out BK117.out (by decide)) | exact Kd.own_blk (Kd.R_away HO_0.out (fun _ h_ => h_.2))); have hn118_1 : ad116.block ≠ gb117 := (by first | exact Kd.own_blk (Kd.R_ne HO_0.out BK117.out (by decide)) | exact Kd.own_blk (Kd.R_away HO_0.out (fun _ h_ => h_.2))); replace hx118_0 := (cell_far (p := ⟨gb117, 0, none⟩) (by first | (rw [add_block]; exact hn118_0) | (show (Addr.add _ _).block ≠ _; rw [add_block]; exact hn118_0) | exact hn118_0) (.int .i64 ((rd_T40 t115 x10_1).f0))).trans hx118_0; replace hx118_1 := (cell_far (p := ⟨gb117, 0, none⟩) (by first | (rw [add_block]; exact hn118_0) | (show (Addr.add _ _).block ≠ _; rw [add_block]; exact hn118_0) | exact hn118_0) (.int .i64 ((rd_T40 t115 x10_1).f0))).trans hx118_1; replace hx118_0 := (cell_far (p := ⟨gb117, 1, none⟩) (by first | (rw [add_block]; exact hn118_1) | (show (Addr.add _ _).block ≠ _; rw [add_block]; exact hn118_1) | exact hn118_1) (.int .i64 ((rd_T40 t115 x10_1).f1))).trans hx118_0; replace hx118_1 := (cell_far (p := ⟨gb117, 1, none⟩) (by first | (rw [add_block]; exact hn118_1) | (show (Addr.add _ _).block ≠ _; rw [add_block]; exact hn118_1) | exact hn118_1) (.int .i64 ((rd_T40 t115 x10_1).f1))).trans hx118_1; (try have hy118_0 := fun (n_ : Nat) => (show ((((w28.drewN n_).setCell ⟨gb117, 0, none⟩ (.int .i64 ((rd_T40 t115 x10_1).f0))).setCell ⟨gb117, 1, none⟩ (.int .i64 ((rd_T40 t115 x10_1).f1)))).cell? _ = some _ from hx118_0)); (try have hy118_1 := fun (n_ : Nat) => (show ((((w28.drewN n_).setCell ⟨gb117, 0, none⟩ (.int .i64 ((rd_T40 t115 x10_1).f0))).setCell ⟨gb117, 1, none⟩ (.int .i64 ((rd_T40 t115 x10_1).f1)))).cell? _ = some _ from hx118_1)); clear hn118_0; clear hn118_1; replace p118 := eq_true p118; replace q118 := eq_true q118; obtain ⟨Ao30, co30, eo30⟩ := Kd.R_slice HO_3.out; subst eo30) | ((with_reducible refine gate_builtin (b := .append) (xs := #[.tmp 48, .tmp 50]) rfl ?_); (try (refine gate_guard (by rfl) ?_; dsimp only)); at_builtin; refine Kd.R_append k40 (w0 := w0) w0.heap.size rfl (.tmp 48) (.tmp 50) 25 40 (.agg #[(.int .i64 0), (.int .i64 0)]) 16 rfl Try.underlying25 info40 rfl (by decide) (by omega) (.slice Ao30 x3_1.length co30) x3_1 (⟨(rd_T40 t115 x10_1).f0, (rd_T40 t115 x10_1).f1⟩ : S40) [.int .i64 ((rd_T40 t115 x10_1).f0), .int .i64 ((rd_T40 t115 x10_1).f1)] (fun k_ => (P0_ k_ ∨ w.heap.size ≤ k_) ∧ some k_ ≠ (.slice (some ad116) t115.length co3 : Value).ownBlock ∧ some k_ ≠ (.slice (some ad116) t115.length co3 : Value).ownBlock ∧ k_ ≠ gb117) (fun _ => False) rfl (by first | (go_simp; done) | (go_simp; rfl)) ?aP (fun _ hk => hk.elim) ?aF ?aO ?aB ?aS ?aL ?_; (case aP => exact k40_mkM _ _ _ (⟨(rd_T40 t115 x10_1).f0, (rd_T40 t115 x10_1).f1⟩ : S40)); (case aB => exact (mBs HB.out)); (case aF => exact (fun k_ hk => ⟨(.inr (Nat.le_trans (show Kept w _ (fun k_ => P0_ k_) from by repeat (first | (with_reducible first | exact HK.out | apply Kept.alloc | apply Kept.drewN | apply Kept.drew | refine Kept.setCell ?_ (.inr GW117.out) _) | exact HK.out)).1 hk)), Kd.fresh' (Kd.R_lt (by (with_reducible repeat (first | apply Kd.R_alloc | apply Kd.R_drewN | apply Kd.R_drew)); exact (Kd.R_mono (Kd.R_far (p := ⟨gb117, 1, none⟩) (Kd.R_far (p := ⟨gb117, 0, none⟩) (Kd.R_mono HO_0.out (fun k_ hk => (⟨hk, hk.2⟩ : _ ∧ k_ ≠ gb117))) (fun _ hk => hk.2) (.int .i64 ((rd_T40 t115 x10_1).f0))) (fun _ hk => hk.2) (.int .i64 ((rd_T40 t115 x10_1).f1))) (fun _ h_ => h_.1)))) k_ hk, Kd.fresh' (Kd.R_lt (by (with_reducible repeat (first | apply Kd.R_alloc | apply Kd.R_drewN | apply Kd.R_drew)); exact (Kd.R_mono (Kd.R_far (p := ⟨gb117, 1, none⟩) (Kd.R_far (p := ⟨gb117, 0, none⟩) (Kd.R_mono HO_8.out (fun k_ hk => (⟨hk, hk.2⟩ : _ ∧ k_ ≠ gb117))) (fun _ hk => hk.2) (.int .i64 ((rd_T40 t115 x10_1).f0))) (fun _ hk => hk.2) (.int .i64 ((rd_T40 t115 x10_1).f1))) (fun _ h_ => h_.1)))) k_ hk, Kd.freshB (g := gb117) (o := .cells #[.int .i64 ((rd_T40 t115 x10_1).f0), .int .i64 ((rd_T40 t115 x10_1).f1)] 40 (0, 0)) (by (with_reducible repeat (first | refine blk_drewN ?_ _ | refine blk_drew ?_ | refine blk_alloc ?_ _)); refine blk_put (cs := #[.int .i64 ((rd_T40 t115 x10_1).f0), .int .i64 0]) ?_ 1 _ rfl; (with_reducible repeat (first | refine blk_drewN ?_ _ | refine blk_drew ?_ | refine blk_alloc ?_ _)); refine blk_put (cs := #[.int .i64 0, .int .i64 0]) ?_ 0 _ rfl; (with_reducible repeat (first | refine blk_drewN ?_ _ | refine blk_drew ?_ | refine blk_alloc ?_ _)); exact BK117.out) k_ hk⟩)); (case aO => exact (by (with_reducible repeat (first | apply Kd.R_alloc | apply Kd.R_drewN | apply Kd.R_drew)); exact Kd.R_mono (Kd.R_far (p := ⟨gb117, 1, none⟩) (Kd.R_far (p := ⟨gb117, 0, none⟩) (Kd.R_mono HO_3.out (fun k_ hk => (⟨hk, hk.2⟩ : _ ∧ k_ ≠ gb117))) (fun _ hk => hk.2) (.int .i64 ((rd_T40 t115 x10_1).f0))) (fun _ hk => hk.2) (.int .i64 ((rd_T40 t115 x10_1).f1))) (fun _ hk => ⟨hk.1.1.1, ⟨hk.1.1.2.1, ⟨hk.1.1.2.2, hk.1.2⟩⟩⟩))); (case aS => exact (below_size (mBs HB.out))); (case aL => have := LMc27.out; omega); intro v124 w31 ho hb hg hat; rw [← Ny123.out] at ho; have n0_ := Aside0.mk (Kd.R_after (ok := (fun k_ => (P0_ k_ ∨ w.heap.size ≤ k_) ∧ k_ ≠ gb117)) (by (with_reducible repeat (first | apply Kd.R_alloc | apply Kd.R_drewN | apply Kd.R_drew)); exact Kd.R_mono (Kd.R_far (p := ⟨gb117, 1, none⟩) (Kd.R_far (p := ⟨gb117, 0, none⟩) (Kd.R_mono HO_0.out (fun k_ hk => (⟨hk, hk.2⟩ : _ ∧ k_ ≠ gb117))) (fun _ hk => hk.2) (.int .i64 ((rd_T40 t115 x10_1).f0))) (fun _ hk => hk.2) (.int .i64 ((rd_T40 t115 x10_1).f1))) (fun _ hk => ⟨⟨hk.1.1.1, hk.1.2⟩, hk.1.1.2⟩)) hg hat); have n1_ := Aside0.mk (Kd.R_after (ok := (fun k_ => (P0_ k_ ∨ w.heap.size ≤ k_) ∧ k_ ≠ gb117)) (by (with_reducible repeat (first | apply Kd.R_alloc | apply Kd.R_drewN | apply Kd.R_drew)); exact Kd.R_mono (Kd.R_far (p := ⟨gb117, 1, none⟩) (Kd.R_far (p := ⟨gb117, 0, none⟩) (Kd.R_mono HO_8.out (fun k_ hk => (⟨hk, hk.2⟩ : _ ∧ k_ ≠ gb117))) (fun _ hk => hk.2) (.int .i64 ((rd_T40 t115 x10_1).f0))) (fun _ hk => hk.2) (.int .i64 ((rd_T40 t115 x10_1).f1))) (fun _ hk => ⟨⟨hk.1.1.1, hk.1.2⟩, hk.1.1.2⟩)) hg hat); have n2_ := Aside0.mk (blk_grown (g := gb117) (o := .cells #[.int .i64 ((rd_T40 t115 x10_1).f0), .int .i64 ((rd_T40 t115 x10_1).f1)] 40 (0, 0)) (by (with_reducible repeat (first | refine blk_drewN ?_ _ | refine blk_drew ?_ | refine blk_alloc ?_ _)); refine blk_put (cs := #[.int .i64 ((rd_T40 t115 x10_1).f0), .int .i64 0]) ?_ 1 _ rfl; (with_reducible repeat (first | refine blk_drewN ?_ _ | refine blk_drew ?_ | refine blk_alloc ?_ _)); refine blk_put (cs := #[.int .i64 0, .int .i64 0]) ?_ 0 _ rfl; (with_reducible repeat (first | refine blk_drewN ?_ _ | refine blk_drew ?_ | refine blk_alloc ?_ _)); exact BK117.out) hg (Kd.R_away HO_3.out (fun _ hk => hk.2))); have n3_ := Aside0.mk (hb); have n4_ := Aside0.mk (Kept.of_grown (S := (fun k_ => P0_ k_)) hg (by repeat (first | (with_reducible first | exact HK.out | apply Kept.alloc | apply Kept.drewN | apply Kept.drew | refine Kept.setCell ?_ (.inr GW117.out) _) | exact HK.out)) (fun k_ e_ => (HO_3.out.1 k_ e_).1.1)); have n5_ := Aside0.mk (ho); clear HO_0; clear HO_8; clear BK117; clear HB; clear HK; clear HO_3; have HO_0 := n0_; have HO_8 := n1_; have BK117 := n2_; have HB := n3_; have HK := n4_; have HO125 := n5_; clear n0_ n1_ n2_ n3_ n4_ n5_; clear ho hb hg hat))
           repeat (go_quiet (fail); try go_wp2_with (first | ((with_reducible refine gate_dst (N := 5) rfl ?_); (try (refine gate_guard (by rfl) ?_; dsimp only)); refine box_event ?hg (N := 5) ?hd (cs := #[.int .i64 0, .int .i64 0]) (t := 40) ?hr ?_; (case hd => rfl); (case hg => rfl); (case hr => first | (go_simp; done) | (go_simp; rfl)); intro gb117 hg w28 hbox hb; have n0_ := Aside0.mk (Kd.R_below (Kd.R_elderB (mR HO_0.out) gb117 (Nat.le_of_eq hg.symm)) hb); have n1_ := Aside0.mk (Kd.R_below (Kd.R_elderB (mR HO_3.out) gb117 (Nat.le_of_eq hg.symm)) hb); have n2_ := Aside0.mk (Kd.R_below (Kd.R_elderB (mR HO_8.out) gb117 (Nat.le_of_eq hg.symm)) hb); have n3_ := Aside0.mk (Kept.below (S := (fun k_ => P0_ k_)) (mK HK.out) hb); have n4_ := Aside0.mk (below_step (mB HB.out) hb); have n5_ := Aside0.mk (hbox); have n6_ := Aside0.mk ((by rw [hg]; exact (by first | exact HK.out.1 | exact (show Kept w _ (fun k_ => P0_ k_) from by repeat (first | (with_reducible first | exact HK.out | apply Kept.alloc | apply Kept.drewN | apply Kept.drew) | exact HK.out)).1) : w.heap.size ≤ gb117)); have n7_ := Aside0.mk ((by rw [hg]; exact (below_size (mB HB.out)) : w0.heap.size ≤ gb117)); clear HO_0; clear HO_3; clear HO_8; clear HK; clear HB; have HO_0 := n0_; have HO_3 := n1_; have HO_8 := n2_; have HK := n3_; have HB := n4_; have BK117 := n5_; have GW117 := n6_; have GE117 := n7_; clear n0_ n1_ n2_ n3_ n4_ n5_ n6_ n7_; clear hb hbox hg; have hcz29_0 : w28.cell? ⟨gb117, 0, none⟩ = some (.int .i64 0) := (blk_cell BK117.out 0).trans rfl; have hcz29_1 : w28.cell? ⟨gb117, 1, none⟩ = some (.int .i64 0) := (blk_cell BK117.out 1).trans rfl; have hfz29_0 := blk_frozen BK117.out 0; have hfz29_1 := blk_frozen BK117.out 1; have p118 : 0 ≤ ((ji9) : Int) := oda; have q118 : (ji9) < (t115.length : Int) := oda; obtain ⟨ad118, e118, hx118_0, hx118_1⟩ := at_T40 (Kd.R_reads' HO_0.out).2.2 (ji9) p118 q118; obtain rfl : ad116 = ad118 := (by injection e118); have hn118_0 : ad116.block ≠ gb117 := (by first | exact Kd.own_blk (Kd.R_ne HO_0.out BK117.out (by decide)) | exact Kd.own_blk (Kd.R_away HO_0.out (fun _ h_ => h_.2))); have hn118_1 : ad116.block ≠ gb117 := (by first | exact Kd.own_blk (Kd.R_ne HO_0.out BK117.out (by decide)) | exact Kd.own_blk (Kd.R_away HO_0.out (fun _ h_ => h_.2))); replace hx118_0 := (cell_far (p := ⟨gb117, 0, none⟩) (by first | (rw [add_block]; exact hn118_0) | (show (Addr.add _ _).block ≠ _; rw [add_block]; exact hn118_0) | exact hn118_0) (.int .i64 ((rd_T40 t115 x10_1).f0))).trans hx118_0; replace hx118_1 := (cell_far (p := ⟨gb117, 0, none⟩) (by first | (rw [add_block]; exact hn118_0) | (show (Addr.add _ _).block ≠ _; rw [add_block]; exact hn118_0) | exact hn118_0) (.int .i64 ((rd_T40 t115 x10_1).f0))).trans hx118_1; replace hx118_0 := (cell_far (p := ⟨gb117, 1, none⟩) (by first | (rw [add_block]; exact hn118_1) | (show (Addr.add _ _).block ≠ _; rw [add_block]; exact hn118_1) | exact hn118_1) (.int .i64 ((rd_T40 t115 x10_1).f1))).trans hx118_0; replace hx118_1 := (cell_far (p := ⟨gb117, 1, none⟩) (by first | (rw [add_block]; exact hn118_1) | (show (Addr.add _ _).block ≠ _; rw [add_block]; exact hn118_1) | exact hn118_1) (.int .i64 ((rd_T40 t115 x10_1).f1))).trans hx118_1; (try have hy118_0 := fun (n_ : Nat) => (show ((((w28.drewN n_).setCell ⟨gb117, 0, none⟩ (.int .i64 ((rd_T40 t115 x10_1).f0))).setCell ⟨gb117, 1, none⟩ (.int .i64 ((rd_T40 t115 x10_1).f1)))).cell? _ = some _ from hx118_0)); (try have hy118_1 := fun (n_ : Nat) => (show ((((w28.drewN n_).setCell ⟨gb117, 0, none⟩ (.int .i64 ((rd_T40 t115 x10_1).f0))).setCell ⟨gb117, 1, none⟩ (.int .i64 ((rd_T40 t115 x10_1).f1)))).cell? _ = some _ from hx118_1)); clear hn118_0; clear hn118_1; replace p118 := eq_true p118; replace q118 := eq_true q118; obtain ⟨Ao30, co30, eo30⟩ := Kd.R_slice HO_3.out; subst eo30) | ((with_reducible refine gate_builtin (b := .append) (xs := #[.tmp 48, .tmp 50]) rfl ?_); (try (refine gate_guard (by rfl) ?_; dsimp only)); at_builtin; refine Kd.R_append k40 (w0 := w0) w0.heap.size rfl (.tmp 48) (.tmp 50) 25 40 (.agg #[(.int .i64 0), (.int .i64 0)]) 16 rfl Try.underlying25 info40 rfl (by decide) (by omega) (.slice Ao30 x3_1.length co30) x3_1 (⟨(rd_T40 t115 x10_1).f0, (rd_T40 t115 x10_1).f1⟩ : S40) [.int .i64 ((rd_T40 t115 x10_1).f0), .int .i64 ((rd_T40 t115 x10_1).f1)] (fun k_ => (P0_ k_ ∨ w.heap.size ≤ k_) ∧ some k_ ≠ (.slice (some ad116) t115.length co3 : Value).ownBlock ∧ some k_ ≠ (.slice (some ad116) t115.length co3 : Value).ownBlock ∧ k_ ≠ gb117) (fun _ => False) rfl (by first | (go_simp; done) | (go_simp; rfl)) ?aP (fun _ hk => hk.elim) ?aF ?aO ?aB ?aS ?aL ?_; (case aP => exact k40_mkM _ _ _ (⟨(rd_T40 t115 x10_1).f0, (rd_T40 t115 x10_1).f1⟩ : S40)); (case aB => exact (mBs HB.out)); (case aF => exact (fun k_ hk => ⟨(.inr (Nat.le_trans (show Kept w _ (fun k_ => P0_ k_) from by repeat (first | (with_reducible first | exact HK.out | apply Kept.alloc | apply Kept.drewN | apply Kept.drew | refine Kept.setCell ?_ (.inr GW117.out) _) | exact HK.out)).1 hk)), Kd.fresh' (Kd.R_lt (by (with_reducible repeat (first | apply Kd.R_alloc | apply Kd.R_drewN | apply Kd.R_drew)); exact (Kd.R_mono (Kd.R_far (p := ⟨gb117, 1, none⟩) (Kd.R_far (p := ⟨gb117, 0, none⟩) (Kd.R_mono HO_0.out (fun k_ hk => (⟨hk, hk.2⟩ : _ ∧ k_ ≠ gb117))) (fun _ hk => hk.2) (.int .i64 ((rd_T40 t115 x10_1).f0))) (fun _ hk => hk.2) (.int .i64 ((rd_T40 t115 x10_1).f1))) (fun _ h_ => h_.1)))) k_ hk, Kd.fresh' (Kd.R_lt (by (with_reducible repeat (first | apply Kd.R_alloc | apply Kd.R_drewN | apply Kd.R_drew)); exact (Kd.R_mono (Kd.R_far (p := ⟨gb117, 1, none⟩) (Kd.R_far (p := ⟨gb117, 0, none⟩) (Kd.R_mono HO_8.out (fun k_ hk => (⟨hk, hk.2⟩ : _ ∧ k_ ≠ gb117))) (fun _ hk => hk.2) (.int .i64 ((rd_T40 t115 x10_1).f0))) (fun _ hk => hk.2) (.int .i64 ((rd_T40 t115 x10_1).f1))) (fun _ h_ => h_.1)))) k_ hk, Kd.freshB (g := gb117) (o := .cells #[.int .i64 ((rd_T40 t115 x10_1).f0), .int .i64 ((rd_T40 t115 x10_1).f1)] 40 (0, 0)) (by (with_reducible repeat (first | refine blk_drewN ?_ _ | refine blk_drew ?_ | refine blk_alloc ?_ _)); refine blk_put (cs := #[.int .i64 ((rd_T40 t115 x10_1).f0), .int .i64 0]) ?_ 1 _ rfl; (with_reducible repeat (first | refine blk_drewN ?_ _ | refine blk_drew ?_ | refine blk_alloc ?_ _)); refine blk_put (cs := #[.int .i64 0, .int .i64 0]) ?_ 0 _ rfl; (with_reducible repeat (first | refine blk_drewN ?_ _ | refine blk_drew ?_ | refine blk_alloc ?_ _)); exact BK117.out) k_ hk⟩)); (case aO => exact (by (with_reducible repeat (first | apply Kd.R_alloc | apply Kd.R_drewN | apply Kd.R_drew)); exact Kd.R_mono (Kd.R_far (p := ⟨gb117, 1, none⟩) (Kd.R_far (p := ⟨gb117, 0, none⟩) (Kd.R_mono HO_3.out (fun k_ hk => (⟨hk, hk.2⟩ : _ ∧ k_ ≠ gb117))) (fun _ hk => hk.2) (.int .i64 ((rd_T40 t115 x10_1).f0))) (fun _ hk => hk.2) (.int .i64 ((rd_T40 t115 x10_1).f1))) (fun _ hk => ⟨hk.1.1.1, ⟨hk.1.1.2.1, ⟨hk.1.1.2.2, hk.1.2⟩⟩⟩))); (case aS => exact (below_size (mBs HB.out))); (case aL => have := LMc27.out; omega); intro v124 w31 ho hb hg hat; rw [← Ny123.out] at ho; have n0_ := Aside0.mk (Kd.R_after (ok := (fun k_ => (P0_ k_ ∨ w.heap.size ≤ k_) ∧ k_ ≠ gb117)) (by (with_reducible repeat (first | apply Kd.R_alloc | apply Kd.R_drewN | apply Kd.R_drew)); exact Kd.R_mono (Kd.R_far (p := ⟨gb117, 1, none⟩) (Kd.R_far (p := ⟨gb117, 0, none⟩) (Kd.R_mono HO_0.out (fun k_ hk => (⟨hk, hk.2⟩ : _ ∧ k_ ≠ gb117))) (fun _ hk => hk.2) (.int .i64 ((rd_T40 t115 x10_1).f0))) (fun _ hk => hk.2) (.int .i64 ((rd_T40 t115 x10_1).f1))) (fun _ hk => ⟨⟨hk.1.1.1, hk.1.2⟩, hk.1.1.2⟩)) hg hat); have n1_ := Aside0.mk (Kd.R_after (ok := (fun k_ => (P0_ k_ ∨ w.heap.size ≤ k_) ∧ k_ ≠ gb117)) (by (with_reducible repeat (first | apply Kd.R_alloc | apply Kd.R_drewN | apply Kd.R_drew)); exact Kd.R_mono (Kd.R_far (p := ⟨gb117, 1, none⟩) (Kd.R_far (p := ⟨gb117, 0, none⟩) (Kd.R_mono HO_8.out (fun k_ hk => (⟨hk, hk.2⟩ : _ ∧ k_ ≠ gb117))) (fun _ hk => hk.2) (.int .i64 ((rd_T40 t115 x10_1).f0))) (fun _ hk => hk.2) (.int .i64 ((rd_T40 t115 x10_1).f1))) (fun _ hk => ⟨⟨hk.1.1.1, hk.1.2⟩, hk.1.1.2⟩)) hg hat); have n2_ := Aside0.mk (blk_grown (g := gb117) (o := .cells #[.int .i64 ((rd_T40 t115 x10_1).f0), .int .i64 ((rd_T40 t115 x10_1).f1)] 40 (0, 0)) (by (with_reducible repeat (first | refine blk_drewN ?_ _ | refine blk_drew ?_ | refine blk_alloc ?_ _)); refine blk_put (cs := #[.int .i64 ((rd_T40 t115 x10_1).f0), .int .i64 0]) ?_ 1 _ rfl; (with_reducible repeat (first | refine blk_drewN ?_ _ | refine blk_drew ?_ | refine blk_alloc ?_ _)); refine blk_put (cs := #[.int .i64 0, .int .i64 0]) ?_ 0 _ rfl; (with_reducible repeat (first | refine blk_drewN ?_ _ | refine blk_drew ?_ | refine blk_alloc ?_ _)); exact BK117.out) hg (Kd.R_away HO_3.out (fun _ hk => hk.2))); have n3_ := Aside0.mk (hb); have n4_ := Aside0.mk (Kept.of_grown (S := (fun k_ => P0_ k_)) hg (by repeat (first | (with_reducible first | exact HK.out | apply Kept.alloc | apply Kept.drewN | apply Kept.drew | refine Kept.setCell ?_ (.inr GW117.out) _) | exact HK.out)) (fun k_ e_ => (HO_3.out.1 k_ e_).1.1)); have n5_ := Aside0.mk (ho); clear HO_0; clear HO_8; clear BK117; clear HB; clear HK; clear HO_3; have HO_0 := n0_; have HO_8 := n1_; have BK117 := n2_; have HB := n3_; have HK := n4_; have HO125 := n5_; clear n0_ n1_ n2_ n3_ n4_ n5_; clear ho hb hg hat)))
           (try simp only [← hl0_1])
           go_roundg k1
           case measure => have := HK1.out; omega
           case rel => exact ⟨(y123), (ji9), (by first | rfl | (simp; done) | (simp only [← hji9] <;> (first | rfl | simp)) | (simp [*]; done)), H', ⟨by have := HK1.out; omega⟩, ⟨by (try simp only [hl0_1]); (try simp only [hl8_1]); (with_reducible repeat (first | apply Kd.R_alloc | apply Kd.R_drewN | apply Kd.R_drew)); exact Kd.R_mono HO_0.out (fun _ hk => ⟨hk.1.1, hk.2⟩)⟩, ⟨by (try simp only [hl0_1]); (try simp only [hl8_1]); (with_reducible repeat (first | apply Kd.R_alloc | apply Kd.R_drewN | apply Kd.R_drew)); exact Kd.R_mono HO125.out (fun _ hk => ⟨hk.1, ⟨hk.2.1, hk.2.2.1⟩⟩)⟩, ⟨by (try simp only [hl0_1]); (try simp only [hl8_1]); (with_reducible repeat (first | apply Kd.R_alloc | apply Kd.R_drewN | apply Kd.R_drew)); exact Kd.R_mono HO_8.out (fun _ hk => ⟨hk.1.1, hk.2⟩)⟩, ⟨by repeat (first | (with_reducible first | exact HK.out | apply Kept.alloc | apply Kept.drewN | apply Kept.drew | refine Kept.setCell ?_ (.inr GW117.out) _) | exact HK.out)⟩, ⟨mBs HB.out⟩⟩
          ·rw [if_neg c27] at H
           exact absurd H (by simp)
       ·rw [if_neg c10] at H
        exact absurd H (by simp)
      ·rw [if_neg c8] at H
       have c8b0 : decide ((wrap64 (x10_1 + 1)) < (t115.length : Int)) = false := decide_eq_false c8
       clear c8
       by_cases c32 : (x3_1.length : Int) > 0
       ·rw [if_pos c32] at H
        have c32b0 : decide (0 < (x3_1.length : Int)) = true := decide_eq_true c32
        have c32b1 : decide (0 < x3_1.length) = true := decide_eq_true (by omega)
        clear c32
        obtain ⟨ji33, hji33⟩ : ∃ j_ : Int, (wrap64 ((x3_1.length : Int) - 1)) = j_ := ⟨_, rfl⟩
        replace H : (if 0 ≤ (ji33) then (if (ji33) < (x3_1.length : Int) then (if ((rd_T40 x3_1 (ji33)).f1) = ((rd_T40 t115 x10_1).f1) then (profile_tidy.l0 k1 t115 x3_1 t115 (l0.length : Int) (wrap64 (x10_1 + 1))) else (if x3_1.length < 8796093022208 then (profile_tidy.l0 k1 t115 (x3_1 ++ [(⟨(rd_T40 t115 x10_1).f0, (rd_T40 t115 x10_1).f1⟩ : S40)]) t115 (l0.length : Int) (wrap64 (x10_1 + 1))) else (none))) else (none)) else (none)) = some (r1, r2) := by first | (rw [hji33] at H; exact H) | (simp only [hji33] at H ⊢; exact H)
        have hji33w : (IntKind.i64.wrap ((x3_1.length : Int) - 1)) = ji33 := (i64_w _).trans hji33
        by_cases c34 : 0 ≤ (ji33)
        ·rw [if_pos c34] at H
         have c34b0 : decide (0 ≤ (ji33)) = true := decide_eq_true c34
         clear c34
         by_cases c35 : (ji33) < (x3_1.length : Int)
         ·rw [if_pos c35] at H
          have c35b0 : decide ((ji33) < (x3_1.length : Int)) = true := decide_eq_true c35
          clear c35
          by_cases c36 : ((rd_T40 x3_1 (ji33)).f1) = ((rd_T40 t115 x10_1).f1)
          ·rw [if_pos c36] at H
           have c36b0 : (((rd_T40 x3_1 (ji33)).f1) == ((rd_T40 t115 x10_1).f1)) = true := beq_iff_eq.mpr c36
           have c36b1 : (((rd_T40 x3_1 (ji33)).f1) != ((rd_T40 t115 x10_1).f1)) = false := bne_eq_false_iff_eq.mpr c36
           clear c36
           have H' := Aside0.mk H
           clear H
           have p116 : 0 ≤ (x10_1 : Int) := oda
           have q116 : x10_1 < (t115.length : Int) := oda
           obtain ⟨ad116, e116, hx116_0, hx116_1⟩ := at_T40 (Kd.R_reads' HO_8.out).2.2 x10_1 p116 q116
           cases e116
           replace p116 := eq_true p116
           replace q116 := eq_true q116
           go_wp2_with (first | ((with_reducible refine gate_dst (N := 5) rfl ?_); (try (refine gate_guard (by rfl) ?_; dsimp only)); refine box_event ?hg (N := 5) ?hd (cs := #[.int .i64 0, .int .i64 0]) (t := 40) ?hr ?_; (case hd => rfl); (case hg => rfl); (case hr => first | (go_simp; done) | (go_simp; rfl)); intro gb117 hg w37 hbox hb; have n0_ := Aside0.mk (Kd.R_below (Kd.R_elderB (mR HO_0.out) gb117 (Nat.le_of_eq hg.symm)) hb); have n1_ := Aside0.mk (Kd.R_below (Kd.R_elderB (mR HO_3.out) gb117 (Nat.le_of_eq hg.symm)) hb); have n2_ := Aside0.mk (Kd.R_below (Kd.R_elderB (mR HO_8.out) gb117 (Nat.le_of_eq hg.symm)) hb); have n3_ := Aside0.mk (Kept.below (S := (fun k_ => P0_ k_)) (mK HK.out) hb); have n4_ := Aside0.mk (below_step (mB HB.out) hb); have n5_ := Aside0.mk (hbox); have n6_ := Aside0.mk ((by rw [hg]; exact (by first | exact HK.out.1 | exact (show Kept w _ (fun k_ => P0_ k_) from by repeat (first | (with_reducible first | exact HK.out | apply Kept.alloc | apply Kept.drewN | apply Kept.drew) | exact HK.out)).1) : w.heap.size ≤ gb117)); have n7_ := Aside0.mk ((by rw [hg]; exact (below_size (mB HB.out)) : w0.heap.size ≤ gb117)); clear HO_0; clear HO_3; clear HO_8; clear HK; clear HB; have HO_0 := n0_; have HO_3 := n1_; have HO_8 := n2_; have HK := n3_; have HB := n4_; have BK117 := n5_; have GW117 := n6_; have GE117 := n7_; clear n0_ n1_ n2_ n3_ n4_ n5_ n6_ n7_; clear hb hbox hg; have hcz38_0 : w37.cell? ⟨gb117, 0, none⟩ = some (.int .i64 0) := (blk_cell BK117.out 0).trans rfl; have hcz38_1 : w37.cell? ⟨gb117, 1, none⟩ = some (.int .i64 0) := (blk_cell BK117.out 1).trans rfl; have hfz38_0 := blk_frozen BK117.out 0; have hfz38_1 := blk_frozen BK117.out 1; obtain ⟨Ao39, co39, eo39⟩ := Kd.R_slice HO_3.out; subst eo39; have p126 : 0 ≤ ((ji33) : Int) := oda; have q126 : (ji33) < (x3_1.length : Int) := oda; obtain ⟨ad126, e126, hx126_0, hx126_1⟩ := at_T40 (Kd.R_reads' HO_3.out).2.2 (ji33) p126 q126; cases e126; have hn126_0 : ad126.block ≠ gb117 := (by first | exact Kd.own_blk (Kd.R_ne HO_3.out BK117.out (by decide)) | exact Kd.own_blk (Kd.R_away HO_3.out (fun _ h_ => h_.2))); have hn126_1 : ad126.block ≠ gb117 := (by first | exact Kd.own_blk (Kd.R_ne HO_3.out BK117.out (by decide)) | exact Kd.own_blk (Kd.R_away HO_3.out (fun _ h_ => h_.2))); replace hx126_0 := (cell_far (p := ⟨gb117, 0, none⟩) (by first | (rw [add_block]; exact hn126_0) | (show (Addr.add _ _).block ≠ _; rw [add_block]; exact hn126_0) | exact hn126_0) (.int .i64 ((rd_T40 t115 x10_1).f0))).trans hx126_0; replace hx126_1 := (cell_far (p := ⟨gb117, 0, none⟩) (by first | (rw [add_block]; exact hn126_0) | (show (Addr.add _ _).block ≠ _; rw [add_block]; exact hn126_0) | exact hn126_0) (.int .i64 ((rd_T40 t115 x10_1).f0))).trans hx126_1; replace hx126_0 := (cell_far (p := ⟨gb117, 1, none⟩) (by first | (rw [add_block]; exact hn126_1) | (show (Addr.add _ _).block ≠ _; rw [add_block]; exact hn126_1) | exact hn126_1) (.int .i64 ((rd_T40 t115 x10_1).f1))).trans hx126_0; replace hx126_1 := (cell_far (p := ⟨gb117, 1, none⟩) (by first | (rw [add_block]; exact hn126_1) | (show (Addr.add _ _).block ≠ _; rw [add_block]; exact hn126_1) | exact hn126_1) (.int .i64 ((rd_T40 t115 x10_1).f1))).trans hx126_1; (try have hy126_0 := fun (n_ : Nat) => (show ((((w37.drewN n_).setCell ⟨gb117, 0, none⟩ (.int .i64 ((rd_T40 t115 x10_1).f0))).setCell ⟨gb117, 1, none⟩ (.int .i64 ((rd_T40 t115 x10_1).f1)))).cell? _ = some _ from hx126_0)); (try have hy126_1 := fun (n_ : Nat) => (show ((((w37.drewN n_).setCell ⟨gb117, 0, none⟩ (.int .i64 ((rd_T40 t115 x10_1).f0))).setCell ⟨gb117, 1, none⟩ (.int .i64 ((rd_T40 t115 x10_1).f1)))).cell? _ = some _ from hx126_1)); clear hn126_0; clear hn126_1; replace p126 := eq_true p126; replace q126 := eq_true q126))
           repeat (go_quiet (fail); try go_wp2)
           (try simp only [← hl0_1])
           go_roundg k1
           case measure => have := HK1.out; omega
           case rel => exact ⟨(x3_1), (wrap64 (x10_1 + 1)), ez, H', ⟨by have := HK1.out; omega⟩, ⟨by (try simp only [hl0_1]); (try simp only [hl8_1]); (with_reducible repeat (first | apply Kd.R_alloc | apply Kd.R_drewN | apply Kd.R_drew)); exact Kd.R_mono (Kd.R_far (p := ⟨gb117, 1, none⟩) (Kd.R_far (p := ⟨gb117, 0, none⟩) (Kd.R_mono HO_0.out (fun k_ hk => (⟨hk, hk.2⟩ : _ ∧ k_ ≠ gb117))) (fun _ hk => hk.2) (.int .i64 ((rd_T40 t115 x10_1).f0))) (fun _ hk => hk.2) (.int .i64 ((rd_T40 t115 x10_1).f1))) (fun _ hk => ⟨hk.1.1.1, hk.1.1.2⟩)⟩, ⟨by (try simp only [hl0_1]); (try simp only [hl8_1]); (with_reducible repeat (first | apply Kd.R_alloc | apply Kd.R_drewN | apply Kd.R_drew)); exact Kd.R_mono (Kd.R_far (p := ⟨gb117, 1, none⟩) (Kd.R_far (p := ⟨gb117, 0, none⟩) (Kd.R_mono HO_3.out (fun k_ hk => (⟨hk, hk.2⟩ : _ ∧ k_ ≠ gb117))) (fun _ hk => hk.2) (.int .i64 ((rd_T40 t115 x10_1).f0))) (fun _ hk => hk.2) (.int .i64 ((rd_T40 t115 x10_1).f1))) (fun _ hk => ⟨hk.1.1.1, ⟨hk.1.1.2.1, hk.1.1.2.2⟩⟩)⟩, ⟨by (try simp only [hl0_1]); (try simp only [hl8_1]); (with_reducible repeat (first | apply Kd.R_alloc | apply Kd.R_drewN | apply Kd.R_drew)); exact Kd.R_mono (Kd.R_far (p := ⟨gb117, 1, none⟩) (Kd.R_far (p := ⟨gb117, 0, none⟩) (Kd.R_mono HO_8.out (fun k_ hk => (⟨hk, hk.2⟩ : _ ∧ k_ ≠ gb117))) (fun _ hk => hk.2) (.int .i64 ((rd_T40 t115 x10_1).f0))) (fun _ hk => hk.2) (.int .i64 ((rd_T40 t115 x10_1).f1))) (fun _ hk => ⟨hk.1.1.1, hk.1.1.2⟩)⟩, ⟨by repeat (first | (with_reducible first | exact HK.out | apply Kept.alloc | apply Kept.drewN | apply Kept.drew | refine Kept.setCell ?_ (.inr GW117.out) _) | exact HK.out)⟩, ⟨mBs HB.out⟩⟩
          ·rw [if_neg c36] at H
           have c36b0 : (((rd_T40 x3_1 (ji33)).f1) == ((rd_T40 t115 x10_1).f1)) = false := beq_eq_false_iff_ne.mpr c36
           have c36b1 : (((rd_T40 x3_1 (ji33)).f1) != ((rd_T40 t115 x10_1).f1)) = true := bne_iff_ne.mpr c36
           by_cases c40 : x3_1.length < 8796093022208
           ·rw [if_pos c40] at H
            have LMc40 := Aside0.mk c40
            clear c40
            obtain ⟨y127, hy127⟩ : ∃ y_ : List (S40), y_ = (x3_1 ++ [(⟨(rd_T40 t115 x10_1).f0, (rd_T40 t115 x10_1).f1⟩ : S40)]) := ⟨_, rfl⟩
            replace H : (profile_tidy.l0 k1 t115 y127 t115 (l0.length : Int) (wrap64 (x10_1 + 1))) = some (r1, r2) := mH hy127 H
            have Ny127 := Aside0.mk hy127
            clear hy127
            have H' := Aside0.mk H
            clear H
            have p116 : 0 ≤ (x10_1 : Int) := oda
            have q116 : x10_1 < (t115.length : Int) := oda
            obtain ⟨ad116, e116, hx116_0, hx116_1⟩ := at_T40 (Kd.R_reads' HO_8.out).2.2 x10_1 p116 q116
            cases e116
            replace p116 := eq_true p116
            replace q116 := eq_true q116
            go_wp2_with (first | ((with_reducible refine gate_dst (N := 5) rfl ?_); (try (refine gate_guard (by rfl) ?_; dsimp only)); refine box_event ?hg (N := 5) ?hd (cs := #[.int .i64 0, .int .i64 0]) (t := 40) ?hr ?_; (case hd => rfl); (case hg => rfl); (case hr => first | (go_simp; done) | (go_simp; rfl)); intro gb117 hg w41 hbox hb; have n0_ := Aside0.mk (Kd.R_below (Kd.R_elderB (mR HO_0.out) gb117 (Nat.le_of_eq hg.symm)) hb); have n1_ := Aside0.mk (Kd.R_below (Kd.R_elderB (mR HO_3.out) gb117 (Nat.le_of_eq hg.symm)) hb); have n2_ := Aside0.mk (Kd.R_below (Kd.R_elderB (mR HO_8.out) gb117 (Nat.le_of_eq hg.symm)) hb); have n3_ := Aside0.mk (Kept.below (S := (fun k_ => P0_ k_)) (mK HK.out) hb); have n4_ := Aside0.mk (below_step (mB HB.out) hb); have n5_ := Aside0.mk (hbox); have n6_ := Aside0.mk ((by rw [hg]; exact (by first | exact HK.out.1 | exact (show Kept w _ (fun k_ => P0_ k_) from by repeat (first | (with_reducible first | exact HK.out | apply Kept.alloc | apply Kept.drewN | apply Kept.drew) | exact HK.out)).1) : w.heap.size ≤ gb117)); have n7_ := Aside0.mk ((by rw [hg]; exact (below_size (mB HB.out)) : w0.heap.size ≤ gb117)); clear HO_0; clear HO_3; clear HO_8; clear HK; clear HB; have HO_0 := n0_; have HO_3 := n1_; have HO_8 := n2_; have HK := n3_; have HB := n4_; have BK117 := n5_; have GW117 := n6_; have GE117 := n7_; clear n0_ n1_ n2_ n3_ n4_ n5_ n6_ n7_; clear hb hbox hg; have hcz42_0 : w41.cell? ⟨gb117, 0, none⟩ = some (.int .i64 0) := (blk_cell BK117.out 0).trans rfl; have hcz42_1 : w41.cell? ⟨gb117, 1, none⟩ = some (.int .i64 0) := (blk_cell BK117.out 1).trans rfl; have hfz42_0 := blk_frozen BK117.out 0; have hfz42_1 := blk_frozen BK117.out 1; obtain ⟨Ao43, co43, eo43⟩ := Kd.R_slice HO_3.out; subst eo43; have p126 : 0 ≤ ((ji33) : Int) := oda; have q126 : (ji33) < (x3_1.length : Int) := oda; obtain ⟨ad126, e126, hx126_0, hx126_1⟩ := at_T40 (Kd.R_reads' HO_3.out).2.2 (ji33) p126 q126; cases e126; have hn126_0 : ad126.block ≠ gb117 := (by first | exact Kd.own_blk (Kd.R_ne HO_3.out BK117.out (by decide)) | exact Kd.own_blk (Kd.R_away HO_3.out (fun _ h_ => h_.2))); have hn126_1 : ad126.block ≠ gb117 := (by first | exact Kd.own_blk (Kd.R_ne HO_3.out BK117.out (by decide)) | exact Kd.own_blk (Kd.R_away HO_3.out (fun _ h_ => h_.2))); replace hx126_0 := (cell_far (p := ⟨gb117, 0, none⟩) (by first | (rw [add_block]; exact hn126_0) | (show (Addr.add _ _).block ≠ _; rw [add_block]; exact hn126_0) | exact hn126_0) (.int .i64 ((rd_T40 t115 x10_1).f0))).trans hx126_0; replace hx126_1 := (cell_far (p := ⟨gb117, 0, none⟩) (by first | (rw [add_block]; exact hn126_0) | (show (Addr.add _ _).block ≠ _; rw [add_block]; exact hn126_0) | exact hn126_0) (.int .i64 ((rd_T40 t115 x10_1).f0))).trans hx126_1; replace hx126_0 := (cell_far (p := ⟨gb117, 1, none⟩) (by first | (rw [add_block]; exact hn126_1) | (show (Addr.add _ _).block ≠ _; rw [add_block]; exact hn126_1) | exact hn126_1) (.int .i64 ((rd_T40 t115 x10_1).f1))).trans hx126_0; replace hx126_1 := (cell_far (p := ⟨gb117, 1, none⟩) (by first | (rw [add_block]; exact hn126_1) | (show (Addr.add _ _).block ≠ _; rw [add_block]; exact hn126_1) | exact hn126_1) (.int .i64 ((rd_T40 t115 x10_1).f1))).trans hx126_1; (try have hy126_0 := fun (n_ : Nat) => (show ((((w41.drewN n_).setCell ⟨gb117, 0, none⟩ (.int .i64 ((rd_T40 t115 x10_1).f0))).setCell ⟨gb117, 1, none⟩ (.int .i64 ((rd_T40 t115 x10_1).f1)))).cell? _ = some _ from hx126_0)); (try have hy126_1 := fun (n_ : Nat) => (show ((((w41.drewN n_).setCell ⟨gb117, 0, none⟩ (.int .i64 ((rd_T40 t115 x10_1).f0))).setCell ⟨gb117, 1, none⟩ (.int .i64 ((rd_T40 t115 x10_1).f1)))).cell? _ = some _ from hx126_1)); clear hn126_0; clear hn126_1; replace p126 := eq_true p126; replace q126 := eq_true q126) | ((with_reducible refine gate_builtin (b := .append) (xs := #[.tmp 48, .tmp 50]) rfl ?_); (try (refine gate_guard (by rfl) ?_; dsimp only)); at_builtin; refine Kd.R_append k40 (w0 := w0) w0.heap.size rfl (.tmp 48) (.tmp 50) 25 40 (.agg #[(.int .i64 0), (.int .i64 0)]) 16 rfl Try.underlying25 info40 rfl (by decide) (by omega) (.slice (some ad126) x3_1.length co43) x3_1 (⟨(rd_T40 t115 x10_1).f0, (rd_T40 t115 x10_1).f1⟩ : S40) [.int .i64 ((rd_T40 t115 x10_1).f0), .int .i64 ((rd_T40 t115 x10_1).f1)] (fun k_ => (P0_ k_ ∨ w.heap.size ≤ k_) ∧ some k_ ≠ (.slice (some ad116) t115.length co3 : Value).ownBlock ∧ some k_ ≠ (.slice (some ad116) t115.length co3 : Value).ownBlock ∧ k_ ≠ gb117) (fun _ => False) rfl (by first | (go_simp; done) | (go_simp; rfl)) ?aP (fun _ hk => hk.elim) ?aF ?aO ?aB ?aS ?aL ?_; (case aP => exact k40_mkM _ _ _ (⟨(rd_T40 t115 x10_1).f0, (rd_T40 t115 x10_1).f1⟩ : S40)); (case aB => exact (mBs HB.out)); (case aF => exact (fun k_ hk => ⟨(.inr (Nat.le_trans (show Kept w _ (fun k_ => P0_ k_) from by repeat (first | (with_reducible first | exact HK.out | apply Kept.alloc | apply Kept.drewN | apply Kept.drew | refine Kept.setCell ?_ (.inr GW117.out) _) | exact HK.out)).1 hk)), Kd.fresh' (Kd.R_lt (by (with_reducible repeat (first | apply Kd.R_alloc | apply Kd.R_drewN | apply Kd.R_drew)); exact (Kd.R_mono (Kd.R_far (p := ⟨gb117, 1, none⟩) (Kd.R_far (p := ⟨gb117, 0, none⟩) (Kd.R_mono HO_0.out (fun k_ hk => (⟨hk, hk.2⟩ : _ ∧ k_ ≠ gb117))) (fun _ hk => hk.2) (.int .i64 ((rd_T40 t115 x10_1).f0))) (fun _ hk => hk.2) (.int .i64 ((rd_T40 t115 x10_1).f1))) (fun _ h_ => h_.1)))) k_ hk, Kd.fresh' (Kd.R_lt (by (with_reducible repeat (first | apply Kd.R_alloc | apply Kd.R_drewN | apply Kd.R_drew)); exact (Kd.R_mono (Kd.R_far (p := ⟨gb117, 1, none⟩) (Kd.R_far (p := ⟨gb117, 0, none⟩) (Kd.R_mono HO_8.out (fun k_ hk => (⟨hk, hk.2⟩ : _ ∧ k_ ≠ gb117))) (fun _ hk => hk.2) (.int .i64 ((rd_T40 t115 x10_1).f0))) (fun _ hk => hk.2) (.int .i64 ((rd_T40 t115 x10_1).f1))) (fun _ h_ => h_.1)))) k_ hk, Kd.freshB (g := gb117) (o := .cells #[.int .i64 ((rd_T40 t115 x10_1).f0), .int .i64 ((rd_T40 t115 x10_1).f1)] 40 (0, 0)) (by (with_reducible repeat (first | refine blk_drewN ?_ _ | refine blk_drew ?_ | refine blk_alloc ?_ _)); refine blk_put (cs := #[.int .i64 ((rd_T40 t115 x10_1).f0), .int .i64 0]) ?_ 1 _ rfl; (with_reducible repeat (first | refine blk_drewN ?_ _ | refine blk_drew ?_ | refine blk_alloc ?_ _)); refine blk_put (cs := #[.int .i64 0, .int .i64 0]) ?_ 0 _ rfl; (with_reducible repeat (first | refine blk_drewN ?_ _ | refine blk_drew ?_ | refine blk_alloc ?_ _)); exact BK117.out) k_ hk⟩)); (case aO => exact (by (with_reducible repeat (first | apply Kd.R_alloc | apply Kd.R_drewN | apply Kd.R_drew)); exact Kd.R_mono (Kd.R_far (p := ⟨gb117, 1, none⟩) (Kd.R_far (p := ⟨gb117, 0, none⟩) (Kd.R_mono HO_3.out (fun k_ hk => (⟨hk, hk.2⟩ : _ ∧ k_ ≠ gb117))) (fun _ hk => hk.2) (.int .i64 ((rd_T40 t115 x10_1).f0))) (fun _ hk => hk.2) (.int .i64 ((rd_T40 t115 x10_1).f1))) (fun _ hk => ⟨hk.1.1.1, ⟨hk.1.1.2.1, ⟨hk.1.1.2.2, hk.1.2⟩⟩⟩))); (case aS => exact (below_size (mBs HB.out))); (case aL => have := LMc40.out; omega); intro v128 w44 ho hb hg hat; rw [← Ny127.out] at ho; have n0_ := Aside0.mk (Kd.R_after (ok := (fun k_ => (P0_ k_ ∨ w.heap.size ≤ k_) ∧ k_ ≠ gb117)) (by (with_reducible repeat (first | apply Kd.R_alloc | apply Kd.R_drewN | apply Kd.R_drew)); exact Kd.R_mono (Kd.R_far (p := ⟨gb117, 1, none⟩) (Kd.R_far (p := ⟨gb117, 0, none⟩) (Kd.R_mono HO_0.out (fun k_ hk => (⟨hk, hk.2⟩ : _ ∧ k_ ≠ gb117))) (fun _ hk => hk.2) (.int .i64 ((rd_T40 t115 x10_1).f0))) (fun _ hk => hk.2) (.int .i64 ((rd_T40 t115 x10_1).f1))) (fun _ hk => ⟨⟨hk.1.1.1, hk.1.2⟩, hk.1.1.2⟩)) hg hat); have n1_ := Aside0.mk (Kd.R_after (ok := (fun k_ => (P0_ k_ ∨ w.heap.size ≤ k_) ∧ k_ ≠ gb117)) (by (with_reducible repeat (first | apply Kd.R_alloc | apply Kd.R_drewN | apply Kd.R_drew)); exact Kd.R_mono (Kd.R_far (p := ⟨gb117, 1, none⟩) (Kd.R_far (p := ⟨gb117, 0, none⟩) (Kd.R_mono HO_8.out (fun k_ hk => (⟨hk, hk.2⟩ : _ ∧ k_ ≠ gb117))) (fun _ hk => hk.2) (.int .i64 ((rd_T40 t115 x10_1).f0))) (fun _ hk => hk.2) (.int .i64 ((rd_T40 t115 x10_1).f1))) (fun _ hk => ⟨⟨hk.1.1.1, hk.1.2⟩, hk.1.1.2⟩)) hg hat); have n2_ := Aside0.mk (blk_grown (g := gb117) (o := .cells #[.int .i64 ((rd_T40 t115 x10_1).f0), .int .i64 ((rd_T40 t115 x10_1).f1)] 40 (0, 0)) (by (with_reducible repeat (first | refine blk_drewN ?_ _ | refine blk_drew ?_ | refine blk_alloc ?_ _)); refine blk_put (cs := #[.int .i64 ((rd_T40 t115 x10_1).f0), .int .i64 0]) ?_ 1 _ rfl; (with_reducible repeat (first | refine blk_drewN ?_ _ | refine blk_drew ?_ | refine blk_alloc ?_ _)); refine blk_put (cs := #[.int .i64 0, .int .i64 0]) ?_ 0 _ rfl; (with_reducible repeat (first | refine blk_drewN ?_ _ | refine blk_drew ?_ | refine blk_alloc ?_ _)); exact BK117.out) hg (Kd.R_away HO_3.out (fun _ hk => hk.2))); have n3_ := Aside0.mk (hb); have n4_ := Aside0.mk (Kept.of_grown (S := (fun k_ => P0_ k_)) hg (by repeat (first | (with_reducible first | exact HK.out | apply Kept.alloc | apply Kept.drewN | apply Kept.drew | refine Kept.setCell ?_ (.inr GW117.out) _) | exact HK.out)) (fun k_ e_ => (HO_3.out.1 k_ e_).1.1)); have n5_ := Aside0.mk (ho); clear HO_0; clear HO_8; clear BK117; clear HB; clear HK; clear HO_3; have HO_0 := n0_; have HO_8 := n1_; have BK117 := n2_; have HB := n3_; have HK := n4_; have HO129 := n5_; clear n0_ n1_ n2_ n3_ n4_ n5_; clear ho hb hg hat))
            repeat (go_quiet (fail); try go_wp2_with (first | ((with_reducible refine gate_dst (N := 5) rfl ?_); (try (refine gate_guard (by rfl) ?_; dsimp only)); refine box_event ?hg (N := 5) ?hd (cs := #[.int .i64 0, .int .i64 0]) (t := 40) ?hr ?_; (case hd => rfl); (case hg => rfl); (case hr => first | (go_simp; done) | (go_simp; rfl)); intro gb117 hg w41 hbox hb; have n0_ := Aside0.mk (Kd.R_below (Kd.R_elderB (mR HO_0.out) gb117 (Nat.le_of_eq hg.symm)) hb); have n1_ := Aside0.mk (Kd.R_below (Kd.R_elderB (mR HO_3.out) gb117 (Nat.le_of_eq hg.symm)) hb); have n2_ := Aside0.mk (Kd.R_below (Kd.R_elderB (mR HO_8.out) gb117 (Nat.le_of_eq hg.symm)) hb); have n3_ := Aside0.mk (Kept.below (S := (fun k_ => P0_ k_)) (mK HK.out) hb); have n4_ := Aside0.mk (below_step (mB HB.out) hb); have n5_ := Aside0.mk (hbox); have n6_ := Aside0.mk ((by rw [hg]; exact (by first | exact HK.out.1 | exact (show Kept w _ (fun k_ => P0_ k_) from by repeat (first | (with_reducible first | exact HK.out | apply Kept.alloc | apply Kept.drewN | apply Kept.drew) | exact HK.out)).1) : w.heap.size ≤ gb117)); have n7_ := Aside0.mk ((by rw [hg]; exact (below_size (mB HB.out)) : w0.heap.size ≤ gb117)); clear HO_0; clear HO_3; clear HO_8; clear HK; clear HB; have HO_0 := n0_; have HO_3 := n1_; have HO_8 := n2_; have HK := n3_; have HB := n4_; have BK117 := n5_; have GW117 := n6_; have GE117 := n7_; clear n0_ n1_ n2_ n3_ n4_ n5_ n6_ n7_; clear hb hbox hg; have hcz42_0 : w41.cell? ⟨gb117, 0, none⟩ = some (.int .i64 0) := (blk_cell BK117.out 0).trans rfl; have hcz42_1 : w41.cell? ⟨gb117, 1, none⟩ = some (.int .i64 0) := (blk_cell BK117.out 1).trans rfl; have hfz42_0 := blk_frozen BK117.out 0; have hfz42_1 := blk_frozen BK117.out 1; obtain ⟨Ao43, co43, eo43⟩ := Kd.R_slice HO_3.out; subst eo43; have p126 : 0 ≤ ((ji33) : Int) := oda; have q126 : (ji33) < (x3_1.length : Int) := oda; obtain ⟨ad126, e126, hx126_0, hx126_1⟩ := at_T40 (Kd.R_reads' HO_3.out).2.2 (ji33) p126 q126; cases e126; have hn126_0 : ad126.block ≠ gb117 := (by first | exact Kd.own_blk (Kd.R_ne HO_3.out BK117.out (by decide)) | exact Kd.own_blk (Kd.R_away HO_3.out (fun _ h_ => h_.2))); have hn126_1 : ad126.block ≠ gb117 := (by first | exact Kd.own_blk (Kd.R_ne HO_3.out BK117.out (by decide)) | exact Kd.own_blk (Kd.R_away HO_3.out (fun _ h_ => h_.2))); replace hx126_0 := (cell_far (p := ⟨gb117, 0, none⟩) (by first | (rw [add_block]; exact hn126_0) | (show (Addr.add _ _).block ≠ _; rw [add_block]; exact hn126_0) | exact hn126_0) (.int .i64 ((rd_T40 t115 x10_1).f0))).trans hx126_0; replace hx126_1 := (cell_far (p := ⟨gb117, 0, none⟩) (by first | (rw [add_block]; exact hn126_0) | (show (Addr.add _ _).block ≠ _; rw [add_block]; exact hn126_0) | exact hn126_0) (.int .i64 ((rd_T40 t115 x10_1).f0))).trans hx126_1; replace hx126_0 := (cell_far (p := ⟨gb117, 1, none⟩) (by first | (rw [add_block]; exact hn126_1) | (show (Addr.add _ _).block ≠ _; rw [add_block]; exact hn126_1) | exact hn126_1) (.int .i64 ((rd_T40 t115 x10_1).f1))).trans hx126_0; replace hx126_1 := (cell_far (p := ⟨gb117, 1, none⟩) (by first | (rw [add_block]; exact hn126_1) | (show (Addr.add _ _).block ≠ _; rw [add_block]; exact hn126_1) | exact hn126_1) (.int .i64 ((rd_T40 t115 x10_1).f1))).trans hx126_1; (try have hy126_0 := fun (n_ : Nat) => (show ((((w41.drewN n_).setCell ⟨gb117, 0, none⟩ (.int .i64 ((rd_T40 t115 x10_1).f0))).setCell ⟨gb117, 1, none⟩ (.int .i64 ((rd_T40 t115 x10_1).f1)))).cell? _ = some _ from hx126_0)); (try have hy126_1 := fun (n_ : Nat) => (show ((((w41.drewN n_).setCell ⟨gb117, 0, none⟩ (.int .i64 ((rd_T40 t115 x10_1).f0))).setCell ⟨gb117, 1, none⟩ (.int .i64 ((rd_T40 t115 x10_1).f1)))).cell? _ = some _ from hx126_1)); clear hn126_0; clear hn126_1; replace p126 := eq_true p126; replace q126 := eq_true q126) | ((with_reducible refine gate_builtin (b := .append) (xs := #[.tmp 48, .tmp 50]) rfl ?_); (try (refine gate_guard (by rfl) ?_; dsimp only)); at_builtin; refine Kd.R_append k40 (w0 := w0) w0.heap.size rfl (.tmp 48) (.tmp 50) 25 40 (.agg #[(.int .i64 0), (.int .i64 0)]) 16 rfl Try.underlying25 info40 rfl (by decide) (by omega) (.slice (some ad126) x3_1.length co43) x3_1 (⟨(rd_T40 t115 x10_1).f0, (rd_T40 t115 x10_1).f1⟩ : S40) [.int .i64 ((rd_T40 t115 x10_1).f0), .int .i64 ((rd_T40 t115 x10_1).f1)] (fun k_ => (P0_ k_ ∨ w.heap.size ≤ k_) ∧ some k_ ≠ (.slice (some ad116) t115.length co3 : Value).ownBlock ∧ some k_ ≠ (.slice (some ad116) t115.length co3 : Value).ownBlock ∧ k_ ≠ gb117) (fun _ => False) rfl (by first | (go_simp; done) | (go_simp; rfl)) ?aP (fun _ hk => hk.elim) ?aF ?aO ?aB ?aS ?aL ?_; (case aP => exact k40_mkM _ _ _ (⟨(rd_T40 t115 x10_1).f0, (rd_T40 t115 x10_1).f1⟩ : S40)); (case aB => exact (mBs HB.out)); (case aF => exact (fun k_ hk => ⟨(.inr (Nat.le_trans (show Kept w _ (fun k_ => P0_ k_) from by repeat (first | (with_reducible first | exact HK.out | apply Kept.alloc | apply Kept.drewN | apply Kept.drew | refine Kept.setCell ?_ (.inr GW117.out) _) | exact HK.out)).1 hk)), Kd.fresh' (Kd.R_lt (by (with_reducible repeat (first | apply Kd.R_alloc | apply Kd.R_drewN | apply Kd.R_drew)); exact (Kd.R_mono (Kd.R_far (p := ⟨gb117, 1, none⟩) (Kd.R_far (p := ⟨gb117, 0, none⟩) (Kd.R_mono HO_0.out (fun k_ hk => (⟨hk, hk.2⟩ : _ ∧ k_ ≠ gb117))) (fun _ hk => hk.2) (.int .i64 ((rd_T40 t115 x10_1).f0))) (fun _ hk => hk.2) (.int .i64 ((rd_T40 t115 x10_1).f1))) (fun _ h_ => h_.1)))) k_ hk, Kd.fresh' (Kd.R_lt (by (with_reducible repeat (first | apply Kd.R_alloc | apply Kd.R_drewN | apply Kd.R_drew)); exact (Kd.R_mono (Kd.R_far (p := ⟨gb117, 1, none⟩) (Kd.R_far (p := ⟨gb117, 0, none⟩) (Kd.R_mono HO_8.out (fun k_ hk => (⟨hk, hk.2⟩ : _ ∧ k_ ≠ gb117))) (fun _ hk => hk.2) (.int .i64 ((rd_T40 t115 x10_1).f0))) (fun _ hk => hk.2) (.int .i64 ((rd_T40 t115 x10_1).f1))) (fun _ h_ => h_.1)))) k_ hk, Kd.freshB (g := gb117) (o := .cells #[.int .i64 ((rd_T40 t115 x10_1).f0), .int .i64 ((rd_T40 t115 x10_1).f1)] 40 (0, 0)) (by (with_reducible repeat (first | refine blk_drewN ?_ _ | refine blk_drew ?_ | refine blk_alloc ?_ _)); refine blk_put (cs := #[.int .i64 ((rd_T40 t115 x10_1).f0), .int .i64 0]) ?_ 1 _ rfl; (with_reducible repeat (first | refine blk_drewN ?_ _ | refine blk_drew ?_ | refine blk_alloc ?_ _)); refine blk_put (cs := #[.int .i64 0, .int .i64 0]) ?_ 0 _ rfl; (with_reducible repeat (first | refine blk_drewN ?_ _ | refine blk_drew ?_ | refine blk_alloc ?_ _)); exact BK117.out) k_ hk⟩)); (case aO => exact (by (with_reducible repeat (first | apply Kd.R_alloc | apply Kd.R_drewN | apply Kd.R_drew)); exact Kd.R_mono (Kd.R_far (p := ⟨gb117, 1, none⟩) (Kd.R_far (p := ⟨gb117, 0, none⟩) (Kd.R_mono HO_3.out (fun k_ hk => (⟨hk, hk.2⟩ : _ ∧ k_ ≠ gb117))) (fun _ hk => hk.2) (.int .i64 ((rd_T40 t115 x10_1).f0))) (fun _ hk => hk.2) (.int .i64 ((rd_T40 t115 x10_1).f1))) (fun _ hk => ⟨hk.1.1.1, ⟨hk.1.1.2.1, ⟨hk.1.1.2.2, hk.1.2⟩⟩⟩))); (case aS => exact (below_size (mBs HB.out))); (case aL => have := LMc40.out; omega); intro v128 w44 ho hb hg hat; rw [← Ny127.out] at ho; have n0_ := Aside0.mk (Kd.R_after (ok := (fun k_ => (P0_ k_ ∨ w.heap.size ≤ k_) ∧ k_ ≠ gb117)) (by (with_reducible repeat (first | apply Kd.R_alloc | apply Kd.R_drewN | apply Kd.R_drew)); exact Kd.R_mono (Kd.R_far (p := ⟨gb117, 1, none⟩) (Kd.R_far (p := ⟨gb117, 0, none⟩) (Kd.R_mono HO_0.out (fun k_ hk => (⟨hk, hk.2⟩ : _ ∧ k_ ≠ gb117))) (fun _ hk => hk.2) (.int .i64 ((rd_T40 t115 x10_1).f0))) (fun _ hk => hk.2) (.int .i64 ((rd_T40 t115 x10_1).f1))) (fun _ hk => ⟨⟨hk.1.1.1, hk.1.2⟩, hk.1.1.2⟩)) hg hat); have n1_ := Aside0.mk (Kd.R_after (ok := (fun k_ => (P0_ k_ ∨ w.heap.size ≤ k_) ∧ k_ ≠ gb117)) (by (with_reducible repeat (first | apply Kd.R_alloc | apply Kd.R_drewN | apply Kd.R_drew)); exact Kd.R_mono (Kd.R_far (p := ⟨gb117, 1, none⟩) (Kd.R_far (p := ⟨gb117, 0, none⟩) (Kd.R_mono HO_8.out (fun k_ hk => (⟨hk, hk.2⟩ : _ ∧ k_ ≠ gb117))) (fun _ hk => hk.2) (.int .i64 ((rd_T40 t115 x10_1).f0))) (fun _ hk => hk.2) (.int .i64 ((rd_T40 t115 x10_1).f1))) (fun _ hk => ⟨⟨hk.1.1.1, hk.1.2⟩, hk.1.1.2⟩)) hg hat); have n2_ := Aside0.mk (blk_grown (g := gb117) (o := .cells #[.int .i64 ((rd_T40 t115 x10_1).f0), .int .i64 ((rd_T40 t115 x10_1).f1)] 40 (0, 0)) (by (with_reducible repeat (first | refine blk_drewN ?_ _ | refine blk_drew ?_ | refine blk_alloc ?_ _)); refine blk_put (cs := #[.int .i64 ((rd_T40 t115 x10_1).f0), .int .i64 0]) ?_ 1 _ rfl; (with_reducible repeat (first | refine blk_drewN ?_ _ | refine blk_drew ?_ | refine blk_alloc ?_ _)); refine blk_put (cs := #[.int .i64 0, .int .i64 0]) ?_ 0 _ rfl; (with_reducible repeat (first | refine blk_drewN ?_ _ | refine blk_drew ?_ | refine blk_alloc ?_ _)); exact BK117.out) hg (Kd.R_away HO_3.out (fun _ hk => hk.2))); have n3_ := Aside0.mk (hb); have n4_ := Aside0.mk (Kept.of_grown (S := (fun k_ => P0_ k_)) hg (by repeat (first | (with_reducible first | exact HK.out | apply Kept.alloc | apply Kept.drewN | apply Kept.drew | refine Kept.setCell ?_ (.inr GW117.out) _) | exact HK.out)) (fun k_ e_ => (HO_3.out.1 k_ e_).1.1)); have n5_ := Aside0.mk (ho); clear HO_0; clear HO_8; clear BK117; clear HB; clear HK; clear HO_3; have HO_0 := n0_; have HO_8 := n1_; have BK117 := n2_; have HB := n3_; have HK := n4_; have HO129 := n5_; clear n0_ n1_ n2_ n3_ n4_ n5_; clear ho hb hg hat)))
            (try simp only [← hl0_1])
            go_roundg k1
            case measure => have := HK1.out; omega
            case rel => exact ⟨(y127), (wrap64 (x10_1 + 1)), ez, H', ⟨by have := HK1.out; omega⟩, ⟨by (try simp only [hl0_1]); (try simp only [hl8_1]); (with_reducible repeat (first | apply Kd.R_alloc | apply Kd.R_drewN | apply Kd.R_drew)); exact Kd.R_mono HO_0.out (fun _ hk => ⟨hk.1.1, hk.2⟩)⟩, ⟨by (try simp only [hl0_1]); (try simp only [hl8_1]); (with_reducible repeat (first | apply Kd.R_alloc | apply Kd.R_drewN | apply Kd.R_drew)); exact Kd.R_mono HO129.out (fun _ hk => ⟨hk.1, ⟨hk.2.1, hk.2.2.1⟩⟩)⟩, ⟨by (try simp only [hl0_1]); (try simp only [hl8_1]); (with_reducible repeat (first | apply Kd.R_alloc | apply Kd.R_drewN | apply Kd.R_drew)); exact Kd.R_mono HO_8.out (fun _ hk => ⟨hk.1.1, hk.2⟩)⟩, ⟨by repeat (first | (with_reducible first | exact HK.out | apply Kept.alloc | apply Kept.drewN | apply Kept.drew | refine Kept.setCell ?_ (.inr GW117.out) _) | exact HK.out)⟩, ⟨mBs HB.out⟩⟩
           ·rw [if_neg c40] at H
            exact absurd H (by simp)
         ·rw [if_neg c35] at H
          exact absurd H (by simp)
        ·rw [if_neg c34] at H
         exact absurd H (by simp)
       ·rw [if_neg c32] at H
        have c32b0 : decide (0 < (x3_1.length : Int)) = false := decide_eq_false c32
        have c32b1 : decide (0 < x3_1.length) = false := decide_eq_false (by omega)
        clear c32
        by_cases c45 : x3_1.length < 8796093022208
        ·rw [if_pos c45] at H
         have LMc45 := Aside0.mk c45
         clear c45
         obtain ⟨y130, hy130⟩ : ∃ y_ : List (S40), y_ = (x3_1 ++ [(⟨(rd_T40 t115 x10_1).f0, (rd_T40 t115 x10_1).f1⟩ : S40)]) := ⟨_, rfl⟩
         replace H : (profile_tidy.l0 k1 t115 y130 t115 (l0.length : Int) (wrap64 (x10_1 + 1))) = some (r1, r2) := mH hy130 H
         have Ny130 := Aside0.mk hy130
         clear hy130
         have H' := Aside0.mk H
         clear H
         have p116 : 0 ≤ (x10_1 : Int) := oda
         have q116 : x10_1 < (t115.length : Int) := oda
         obtain ⟨ad116, e116, hx116_0, hx116_1⟩ := at_T40 (Kd.R_reads' HO_8.out).2.2 x10_1 p116 q116
         cases e116
         replace p116 := eq_true p116
         replace q116 := eq_true q116
         go_wp2_with (first | ((with_reducible refine gate_dst (N := 5) rfl ?_); (try (refine gate_guard (by rfl) ?_; dsimp only)); refine box_event ?hg (N := 5) ?hd (cs := #[.int .i64 0, .int .i64 0]) (t := 40) ?hr ?_; (case hd => rfl); (case hg => rfl); (case hr => first | (go_simp; done) | (go_simp; rfl)); intro gb117 hg w46 hbox hb; have n0_ := Aside0.mk (Kd.R_below (Kd.R_elderB (mR HO_0.out) gb117 (Nat.le_of_eq hg.symm)) hb); have n1_ := Aside0.mk (Kd.R_below (Kd.R_elderB (mR HO_3.out) gb117 (Nat.le_of_eq hg.symm)) hb); have n2_ := Aside0.mk (Kd.R_below (Kd.R_elderB (mR HO_8.out) gb117 (Nat.le_of_eq hg.symm)) hb); have n3_ := Aside0.mk (Kept.below (S := (fun k_ => P0_ k_)) (mK HK.out) hb); have n4_ := Aside0.mk (below_step (mB HB.out) hb); have n5_ := Aside0.mk (hbox); have n6_ := Aside0.mk ((by rw [hg]; exact (by first | exact HK.out.1 | exact (show Kept w _ (fun k_ => P0_ k_) from by repeat (first | (with_reducible first | exact HK.out | apply Kept.alloc | apply Kept.drewN | apply Kept.drew) | exact HK.out)).1) : w.heap.size ≤ gb117)); have n7_ := Aside0.mk ((by rw [hg]; exact (below_size (mB HB.out)) : w0.heap.size ≤ gb117)); clear HO_0; clear HO_3; clear HO_8; clear HK; clear HB; have HO_0 := n0_; have HO_3 := n1_; have HO_8 := n2_; have HK := n3_; have HB := n4_; have BK117 := n5_; have GW117 := n6_; have GE117 := n7_; clear n0_ n1_ n2_ n3_ n4_ n5_ n6_ n7_; clear hb hbox hg; have hcz47_0 : w46.cell? ⟨gb117, 0, none⟩ = some (.int .i64 0) := (blk_cell BK117.out 0).trans rfl; have hcz47_1 : w46.cell? ⟨gb117, 1, none⟩ = some (.int .i64 0) := (blk_cell BK117.out 1).trans rfl; have hfz47_0 := blk_frozen BK117.out 0; have hfz47_1 := blk_frozen BK117.out 1; obtain ⟨Ao48, co48, eo48⟩ := Kd.R_slice HO_3.out; subst eo48) | ((with_reducible refine gate_builtin (b := .append) (xs := #[.tmp 48, .tmp 50]) rfl ?_); (try (refine gate_guard (by rfl) ?_; dsimp only)); at_builtin; refine Kd.R_append k40 (w0 := w0) w0.heap.size rfl (.tmp 48) (.tmp 50) 25 40 (.agg #[(.int .i64 0), (.int .i64 0)]) 16 rfl Try.underlying25 info40 rfl (by decide) (by omega) (.slice Ao48 x3_1.length co48) x3_1 (⟨(rd_T40 t115 x10_1).f0, (rd_T40 t115 x10_1).f1⟩ : S40) [.int .i64 ((rd_T40 t115 x10_1).f0), .int .i64 ((rd_T40 t115 x10_1).f1)] (fun k_ => (P0_ k_ ∨ w.heap.size ≤ k_) ∧ some k_ ≠ (.slice (some ad116) t115.length co3 : Value).ownBlock ∧ some k_ ≠ (.slice (some ad116) t115.length co3 : Value).ownBlock ∧ k_ ≠ gb117) (fun _ => False) rfl (by first | (go_simp; done) | (go_simp; rfl)) ?aP (fun _ hk => hk.elim) ?aF ?aO ?aB ?aS ?aL ?_; (case aP => exact k40_mkM _ _ _ (⟨(rd_T40 t115 x10_1).f0, (rd_T40 t115 x10_1).f1⟩ : S40)); (case aB => exact (mBs HB.out)); (case aF => exact (fun k_ hk => ⟨(.inr (Nat.le_trans (show Kept w _ (fun k_ => P0_ k_) from by repeat (first | (with_reducible first | exact HK.out | apply Kept.alloc | apply Kept.drewN | apply Kept.drew | refine Kept.setCell ?_ (.inr GW117.out) _) | exact HK.out)).1 hk)), Kd.fresh' (Kd.R_lt (by (with_reducible repeat (first | apply Kd.R_alloc | apply Kd.R_drewN | apply Kd.R_drew)); exact (Kd.R_mono (Kd.R_far (p := ⟨gb117, 1, none⟩) (Kd.R_far (p := ⟨gb117, 0, none⟩) (Kd.R_mono HO_0.out (fun k_ hk => (⟨hk, hk.2⟩ : _ ∧ k_ ≠ gb117))) (fun _ hk => hk.2) (.int .i64 ((rd_T40 t115 x10_1).f0))) (fun _ hk => hk.2) (.int .i64 ((rd_T40 t115 x10_1).f1))) (fun _ h_ => h_.1)))) k_ hk, Kd.fresh' (Kd.R_lt (by (with_reducible repeat (first | apply Kd.R_alloc | apply Kd.R_drewN | apply Kd.R_drew)); exact (Kd.R_mono (Kd.R_far (p := ⟨gb117, 1, none⟩) (Kd.R_far (p := ⟨gb117, 0, none⟩) (Kd.R_mono HO_8.out (fun k_ hk => (⟨hk, hk.2⟩ : _ ∧ k_ ≠ gb117))) (fun _ hk => hk.2) (.int .i64 ((rd_T40 t115 x10_1).f0))) (fun _ hk => hk.2) (.int .i64 ((rd_T40 t115 x10_1).f1))) (fun _ h_ => h_.1)))) k_ hk, Kd.freshB (g := gb117) (o := .cells #[.int .i64 ((rd_T40 t115 x10_1).f0), .int .i64 ((rd_T40 t115 x10_1).f1)] 40 (0, 0)) (by (with_reducible repeat (first | refine blk_drewN ?_ _ | refine blk_drew ?_ | refine blk_alloc ?_ _)); refine blk_put (cs := #[.int .i64 ((rd_T40 t115 x10_1).f0), .int .i64 0]) ?_ 1 _ rfl; (with_reducible repeat (first | refine blk_drewN ?_ _ | refine blk_drew ?_ | refine blk_alloc ?_ _)); refine blk_put (cs := #[.int .i64 0, .int .i64 0]) ?_ 0 _ rfl; (with_reducible repeat (first | refine blk_drewN ?_ _ | refine blk_drew ?_ | refine blk_alloc ?_ _)); exact BK117.out) k_ hk⟩)); (case aO => exact (by (with_reducible repeat (first | apply Kd.R_alloc | apply Kd.R_drewN | apply Kd.R_drew)); exact Kd.R_mono (Kd.R_far (p := ⟨gb117, 1, none⟩) (Kd.R_far (p := ⟨gb117, 0, none⟩) (Kd.R_mono HO_3.out (fun k_ hk => (⟨hk, hk.2⟩ : _ ∧ k_ ≠ gb117))) (fun _ hk => hk.2) (.int .i64 ((rd_T40 t115 x10_1).f0))) (fun _ hk => hk.2) (.int .i64 ((rd_T40 t115 x10_1).f1))) (fun _ hk => ⟨hk.1.1.1, ⟨hk.1.1.2.1, ⟨hk.1.1.2.2, hk.1.2⟩⟩⟩))); (case aS => exact (below_size (mBs HB.out))); (case aL => have := LMc45.out; omega); intro v131 w49 ho hb hg hat; rw [← Ny130.out] at ho; have n0_ := Aside0.mk (Kd.R_after (ok := (fun k_ => (P0_ k_ ∨ w.heap.size ≤ k_) ∧ k_ ≠ gb117)) (by (with_reducible repeat (first | apply Kd.R_alloc | apply Kd.R_drewN | apply Kd.R_drew)); exact Kd.R_mono (Kd.R_far (p := ⟨gb117, 1, none⟩) (Kd.R_far (p := ⟨gb117, 0, none⟩) (Kd.R_mono HO_0.out (fun k_ hk => (⟨hk, hk.2⟩ : _ ∧ k_ ≠ gb117))) (fun _ hk => hk.2) (.int .i64 ((rd_T40 t115 x10_1).f0))) (fun _ hk => hk.2) (.int .i64 ((rd_T40 t115 x10_1).f1))) (fun _ hk => ⟨⟨hk.1.1.1, hk.1.2⟩, hk.1.1.2⟩)) hg hat); have n1_ := Aside0.mk (Kd.R_after (ok := (fun k_ => (P0_ k_ ∨ w.heap.size ≤ k_) ∧ k_ ≠ gb117)) (by (with_reducible repeat (first | apply Kd.R_alloc | apply Kd.R_drewN | apply Kd.R_drew)); exact Kd.R_mono (Kd.R_far (p := ⟨gb117, 1, none⟩) (Kd.R_far (p := ⟨gb117, 0, none⟩) (Kd.R_mono HO_8.out (fun k_ hk => (⟨hk, hk.2⟩ : _ ∧ k_ ≠ gb117))) (fun _ hk => hk.2) (.int .i64 ((rd_T40 t115 x10_1).f0))) (fun _ hk => hk.2) (.int .i64 ((rd_T40 t115 x10_1).f1))) (fun _ hk => ⟨⟨hk.1.1.1, hk.1.2⟩, hk.1.1.2⟩)) hg hat); have n2_ := Aside0.mk (blk_grown (g := gb117) (o := .cells #[.int .i64 ((rd_T40 t115 x10_1).f0), .int .i64 ((rd_T40 t115 x10_1).f1)] 40 (0, 0)) (by (with_reducible repeat (first | refine blk_drewN ?_ _ | refine blk_drew ?_ | refine blk_alloc ?_ _)); refine blk_put (cs := #[.int .i64 ((rd_T40 t115 x10_1).f0), .int .i64 0]) ?_ 1 _ rfl; (with_reducible repeat (first | refine blk_drewN ?_ _ | refine blk_drew ?_ | refine blk_alloc ?_ _)); refine blk_put (cs := #[.int .i64 0, .int .i64 0]) ?_ 0 _ rfl; (with_reducible repeat (first | refine blk_drewN ?_ _ | refine blk_drew ?_ | refine blk_alloc ?_ _)); exact BK117.out) hg (Kd.R_away HO_3.out (fun _ hk => hk.2))); have n3_ := Aside0.mk (hb); have n4_ := Aside0.mk (Kept.of_grown (S := (fun k_ => P0_ k_)) hg (by repeat (first | (with_reducible first | exact HK.out | apply Kept.alloc | apply Kept.drewN | apply Kept.drew | refine Kept.setCell ?_ (.inr GW117.out) _) | exact HK.out)) (fun k_ e_ => (HO_3.out.1 k_ e_).1.1)); have n5_ := Aside0.mk (ho); clear HO_0; clear HO_8; clear BK117; clear HB; clear HK; clear HO_3; have HO_0 := n0_; have HO_8 := n1_; have BK117 := n2_; have HB := n3_; have HK := n4_; have HO132 := n5_; clear n0_ n1_ n2_ n3_ n4_ n5_; clear ho hb hg hat))
         repeat (go_quiet (fail); try go_wp2_with (first | ((with_reducible refine gate_dst (N := 5) rfl ?_); (try (refine gate_guard (by rfl) ?_; dsimp only)); refine box_event ?hg (N := 5) ?hd (cs := #[.int .i64 0, .int .i64 0]) (t := 40) ?hr ?_; (case hd => rfl); (case hg => rfl); (case hr => first | (go_simp; done) | (go_simp; rfl)); intro gb117 hg w46 hbox hb; have n0_ := Aside0.mk (Kd.R_below (Kd.R_elderB (mR HO_0.out) gb117 (Nat.le_of_eq hg.symm)) hb); have n1_ := Aside0.mk (Kd.R_below (Kd.R_elderB (mR HO_3.out) gb117 (Nat.le_of_eq hg.symm)) hb); have n2_ := Aside0.mk (Kd.R_below (Kd.R_elderB (mR HO_8.out) gb117 (Nat.le_of_eq hg.symm)) hb); have n3_ := Aside0.mk (Kept.below (S := (fun k_ => P0_ k_)) (mK HK.out) hb); have n4_ := Aside0.mk (below_step (mB HB.out) hb); have n5_ := Aside0.mk (hbox); have n6_ := Aside0.mk ((by rw [hg]; exact (by first | exact HK.out.1 | exact (show Kept w _ (fun k_ => P0_ k_) from by repeat (first | (with_reducible first | exact HK.out | apply Kept.alloc | apply Kept.drewN | apply Kept.drew) | exact HK.out)).1) : w.heap.size ≤ gb117)); have n7_ := Aside0.mk ((by rw [hg]; exact (below_size (mB HB.out)) : w0.heap.size ≤ gb117)); clear HO_0; clear HO_3; clear HO_8; clear HK; clear HB; have HO_0 := n0_; have HO_3 := n1_; have HO_8 := n2_; have HK := n3_; have HB := n4_; have BK117 := n5_; have GW117 := n6_; have GE117 := n7_; clear n0_ n1_ n2_ n3_ n4_ n5_ n6_ n7_; clear hb hbox hg; have hcz47_0 : w46.cell? ⟨gb117, 0, none⟩ = some (.int .i64 0) := (blk_cell BK117.out 0).trans rfl; have hcz47_1 : w46.cell? ⟨gb117, 1, none⟩ = some (.int .i64 0) := (blk_cell BK117.out 1).trans rfl; have hfz47_0 := blk_frozen BK117.out 0; have hfz47_1 := blk_frozen BK117.out 1; obtain ⟨Ao48, co48, eo48⟩ := Kd.R_slice HO_3.out; subst eo48) | ((with_reducible refine gate_builtin (b := .append) (xs := #[.tmp 48, .tmp 50]) rfl ?_); (try (refine gate_guard (by rfl) ?_; dsimp only)); at_builtin; refine Kd.R_append k40 (w0 := w0) w0.heap.size rfl (.tmp 48) (.tmp 50) 25 40 (.agg #[(.int .i64 0), (.int .i64 0)]) 16 rfl Try.underlying25 info40 rfl (by decide) (by omega) (.slice Ao48 x3_1.length co48) x3_1 (⟨(rd_T40 t115 x10_1).f0, (rd_T40 t115 x10_1).f1⟩ : S40) [.int .i64 ((rd_T40 t115 x10_1).f0), .int .i64 ((rd_T40 t115 x10_1).f1)] (fun k_ => (P0_ k_ ∨ w.heap.size ≤ k_) ∧ some k_ ≠ (.slice (some ad116) t115.length co3 : Value).ownBlock ∧ some k_ ≠ (.slice (some ad116) t115.length co3 : Value).ownBlock ∧ k_ ≠ gb117) (fun _ => False) rfl (by first | (go_simp; done) | (go_simp; rfl)) ?aP (fun _ hk => hk.elim) ?aF ?aO ?aB ?aS ?aL ?_; (case aP => exact k40_mkM _ _ _ (⟨(rd_T40 t115 x10_1).f0, (rd_T40 t115 x10_1).f1⟩ : S40)); (case aB => exact (mBs HB.out)); (case aF => exact (fun k_ hk => ⟨(.inr (Nat.le_trans (show Kept w _ (fun k_ => P0_ k_) from by repeat (first | (with_reducible first | exact HK.out | apply Kept.alloc | apply Kept.drewN | apply Kept.drew | refine Kept.setCell ?_ (.inr GW117.out) _) | exact HK.out)).1 hk)), Kd.fresh' (Kd.R_lt (by (with_reducible repeat (first | apply Kd.R_alloc | apply Kd.R_drewN | apply Kd.R_drew)); exact (Kd.R_mono (Kd.R_far (p := ⟨gb117, 1, none⟩) (Kd.R_far (p := ⟨gb117, 0, none⟩) (Kd.R_mono HO_0.out (fun k_ hk => (⟨hk, hk.2⟩ : _ ∧ k_ ≠ gb117))) (fun _ hk => hk.2) (.int .i64 ((rd_T40 t115 x10_1).f0))) (fun _ hk => hk.2) (.int .i64 ((rd_T40 t115 x10_1).f1))) (fun _ h_ => h_.1)))) k_ hk, Kd.fresh' (Kd.R_lt (by (with_reducible repeat (first | apply Kd.R_alloc | apply Kd.R_drewN | apply Kd.R_drew)); exact (Kd.R_mono (Kd.R_far (p := ⟨gb117, 1, none⟩) (Kd.R_far (p := ⟨gb117, 0, none⟩) (Kd.R_mono HO_8.out (fun k_ hk => (⟨hk, hk.2⟩ : _ ∧ k_ ≠ gb117))) (fun _ hk => hk.2) (.int .i64 ((rd_T40 t115 x10_1).f0))) (fun _ hk => hk.2) (.int .i64 ((rd_T40 t115 x10_1).f1))) (fun _ h_ => h_.1)))) k_ hk, Kd.freshB (g := gb117) (o := .cells #[.int .i64 ((rd_T40 t115 x10_1).f0), .int .i64 ((rd_T40 t115 x10_1).f1)] 40 (0, 0)) (by (with_reducible repeat (first | refine blk_drewN ?_ _ | refine blk_drew ?_ | refine blk_alloc ?_ _)); refine blk_put (cs := #[.int .i64 ((rd_T40 t115 x10_1).f0), .int .i64 0]) ?_ 1 _ rfl; (with_reducible repeat (first | refine blk_drewN ?_ _ | refine blk_drew ?_ | refine blk_alloc ?_ _)); refine blk_put (cs := #[.int .i64 0, .int .i64 0]) ?_ 0 _ rfl; (with_reducible repeat (first | refine blk_drewN ?_ _ | refine blk_drew ?_ | refine blk_alloc ?_ _)); exact BK117.out) k_ hk⟩)); (case aO => exact (by (with_reducible repeat (first | apply Kd.R_alloc | apply Kd.R_drewN | apply Kd.R_drew)); exact Kd.R_mono (Kd.R_far (p := ⟨gb117, 1, none⟩) (Kd.R_far (p := ⟨gb117, 0, none⟩) (Kd.R_mono HO_3.out (fun k_ hk => (⟨hk, hk.2⟩ : _ ∧ k_ ≠ gb117))) (fun _ hk => hk.2) (.int .i64 ((rd_T40 t115 x10_1).f0))) (fun _ hk => hk.2) (.int .i64 ((rd_T40 t115 x10_1).f1))) (fun _ hk => ⟨hk.1.1.1, ⟨hk.1.1.2.1, ⟨hk.1.1.2.2, hk.1.2⟩⟩⟩))); (case aS => exact (below_size (mBs HB.out))); (case aL => have := LMc45.out; omega); intro v131 w49 ho hb hg hat; rw [← Ny130.out] at ho; have n0_ := Aside0.mk (Kd.R_after (ok := (fun k_ => (P0_ k_ ∨ w.heap.size ≤ k_) ∧ k_ ≠ gb117)) (by (with_reducible repeat (first | apply Kd.R_alloc | apply Kd.R_drewN | apply Kd.R_drew)); exact Kd.R_mono (Kd.R_far (p := ⟨gb117, 1, none⟩) (Kd.R_far (p := ⟨gb117, 0, none⟩) (Kd.R_mono HO_0.out (fun k_ hk => (⟨hk, hk.2⟩ : _ ∧ k_ ≠ gb117))) (fun _ hk => hk.2) (.int .i64 ((rd_T40 t115 x10_1).f0))) (fun _ hk => hk.2) (.int .i64 ((rd_T40 t115 x10_1).f1))) (fun _ hk => ⟨⟨hk.1.1.1, hk.1.2⟩, hk.1.1.2⟩)) hg hat); have n1_ := Aside0.mk (Kd.R_after (ok := (fun k_ => (P0_ k_ ∨ w.heap.size ≤ k_) ∧ k_ ≠ gb117)) (by (with_reducible repeat (first | apply Kd.R_alloc | apply Kd.R_drewN | apply Kd.R_drew)); exact Kd.R_mono (Kd.R_far (p := ⟨gb117, 1, none⟩) (Kd.R_far (p := ⟨gb117, 0, none⟩) (Kd.R_mono HO_8.out (fun k_ hk => (⟨hk, hk.2⟩ : _ ∧ k_ ≠ gb117))) (fun _ hk => hk.2) (.int .i64 ((rd_T40 t115 x10_1).f0))) (fun _ hk => hk.2) (.int .i64 ((rd_T40 t115 x10_1).f1))) (fun _ hk => ⟨⟨hk.1.1.1, hk.1.2⟩, hk.1.1.2⟩)) hg hat); have n2_ := Aside0.mk (blk_grown (g := gb117) (o := .cells #[.int .i64 ((rd_T40 t115 x10_1).f0), .int .i64 ((rd_T40 t115 x10_1).f1)] 40 (0, 0)) (by (with_reducible repeat (first | refine blk_drewN ?_ _ | refine blk_drew ?_ | refine blk_alloc ?_ _)); refine blk_put (cs := #[.int .i64 ((rd_T40 t115 x10_1).f0), .int .i64 0]) ?_ 1 _ rfl; (with_reducible repeat (first | refine blk_drewN ?_ _ | refine blk_drew ?_ | refine blk_alloc ?_ _)); refine blk_put (cs := #[.int .i64 0, .int .i64 0]) ?_ 0 _ rfl; (with_reducible repeat (first | refine blk_drewN ?_ _ | refine blk_drew ?_ | refine blk_alloc ?_ _)); exact BK117.out) hg (Kd.R_away HO_3.out (fun _ hk => hk.2))); have n3_ := Aside0.mk (hb); have n4_ := Aside0.mk (Kept.of_grown (S := (fun k_ => P0_ k_)) hg (by repeat (first | (with_reducible first | exact HK.out | apply Kept.alloc | apply Kept.drewN | apply Kept.drew | refine Kept.setCell ?_ (.inr GW117.out) _) | exact HK.out)) (fun k_ e_ => (HO_3.out.1 k_ e_).1.1)); have n5_ := Aside0.mk (ho); clear HO_0; clear HO_8; clear BK117; clear HB; clear HK; clear HO_3; have HO_0 := n0_; have HO_8 := n1_; have BK117 := n2_; have HB := n3_; have HK := n4_; have HO132 := n5_; clear n0_ n1_ n2_ n3_ n4_ n5_; clear ho hb hg hat)))
         (try simp only [← hl0_1])
         go_roundg k1
         case measure => have := HK1.out; omega
         case rel => exact ⟨(y130), (wrap64 (x10_1 + 1)), ez, H', ⟨by have := HK1.out; omega⟩, ⟨by (try simp only [hl0_1]); (try simp only [hl8_1]); (with_reducible repeat (first | apply Kd.R_alloc | apply Kd.R_drewN | apply Kd.R_drew)); exact Kd.R_mono HO_0.out (fun _ hk => ⟨hk.1.1, hk.2⟩)⟩, ⟨by (try simp only [hl0_1]); (try simp only [hl8_1]); (with_reducible repeat (first | apply Kd.R_alloc | apply Kd.R_drewN | apply Kd.R_drew)); exact Kd.R_mono HO132.out (fun _ hk => ⟨hk.1, ⟨hk.2.1, hk.2.2.1⟩⟩)⟩, ⟨by (try simp only [hl0_1]); (try simp only [hl8_1]); (with_reducible repeat (first | apply Kd.R_alloc | apply Kd.R_drewN | apply Kd.R_drew)); exact Kd.R_mono HO_8.out (fun _ hk => ⟨hk.1.1, hk.2⟩)⟩, ⟨by repeat (first | (with_reducible first | exact HK.out | apply Kept.alloc | apply Kept.drewN | apply Kept.drew | refine Kept.setCell ?_ (.inr GW117.out) _) | exact HK.out)⟩, ⟨mBs HB.out⟩⟩
        ·rw [if_neg c45] at H
         exact absurd H (by simp)
     ·rw [if_neg c7] at H
      exact absurd H (by simp)
    ·rw [if_neg c6] at H
     exact absurd H (by simp)
   ·rw [if_neg c5] at H
    have c5b0 : decide (x10_1 < (l0.length : Int)) = false := decide_eq_false c5
    have c5b9 := c5b0
    (try rw [hl0_1] at c5b9)
    clear c5
    replace H := Option.bind_eq_some_iff.mp H
    obtain ⟨t133, A500, H⟩ := H
    replace H : (some (t133, t115)) = some (r1, r2) := H
    have A50 := Aside0.mk A500
    clear A500
    simp only [Option.some.injEq, Prod.mk.injEq] at H
    obtain ⟨rfl, rfl⟩ := H
    obtain ⟨Ao51, co51, eo51⟩ := Kd.R_slice HO_3.out
    subst eo51
    go_wp2_with (first | (go_at_call 58; (with_reducible refine (slices_Clip_Step.calls (fun k_ => some k_ = (.slice Ao51 x3_1.length co51 : Value).ownBlock) _ _ x3_1 t133 _ ?side1 A50.out).mono ?_); (case side1 => exact Kd.R_V (Kd.R_tight rfl (HO_3.out))); rintro e w52 ⟨v134, rfl, ho0, hb⟩; have n0_ := Aside0.mk (Kd.R_below (mR HO_0.out) hb); have n1_ := Aside0.mk (Kd.R_below (mR HO_3.out) hb); have n2_ := Aside0.mk (Kd.R_below (mR HO_8.out) hb); have n3_ := Aside0.mk (Kd.V_lower (Kd.V_mono (ok' := fun k_ => (P0_ k_ ∨ w.heap.size ≤ k_) ∧ some k_ ≠ (.slice Ao3 t115.length co3 : Value).ownBlock ∧ some k_ ≠ (.slice Ao3 t115.length co3 : Value).ownBlock) ho0 (fun k_ hk_ => ⟨Or.elim hk_ (fun hs_ => ((HO_3.out).1 k_ hs_.symm).1) (fun hn_ => (.inr (Nat.le_trans (by first | exact HK.out.1 | exact (show Kept w _ (fun k_ => P0_ k_) from by repeat (first | (with_reducible first | exact HK.out | apply Kept.alloc | apply Kept.drewN | apply Kept.drew) | exact HK.out)).1) hn_))), Or.elim hk_ (fun hs_ => ((HO_3.out).1 k_ hs_.symm).2.1) (fun hn_ => (Kd.fresh' (Kd.R_lt (mR HO_0.out)) k_ hn_)), Or.elim hk_ (fun hs_ => ((HO_3.out).1 k_ hs_.symm).2.2) (fun hn_ => (Kd.fresh' (Kd.R_lt (mR HO_8.out)) k_ hn_))⟩)) (below_size (mB HB.out))); have n4_ := Aside0.mk (Kept.below (S := (fun k_ => P0_ k_)) (mK HK.out) hb); have n5_ := Aside0.mk (below_step (mB HB.out) hb); clear HO_0; clear HO_3; clear HO_8; clear HK; clear HB; have HO_0 := n0_; have HO_3 := n1_; have HO_8 := n2_; have HO135 := n3_; have HK := n4_; have HB := n5_; clear n0_ n1_ n2_ n3_ n4_ n5_; (try clear hb); (try clear hb2); (try clear hk); (try clear hi); (try clear ho0)))
    repeat (go_quiet (fail); try go_wp2)
    go_ret
    exact ⟨_, by first | rfl | (simp [errW_none, errW_some] <;> rfl) | (simp [*, errW_none, errW_some] <;> rfl), by (with_reducible repeat (first | apply Kd.V_alloc | apply Kd.V_drewN | apply Kd.V_drew)); exact Kd.V_mono HO135.out (fun _ hk => ⟨hk.1, by first | exact hk.2.1 | (rw [hl0_1]; exact hk.2.1)⟩), (by first | exact (by (with_reducible repeat (first | apply Kd.R_alloc | apply Kd.R_drewN | apply Kd.R_drew)); exact Kd.R_mono HO_0.out (fun _ hk => hk.1)) | (simp only [hl0_1, hl8_1]; exact (by (with_reducible repeat (first | apply Kd.R_alloc | apply Kd.R_drewN | apply Kd.R_drew)); exact Kd.R_mono HO_0.out (fun _ hk => hk.1)))), by repeat (first | (with_reducible first | exact HB.out | apply below_alloc | apply pw_below_drewN | apply below_drew1) | exact HB.out), by repeat (first | (with_reducible first | exact HK.out | apply Kept.alloc | apply Kept.drewN | apply Kept.drew) | exact HK.out)⟩

end Go.Proofs.Ytedpoahndddgfaa.PAll
end
