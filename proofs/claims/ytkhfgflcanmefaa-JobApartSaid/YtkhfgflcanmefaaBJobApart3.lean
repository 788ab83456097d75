/- Words, plain functions and contracts of the functions that the law of this claim reaches; no conditions. -/
import Derived.Test.YtkhfgflcanmefaaBJobApart2
section
namespace Go.Proofs.Ytkhfgflcanmefaa.PAll
open Go.RowKit Go.Proofs.YtkhfgflcanmefaaW.PrintWords Go.Proofs.YtkhfgflcanmefaaW.PrintLast Go.Proofs.YtkhfgflcanmefaaW.PrintMore
attribute [local go_sem] max2_int min2_int max_two min_two max_three min_three max_four min_four   -- for this text's walks alone
set_option linter.unusedVariables false
set_option linter.unusedSimpArgs false

mutual
def slices_symMergeCmpFunc_Job__job_Due_1.l0 : Nat → List (S32) → Int → Int → Int → Option ((List (S32)))
 | 0, _, _, _, _ => none
 | k + 1, x0, x1, x10, x11 => if x10 < x11 then (if 0 ≤ (wrap64 ((IntKind.u64.wrap (wrap64 (x10 + x11))) / 2)) then (if (wrap64 ((IntKind.u64.wrap (wrap64 (x10 + x11))) / 2)) < (x0.length : Int) then (if 0 ≤ x1 then (if x1 < (x0.length : Int) then ((job_Due_1.f ((rd_T32 x0 (wrap64 ((IntKind.u64.wrap (wrap64 (x10 + x11))) / 2))).f0) ((rd_T32 x0 (wrap64 ((IntKind.u64.wrap (wrap64 (x10 + x11))) / 2))).f1) ((rd_T32 x0 (wrap64 ((IntKind.u64.wrap (wrap64 (x10 + x11))) / 2))).f2) ((rd_T32 x0 (wrap64 ((IntKind.u64.wrap (wrap64 (x10 + x11))) / 2))).f3) ((rd_T32 x0 (wrap64 ((IntKind.u64.wrap (wrap64 (x10 + x11))) / 2))).f4) ((rd_T32 x0 (wrap64 ((IntKind.u64.wrap (wrap64 (x10 + x11))) / 2))).f5) ((rd_T32 x0 (wrap64 ((IntKind.u64.wrap (wrap64 (x10 + x11))) / 2))).f6) ((rd_T32 x0 (wrap64 ((IntKind.u64.wrap (wrap64 (x10 + x11))) / 2))).f7) ((rd_T32 x0 (wrap64 ((IntKind.u64.wrap (wrap64 (x10 + x11))) / 2))).f8) ((rd_T32 x0 (wrap64 ((IntKind.u64.wrap (wrap64 (x10 + x11))) / 2))).f9) ((rd_T32 x0 (wrap64 ((IntKind.u64.wrap (wrap64 (x10 + x11))) / 2))).f10) ((rd_T32 x0 (wrap64 ((IntKind.u64.wrap (wrap64 (x10 + x11))) / 2))).f11) ((rd_T32 x0 x1).f0) ((rd_T32 x0 x1).f1) ((rd_T32 x0 x1).f2) ((rd_T32 x0 x1).f3) ((rd_T32 x0 x1).f4) ((rd_T32 x0 x1).f5) ((rd_T32 x0 x1).f6) ((rd_T32 x0 x1).f7) ((rd_T32 x0 x1).f8) ((rd_T32 x0 x1).f9) ((rd_T32 x0 x1).f10) ((rd_T32 x0 x1).f11)).bind fun t283 => (if t283 < 0 then (slices_symMergeCmpFunc_Job__job_Due_1.l0 k x0 x1 (wrap64 ((wrap64 ((IntKind.u64.wrap (wrap64 (x10 + x11))) / 2)) + 1)) x11) else (slices_symMergeCmpFunc_Job__job_Due_1.l0 k x0 x1 x10 (wrap64 ((IntKind.u64.wrap (wrap64 (x10 + x11))) / 2))))) else (none)) else (none)) else (none)) else (none)) else (slices_symMergeCmpFunc_Job__job_Due_1.l1 k x0 x10 x1)
def slices_symMergeCmpFunc_Job__job_Due_1.l1 : Nat → List (S32) → Int → Int → Option ((List (S32)))
 | 0, _, _, _ => none
 | k + 1, x0, x10, x13 => if x13 < (wrap64 (x10 - 1)) then (if 0 ≤ (wrap64 (x13 + 1)) then (if (wrap64 (x13 + 1)) < (x0.length : Int) then (if 0 ≤ x13 then (if x13 < (x0.length : Int) then (slices_symMergeCmpFunc_Job__job_Due_1.l1 k ((x0.set (x13 : Int).toNat (⟨(rd_T32 x0 (wrap64 (x13 + 1))).f0, (rd_T32 x0 (wrap64 (x13 + 1))).f1, (rd_T32 x0 (wrap64 (x13 + 1))).f2, (rd_T32 x0 (wrap64 (x13 + 1))).f3, (rd_T32 x0 (wrap64 (x13 + 1))).f4, (rd_T32 x0 (wrap64 (x13 + 1))).f5, (rd_T32 x0 (wrap64 (x13 + 1))).f6, (rd_T32 x0 (wrap64 (x13 + 1))).f7, (rd_T32 x0 (wrap64 (x13 + 1))).f8, (rd_T32 x0 (wrap64 (x13 + 1))).f9, (rd_T32 x0 (wrap64 (x13 + 1))).f10, (rd_T32 x0 (wrap64 (x13 + 1))).f11⟩ : S32)).set ((wrap64 (x13 + 1)) : Int).toNat (⟨(rd_T32 x0 x13).f0, (rd_T32 x0 x13).f1, (rd_T32 x0 x13).f2, (rd_T32 x0 x13).f3, (rd_T32 x0 x13).f4, (rd_T32 x0 x13).f5, (rd_T32 x0 x13).f6, (rd_T32 x0 x13).f7, (rd_T32 x0 x13).f8, (rd_T32 x0 x13).f9, (rd_T32 x0 x13).f10, (rd_T32 x0 x13).f11⟩ : S32)) x10 (wrap64 (x13 + 1))) else (none)) else (none)) else (none)) else (none)) else (some x0)
def slices_symMergeCmpFunc_Job__job_Due_1.l2 : Nat → List (S32) → Int → Int → Int → Option ((List (S32)))
 | 0, _, _, _, _ => none
 | k + 1, x0, x2, x14, x15 => if x14 < x15 then (if 0 ≤ x2 then (if x2 < (x0.length : Int) then (if 0 ≤ (wrap64 ((IntKind.u64.wrap (wrap64 (x14 + x15))) / 2)) then (if (wrap64 ((IntKind.u64.wrap (wrap64 (x14 + x15))) / 2)) < (x0.length : Int) then ((job_Due_1.f ((rd_T32 x0 x2).f0) ((rd_T32 x0 x2).f1) ((rd_T32 x0 x2).f2) ((rd_T32 x0 x2).f3) ((rd_T32 x0 x2).f4) ((rd_T32 x0 x2).f5) ((rd_T32 x0 x2).f6) ((rd_T32 x0 x2).f7) ((rd_T32 x0 x2).f8) ((rd_T32 x0 x2).f9) ((rd_T32 x0 x2).f10) ((rd_T32 x0 x2).f11) ((rd_T32 x0 (wrap64 ((IntKind.u64.wrap (wrap64 (x14 + x15))) / 2))).f0) ((rd_T32 x0 (wrap64 ((IntKind.u64.wrap (wrap64 (x14 + x15))) / 2))).f1) ((rd_T32 x0 (wrap64 ((IntKind.u64.wrap (wrap64 (x14 + x15))) / 2))).f2) ((rd_T32 x0 (wrap64 ((IntKind.u64.wrap (wrap64 (x14 + x15))) / 2))).f3) ((rd_T32 x0 (wrap64 ((IntKind.u64.wrap (wrap64 (x14 + x15))) / 2))).f4) ((rd_T32 x0 (wrap64 ((IntKind.u64.wrap (wrap64 (x14 + x15))) / 2))).f5) ((rd_T32 x0 (wrap64 ((IntKind.u64.wrap (wrap64 (x14 + x15))) / 2))).f6) ((rd_T32 x0 (wrap64 ((IntKind.u64.wrap (wrap64 (x14 + x15))) / 2))).f7) ((rd_T32 x0 (wrap64 ((IntKind.u64.wrap (wrap64 (x14 + x15))) / 2))).f8) ((rd_T32 x0 (wrap64 ((IntKind.u64.wrap (wrap64 (x14 + x15))) / 2))).f9) ((rd_T32 x0 (wrap64 ((IntKind.u64.wrap (wrap64 (x14 + x15))) / 2))).f10) ((rd_T32 x0 (wrap64 ((IntKind.u64.wrap (wrap64 (x14 + x15))) / 2))).f11)).bind fun t290 => (if t290 < 0 then (slices_symMergeCmpFunc_Job__job_Due_1.l2 k x0 x2 x14 (wrap64 ((IntKind.u64.wrap (wrap64 (x14 + x15))) / 2))) else (slices_symMergeCmpFunc_Job__job_Due_1.l2 k x0 x2 (wrap64 ((wrap64 ((IntKind.u64.wrap (wrap64 (x14 + x15))) / 2)) + 1)) x15))) else (none)) else (none)) else (none)) else (none)) else (slices_symMergeCmpFunc_Job__job_Due_1.l3 k x0 x14 x2)
def slices_symMergeCmpFunc_Job__job_Due_1.l3 : Nat → List (S32) → Int → Int → Option ((List (S32)))
 | 0, _, _, _ => none
 | k + 1, x0, x14, x17 => if x17 > x14 then (if 0 ≤ (wrap64 (x17 - 1)) then (if (wrap64 (x17 - 1)) < (x0.length : Int) then (if 0 ≤ x17 then (if x17 < (x0.length : Int) then (slices_symMergeCmpFunc_Job__job_Due_1.l3 k ((x0.set (x17 : Int).toNat (⟨(rd_T32 x0 (wrap64 (x17 - 1))).f0, (rd_T32 x0 (wrap64 (x17 - 1))).f1, (rd_T32 x0 (wrap64 (x17 - 1))).f2, (rd_T32 x0 (wrap64 (x17 - 1))).f3, (rd_T32 x0 (wrap64 (x17 - 1))).f4, (rd_T32 x0 (wrap64 (x17 - 1))).f5, (rd_T32 x0 (wrap64 (x17 - 1))).f6, (rd_T32 x0 (wrap64 (x17 - 1))).f7, (rd_T32 x0 (wrap64 (x17 - 1))).f8, (rd_T32 x0 (wrap64 (x17 - 1))).f9, (rd_T32 x0 (wrap64 (x17 - 1))).f10, (rd_T32 x0 (wrap64 (x17 - 1))).f11⟩ : S32)).set ((wrap64 (x17 - 1)) : Int).toNat (⟨(rd_T32 x0 x17).f0, (rd_T32 x0 x17).f1, (rd_T32 x0 x17).f2, (rd_T32 x0 x17).f3, (rd_T32 x0 x17).f4, (rd_T32 x0 x17).f5, (rd_T32 x0 x17).f6, (rd_T32 x0 x17).f7, (rd_T32 x0 x17).f8, (rd_T32 x0 x17).f9, (rd_T32 x0 x17).f10, (rd_T32 x0 x17).f11⟩ : S32)) x14 (wrap64 (x17 - 1))) else (none)) else (none)) else (none)) else (none)) else (some x0)
def slices_symMergeCmpFunc_Job__job_Due_1.j4 : Nat → List (S32) → Int → Int → Int → Int → Int → Int → Int → Option ((List (S32)))
 | 0, _, _, _, _, _, _, _, _ => none
 | k + 1, x0, x1, x2, x3, x18, x19, x20, x21 => slices_symMergeCmpFunc_Job__job_Due_1.l4 k x0 x1 x2 x3 x18 x19 x20 x21 (wrap64 (x19 - 1))
def slices_symMergeCmpFunc_Job__job_Due_1.l4 : Nat → List (S32) → Int → Int → Int → Int → Int → Int → Int → Int → Option ((List (S32)))
 | 0, _, _, _, _, _, _, _, _, _ => none
 | k + 1, x0, x1, x2, x3, x18, x19, x20, x21, x22 => if x20 < x21 then (if 0 ≤ (wrap64 (x22 - (wrap64 ((IntKind.u64.wrap (wrap64 (x20 + x21))) / 2)))) then (if (wrap64 (x22 - (wrap64 ((IntKind.u64.wrap (wrap64 (x20 + x21))) / 2)))) < (x0.length : Int) then (if 0 ≤ (wrap64 ((IntKind.u64.wrap (wrap64 (x20 + x21))) / 2)) then (if (wrap64 ((IntKind.u64.wrap (wrap64 (x20 + x21))) / 2)) < (x0.length : Int) then ((job_Due_1.f ((rd_T32 x0 (wrap64 (x22 - (wrap64 ((IntKind.u64.wrap (wrap64 (x20 + x21))) / 2))))).f0) ((rd_T32 x0 (wrap64 (x22 - (wrap64 ((IntKind.u64.wrap (wrap64 (x20 + x21))) / 2))))).f1) ((rd_T32 x0 (wrap64 (x22 - (wrap64 ((IntKind.u64.wrap (wrap64 (x20 + x21))) / 2))))).f2) ((rd_T32 x0 (wrap64 (x22 - (wrap64 ((IntKind.u64.wrap (wrap64 (x20 + x21))) / 2))))).f3) ((rd_T32 x0 (wrap64 (x22 - (wrap64 ((IntKind.u64.wrap (wrap64 (x20 + x21))) / 2))))).f4) ((rd_T32 x0 (wrap64 (x22 - (wrap64 ((IntKind.u64.wrap (wrap64 (x20 + x21))) / 2))))).f5) ((rd_T32 x0 (wrap64 (x22 - (wrap64 ((IntKind.u64.wrap (wrap64 (x20 + x21))) / 2))))).f6) ((rd_T32 x0 (wrap64 (x22 - (wrap64 ((IntKind.u64.wrap (wrap64 (x20 + x21))) / 2))))).f7) ((rd_T32 x0 (wrap64 (x22 - (wrap64 ((IntKind.u64.wrap (wrap64 (x20 + x21))) / 2))))).f8) ((rd_T32 x0 (wrap64 (x22 - (wrap64 ((IntKind.u64.wrap (wrap64 (x20 + x21))) / 2))))).f9) ((rd_T32 x0 (wrap64 (x22 - (wrap64 ((IntKind.u64.wrap (wrap64 (x20 + x21))) / 2))))).f10) ((rd_T32 x0 (wrap64 (x22 - (wrap64 ((IntKind.u64.wrap (wrap64 (x20 + x21))) / 2))))).f11) ((rd_T32 x0 (wrap64 ((IntKind.u64.wrap (wrap64 (x20 + x21))) / 2))).f0) ((rd_T32 x0 (wrap64 ((IntKind.u64.wrap (wrap64 (x20 + x21))) / 2))).f1) ((rd_T32 x0 (wrap64 ((IntKind.u64.wrap (wrap64 (x20 + x21))) / 2))).f2) ((rd_T32 x0 (wrap64 ((IntKind.u64.wrap (wrap64 (x20 + x21))) / 2))).f3) ((rd_T32 x0 (wrap64 ((IntKind.u64.wrap (wrap64 (x20 + x21))) / 2))).f4) ((rd_T32 x0 (wrap64 ((IntKind.u64.wrap (wrap64 (x20 + x21))) / 2))).f5) ((rd_T32 x0 (wrap64 ((IntKind.u64.wrap (wrap64 (x20 + x21))) / 2))).f6) ((rd_T32 x0 (wrap64 ((IntKind.u64.wrap (wrap64 (x20 + x21))) / 2))).f7) ((rd_T32 x0 (wrap64 ((IntKind.u64.wrap (wrap64 (x20 + x21))) / 2))).f8) ((rd_T32 x0 (wrap64 ((IntKind.u64.wrap (wrap64 (x20 + x21))) / 2))).f9) ((rd_T32 x0 (wrap64 ((IntKind.u64.wrap (wrap64 (x20 + x21))) / 2))).f10) ((rd_T32 x0 (wrap64 ((IntKind.u64.wrap (wrap64 (x20 + x21))) / 2))).f11)).bind fun t297 => (if t297 < 0 then (slices_symMergeCmpFunc_Job__job_Due_1.l4 k x0 x1 x2 x3 x18 x19 x20 (wrap64 ((IntKind.u64.wrap (wrap64 (x20 + x21))) / 2)) x22) else (slices_symMergeCmpFunc_Job__job_Due_1.l4 k x0 x1 x2 x3 x18 x19 (wrap64 ((wrap64 ((IntKind.u64.wrap (wrap64 (x20 + x21))) / 2)) + 1)) x21 x22))) else (none)) else (none)) else (none)) else (none)) else (if x20 < x2 then (slices_symMergeCmpFunc_Job__job_Due_1.j6 k x0 x1 x2 x3 x18 x20 (wrap64 (x19 - x20)) (decide (x2 < (wrap64 (x19 - x20))))) else (slices_symMergeCmpFunc_Job__job_Due_1.j6 k x0 x1 x2 x3 x18 x20 (wrap64 (x19 - x20)) false))
def slices_symMergeCmpFunc_Job__job_Due_1.j6 : Nat → List (S32) → Int → Int → Int → Int → Int → Int → Bool → Option ((List (S32)))
 | 0, _, _, _, _, _, _, _, _ => none
 | k + 1, x0, x1, x2, x3, x18, x20, x24, x185 => if x185 = true then ((slices_rotateCmpFunc_Job__job_Due_1.f k x0 x20 x2 x24).bind fun t298 => (slices_symMergeCmpFunc_Job__job_Due_1.j7 k t298 x1 x3 x18 x20 x24)) else (slices_symMergeCmpFunc_Job__job_Due_1.j7 k x0 x1 x3 x18 x20 x24)
def slices_symMergeCmpFunc_Job__job_Due_1.j7 : Nat → List (S32) → Int → Int → Int → Int → Int → Option ((List (S32)))
 | 0, _, _, _, _, _, _ => none
 | k + 1, x0, x1, x3, x18, x20, x24 => if x1 < x20 then (slices_symMergeCmpFunc_Job__job_Due_1.j8 k x0 x1 x3 x18 x20 x24 (decide (x20 < x18))) else (slices_symMergeCmpFunc_Job__job_Due_1.j8 k x0 x1 x3 x18 x20 x24 false)
def slices_symMergeCmpFunc_Job__job_Due_1.j8 : Nat → List (S32) → Int → Int → Int → Int → Int → Bool → Option ((List (S32)))
 | 0, _, _, _, _, _, _, _ => none
 | k + 1, x0, x1, x3, x18, x20, x24, x199 => if x199 = true then ((slices_symMergeCmpFunc_Job__job_Due_1.f k x0 x1 x20 x18).bind fun t299 => (if x18 < x24 then (if x24 < x3 then ((slices_symMergeCmpFunc_Job__job_Due_1.f k t299 x18 x24 x3).bind fun t300 => (some t300)) else (some t299)) else (some t299))) else (if x18 < x24 then (if x24 < x3 then ((slices_symMergeCmpFunc_Job__job_Due_1.f k x0 x18 x24 x3).bind fun t301 => (some t301)) else (some x0)) else (some x0))
def slices_symMergeCmpFunc_Job__job_Due_1.f : Nat → List (S32) → Int → Int → Int → Option ((List (S32)))
 | 0, _, _, _, _ => none
 | k + 1, l0, a1, a2, a3 => if (wrap64 (a2 - a1)) = 1 then (slices_symMergeCmpFunc_Job__job_Due_1.l0 k l0 a1 a2 a3) else (if (wrap64 (a3 - a2)) = 1 then (slices_symMergeCmpFunc_Job__job_Due_1.l2 k l0 a2 a1 a2) else (if a2 > (wrap64 ((IntKind.u64.wrap (wrap64 (a1 + a3))) / 2)) then (slices_symMergeCmpFunc_Job__job_Due_1.j4 k l0 a1 a2 a3 (wrap64 ((IntKind.u64.wrap (wrap64 (a1 + a3))) / 2)) (wrap64 ((wrap64 ((IntKind.u64.wrap (wrap64 (a1 + a3))) / 2)) + a2)) (wrap64 ((wrap64 ((wrap64 ((IntKind.u64.wrap (wrap64 (a1 + a3))) / 2)) + a2)) - a3)) (wrap64 ((IntKind.u64.wrap (wrap64 (a1 + a3))) / 2))) else (slices_symMergeCmpFunc_Job__job_Due_1.j4 k l0 a1 a2 a3 (wrap64 ((IntKind.u64.wrap (wrap64 (a1 + a3))) / 2)) (wrap64 ((wrap64 ((IntKind.u64.wrap (wrap64 (a1 + a3))) / 2)) + a2)) a1 a2)))
end
theorem slices_symMergeCmpFunc_Job__job_Due_1.mono_l : ∀ k, (∀ y0 y1 y2 y3, LeO (slices_symMergeCmpFunc_Job__job_Due_1.f k y0 y1 y2 y3) (slices_symMergeCmpFunc_Job__job_Due_1.f (k + 1) y0 y1 y2 y3)) ∧ (∀ y0 y1 y2 y3, LeO (slices_symMergeCmpFunc_Job__job_Due_1.l0 k y0 y1 y2 y3) (slices_symMergeCmpFunc_Job__job_Due_1.l0 (k + 1) y0 y1 y2 y3)) ∧ (∀ y0 y1 y2, LeO (slices_symMergeCmpFunc_Job__job_Due_1.l1 k y0 y1 y2) (slices_symMergeCmpFunc_Job__job_Due_1.l1 (k + 1) y0 y1 y2)) ∧ (∀ y0 y1 y2 y3, LeO (slices_symMergeCmpFunc_Job__job_Due_1.l2 k y0 y1 y2 y3) (slices_symMergeCmpFunc_Job__job_Due_1.l2 (k + 1) y0 y1 y2 y3)) ∧ (∀ y0 y1 y2, LeO (slices_symMergeCmpFunc_Job__job_Due_1.l3 k y0 y1 y2) (slices_symMergeCmpFunc_Job__job_Due_1.l3 (k + 1) y0 y1 y2)) ∧ (∀ y0 y1 y2 y3 y4 y5 y6 y7, LeO (slices_symMergeCmpFunc_Job__job_Due_1.j4 k y0 y1 y2 y3 y4 y5 y6 y7) (slices_symMergeCmpFunc_Job__job_Due_1.j4 (k + 1) y0 y1 y2 y3 y4 y5 y6 y7)) ∧ (∀ y0 y1 y2 y3 y4 y5 y6 y7 y8, LeO (slices_symMergeCmpFunc_Job__job_Due_1.l4 k y0 y1 y2 y3 y4 y5 y6 y7 y8) (slices_symMergeCmpFunc_Job__job_Due_1.l4 (k + 1) y0 y1 y2 y3 y4 y5 y6 y7 y8)) ∧ (∀ y0 y1 y2 y3 y4 y5 y6 y7, LeO (slices_symMergeCmpFunc_Job__job_Due_1.j6 k y0 y1 y2 y3 y4 y5 y6 y7) (slices_symMergeCmpFunc_Job__job_Due_1.j6 (k + 1) y0 y1 y2 y3 y4 y5 y6 y7)) ∧ (∀ y0 y1 y2 y3 y4 y5, LeO (slices_symMergeCmpFunc_Job__job_Due_1.j7 k y0 y1 y2 y3 y4 y5) (slices_symMergeCmpFunc_Job__job_Due_1.j7 (k + 1) y0 y1 y2 y3 y4 y5)) ∧ (∀ y0 y1 y2 y3 y4 y5 y6, LeO (slices_symMergeCmpFunc_Job__job_Due_1.j8 k y0 y1 y2 y3 y4 y5 y6) (slices_symMergeCmpFunc_Job__job_Due_1.j8 (k + 1) y0 y1 y2 y3 y4 y5 y6))
 | 0 => ⟨fun _ _ _ _ r h => by simp [slices_symMergeCmpFunc_Job__job_Due_1.f] at h, fun _ _ _ _ r h => by simp [slices_symMergeCmpFunc_Job__job_Due_1.l0] at h, fun _ _ _ r h => by simp [slices_symMergeCmpFunc_Job__job_Due_1.l1] at h, fun _ _ _ _ r h => by simp [slices_symMergeCmpFunc_Job__job_Due_1.l2] at h, fun _ _ _ r h => by simp [slices_symMergeCmpFunc_Job__job_Due_1.l3] at h, fun _ _ _ _ _ _ _ _ r h => by simp [slices_symMergeCmpFunc_Job__job_Due_1.j4] at h, fun _ _ _ _ _ _ _ _ _ r h => by simp [slices_symMergeCmpFunc_Job__job_Due_1.l4] at h, fun _ _ _ _ _ _ _ _ r h => by simp [slices_symMergeCmpFunc_Job__job_Due_1.j6] at h, fun _ _ _ _ _ _ r h => by simp [slices_symMergeCmpFunc_Job__job_Due_1.j7] at h, fun _ _ _ _ _ _ _ r h => by simp [slices_symMergeCmpFunc_Job__job_Due_1.j8] at h⟩
 | k + 1 => by
  obtain ⟨ih0, ih1, ih2, ih3, ih4, ih5, ih6, ih7, ih8, ih9⟩ := slices_symMergeCmpFunc_Job__job_Due_1.mono_l k
  refine ⟨?_, ?_, ?_, ?_, ?_, ?_, ?_, ?_, ?_, ?_⟩
  ·intro y0 y1 y2 y3
   unfold slices_symMergeCmpFunc_Job__job_Due_1.f
   repeat' first
   | (with_reducible exact ih0 _ _ _ _)
   | (with_reducible exact ih1 _ _ _ _)
   | (with_reducible exact ih2 _ _ _)
   | (with_reducible exact ih3 _ _ _ _)
   | (with_reducible exact ih4 _ _ _)
   | (with_reducible exact ih5 _ _ _ _ _ _ _ _)
   | (with_reducible exact ih6 _ _ _ _ _ _ _ _ _)
   | (with_reducible exact ih7 _ _ _ _ _ _ _ _)
   | (with_reducible exact ih8 _ _ _ _ _ _)
   | (with_reducible exact ih9 _ _ _ _ _ _ _)
   | (with_reducible exact slices_rotateCmpFunc_Job__job_Due_1.mono _ _ _ _ _)
   | (with_reducible exact LeO.refl _)
   | (with_reducible exact LeO.none _)
   | (with_reducible refine LeO.ite ?_ ?_)
   | (with_reducible refine LeO.bind ?_ (fun _ => ?_))
   | exact ih0 _ _ _ _
   | exact ih1 _ _ _ _
   | exact ih2 _ _ _
   | exact ih3 _ _ _ _
   | exact ih4 _ _ _
   | exact ih5 _ _ _ _ _ _ _ _
   | exact ih6 _ _ _ _ _ _ _ _ _
   | exact ih7 _ _ _ _ _ _ _ _
   | exact ih8 _ _ _ _ _ _
   | exact ih9 _ _ _ _ _ _ _
   | exact slices_rotateCmpFunc_Job__job_Due_1.mono _ _ _ _ _
   | exact LeO.none _
   | refine LeO.ite ?_ ?_
   | refine LeO.bind ?_ (fun _ => ?_)
  ·intro y0 y1 y2 y3
   unfold slices_symMergeCmpFunc_Job__job_Due_1.l0
   repeat' first
   | (with_reducible exact ih0 _ _ _ _)
   | (with_reducible exact ih1 _ _ _ _)
   | (with_reducible exact ih2 _ _ _)
   | (with_reducible exact ih3 _ _ _ _)
   | (with_reducible exact ih4 _ _ _)
   | (with_reducible exact ih5 _ _ _ _ _ _ _ _)
   | (with_reducible exact ih6 _ _ _ _ _ _ _ _ _)
   | (with_reducible exact ih7 _ _ _ _ _ _ _ _)
   | (with_reducible exact ih8 _ _ _ _ _ _)
   | (with_reducible exact ih9 _ _ _ _ _ _ _)
   | (with_reducible exact slices_rotateCmpFunc_Job__job_Due_1.mono _ _ _ _ _)
   | (with_reducible exact LeO.refl _)
   | (with_reducible exact LeO.none _)
   | (with_reducible refine LeO.ite ?_ ?_)
   | (with_reducible refine LeO.bind ?_ (fun _ => ?_))
   | exact ih0 _ _ _ _
   | exact ih1 _ _ _ _
   | exact ih2 _ _ _
   | exact ih3 _ _ _ _
   | exact ih4 _ _ _
   | exact ih5 _ _ _ _ _ _ _ _
   | exact ih6 _ _ _ _ _ _ _ _ _
   | exact ih7 _ _ _ _ _ _ _ _
   | exact ih8 _ _ _ _ _ _
   | exact ih9 _ _ _ _ _ _ _
   | exact slices_rotateCmpFunc_Job__job_Due_1.mono _ _ _ _ _
   | exact LeO.none _
   | refine LeO.ite ?_ ?_
   | refine LeO.bind ?_ (fun _ => ?_)
  ·intro y0 y1 y2
   unfold slices_symMergeCmpFunc_Job__job_Due_1.l1
   repeat' first
   | (with_reducible exact ih0 _ _ _ _)
   | (with_reducible exact ih1 _ _ _ _)
   | (with_reducible exact ih2 _ _ _)
   | (with_reducible exact ih3 _ _ _ _)
   | (with_reducible exact ih4 _ _ _)
   | (with_reducible exact ih5 _ _ _ _ _ _ _ _)
   | (with_reducible exact ih6 _ _ _ _ _ _ _ _ _)
   | (with_reducible exact ih7 _ _ _ _ _ _ _ _)
   | (with_reducible exact ih8 _ _ _ _ _ _)
   | (with_reducible exact ih9 _ _ _ _ _ _ _)
   | (with_reducible exact slices_rotateCmpFunc_Job__job_Due_1.mono _ _ _ _ _)
   | (with_reducible exact LeO.refl _)
   | (with_reducible exact LeO.none _)
   | (with_reducible refine LeO.ite ?_ ?_)
   | (with_reducible refine LeO.bind ?_ (fun _ => ?_))
   | exact ih0 _ _ _ _
   | exact ih1 _ _ _ _
   | exact ih2 _ _ _
   | exact ih3 _ _ _ _
   | exact ih4 _ _ _
   | exact ih5 _ _ _ _ _ _ _ _
   | exact ih6 _ _ _ _ _ _ _ _ _
   | exact ih7 _ _ _ _ _ _ _ _
   | exact ih8 _ _ _ _ _ _
   | exact ih9 _ _ _ _ _ _ _
   | exact slices_rotateCmpFunc_Job__job_Due_1.mono _ _ _ _ _
   | exact LeO.none _
   | refine LeO.ite ?_ ?_
   | refine LeO.bind ?_ (fun _ => ?_)
  ·intro y0 y1 y2 y3
   unfold slices_symMergeCmpFunc_Job__job_Due_1.l2
   repeat' first
   | (with_reducible exact ih0 _ _ _ _)
   | (with_reducible exact ih1 _ _ _ _)
   | (with_reducible exact ih2 _ _ _)
   | (with_reducible exact ih3 _ _ _ _)
   | (with_reducible exact ih4 _ _ _)
   | (with_reducible exact ih5 _ _ _ _ _ _ _ _)
   | (with_reducible exact ih6 _ _ _ _ _ _ _ _ _)
   | (with_reducible exact ih7 _ _ _ _ _ _ _ _)
   | (with_reducible exact ih8 _ _ _ _ _ _)
   | (with_reducible exact ih9 _ _ _ _ _ _ _)
   | (with_reducible exact slices_rotateCmpFunc_Job__job_Due_1.mono _ _ _ _ _)
   | (with_reducible exact LeO.refl _)
   | (with_reducible exact LeO.none _)
   | (with_reducible refine LeO.ite ?_ ?_)
   | (with_reducible refine LeO.bind ?_ (fun _ => ?_))
   | exact ih0 _ _ _ _
   | exact ih1 _ _ _ _
   | exact ih2 _ _ _
   | exact ih3 _ _ _ _
   | exact ih4 _ _ _
   | exact ih5 _ _ _ _ _ _ _ _
   | exact ih6 _ _ _ _ _ _ _ _ _
   | exact ih7 _ _ _ _ _ _ _ _
   | exact ih8 _ _ _ _ _ _
   | exact ih9 _ _ _ _ _ _ _
   | exact slices_rotateCmpFunc_Job__job_Due_1.mono _ _ _ _ _
   | exact LeO.none _
   | refine LeO.ite ?_ ?_
   | refine LeO.bind ?_ (fun _ => ?_)
  ·intro y0 y1 y2
   unfold slices_symMergeCmpFunc_Job__job_Due_1.l3
   repeat' first
   | (with_reducible exact ih0 _ _ _ _)
   | (with_reducible exact ih1 _ _ _ _)
   | (with_reducible exact ih2 _ _ _)
   | (with_reducible exact ih3 _ _ _ _)
   | (with_reducible exact ih4 _ _ _)
   | (with_reducible exact ih5 _ _ _ _ _ _ _ _)
   | (with_reducible exact ih6 _ _ _ _ _ _ _ _ _)
   | (with_reducible exact ih7 _ _ _ _ _ _ _ _)
   | (with_reducible exact ih8 _ _ _ _ _ _)
   | (with_reducible exact ih9 _ _ _ _ _ _ _)
   | (with_reducible exact slices_rotateCmpFunc_Job__job_Due_1.mono _ _ _ _ _)
   | (with_reducible exact LeO.refl _)
   | (with_reducible exact LeO.none _)
   | (with_reducible refine LeO.ite ?_ ?_)
   | (with_reducible refine LeO.bind ?_ (fun _ => ?_))
   | exact ih0 _ _ _ _
   | exact ih1 _ _ _ _
   | exact ih2 _ _ _
   | exact ih3 _ _ _ _
   | exact ih4 _ _ _
   | exact ih5 _ _ _ _ _ _ _ _
   | exact ih6 _ _ _ _ _ _ _ _ _
   | exact ih7 _ _ _ _ _ _ _ _
   | exact ih8 _ _ _ _ _ _
   | exact ih9 _ _ _ _ _ _ _
   | exact slices_rotateCmpFunc_Job__job_Due_1.mono _ _ _ _ _
   | exact LeO.none _
   | refine LeO.ite ?_ ?_
   | refine LeO.bind ?_ (fun _ => ?_)
  ·intro y0 y1 y2 y3 y4 y5 y6 y7
   unfold slices_symMergeCmpFunc_Job__job_Due_1.j4
   repeat' first
   | (with_reducible exact ih0 _ _ _ _)
   | (with_reducible exact ih1 _ _ _ _)
   | (with_reducible exact ih2 _ _ _)
   | (with_reducible exact ih3 _ _ _ _)
   | (with_reducible exact ih4 _ _ _)
   | (with_reducible exact ih5 _ _ _ _ _ _ _ _)
   | (with_reducible exact ih6 _ _ _ _ _ _ _ _ _)
   | (with_reducible exact ih7 _ _ _ _ _ _ _ _)
   | (with_reducible exact ih8 _ _ _ _ _ _)
   | (with_reducible exact ih9 _ _ _ _ _ _ _)
   | (with_reducible exact slices_rotateCmpFunc_Job__job_Due_1.mono _ _ _ _ _)
   | (with_reducible exact LeO.refl _)
   | (with_reducible exact LeO.none _)
   | (with_reducible refine LeO.ite ?_ ?_)
   | (with_reducible refine LeO.bind ?_ (fun _ => ?_))
   | exact ih0 _ _ _ _
   | exact ih1 _ _ _ _
   | exact ih2 _ _ _
   | exact ih3 _ _ _ _
   | exact ih4 _ _ _
   | exact ih5 _ _ _ _ _ _ _ _
   | exact ih6 _ _ _ _ _ _ _ _ _
   | exact ih7 _ _ _ _ _ _ _ _
   | exact ih8 _ _ _ _ _ _
   | exact ih9 _ _ _ _ _ _ _
   | exact slices_rotateCmpFunc_Job__job_Due_1.mono _ _ _ _ _
   | exact LeO.none _
   | refine LeO.ite ?_ ?_
   | refine LeO.bind ?_ (fun _ => ?_)
  ·intro y0 y1 y2 y3 y4 y5 y6 y7 y8
   unfold slices_symMergeCmpFunc_Job__job_Due_1.l4
   repeat' first
   | (with_reducible exact ih0 _ _ _ _)
   | (with_reducible exact ih1 _ _ _ _)
   | (with_reducible exact ih2 _ _ _)
   | (with_reducible exact ih3 _ _ _ _)
   | (with_reducible exact ih4 _ _ _)
   | (with_reducible exact ih5 _ _ _ _ _ _ _ _)
   | (with_reducible exact ih6 _ _ _ _ _ _ _ _ _)
   | (with_reducible exact ih7 _ _ _ _ _ _ _ _)
   | (with_reducible exact ih8 _ _ _ _ _ _)
   | (with_reducible exact ih9 _ _ _ _ _ _ _)
   | (with_reducible exact slices_rotateCmpFunc_Job__job_Due_1.mono _ _ _ _ _)
   | (with_reducible exact LeO.refl _)
   | (with_reducible exact LeO.none _)
   | (with_reducible refine LeO.ite ?_ ?_)
   | (with_reducible refine LeO.bind ?_ (fun _ => ?_))
   | exact ih0 _ _ _ _
   | exact ih1 _ _ _ _
   | exact ih2 _ _ _
   | exact ih3 _ _ _ _
   | exact ih4 _ _ _
   | exact ih5 _ _ _ _ _ _ _ _
   | exact ih6 _ _ _ _ _ _ _ _ _
   | exact ih7 _ _ _ _ _ _ _ _
   | exact ih8 _ _ _ _ _ _
   | exact ih9 _ _ _ _ _ _ _
   | exact slices_rotateCmpFunc_Job__job_Due_1.mono _ _ _ _ _
   | exact LeO.none _
   | refine LeO.ite ?_ ?_
   | refine LeO.bind ?_ (fun _ => ?_)
  ·intro y0 y1 y2 y3 y4 y5 y6 y7
   unfold slices_symMergeCmpFunc_Job__job_Due_1.j6
   repeat' first
   | (with_reducible exact ih0 _ _ _ _)
   | (with_reducible exact ih1 _ _ _ _)
   | (with_reducible exact ih2 _ _ _)
   | (with_reducible exact ih3 _ _ _ _)
   | (with_reducible exact ih4 _ _ _)
   | (with_reducible exact ih5 _ _ _ _ _ _ _ _)
   | (with_reducible exact ih6 _ _ _ _ _ _ _ _ _)
   | (with_reducible exact ih7 _ _ _ _ _ _ _ _)
   | (with_reducible exact ih8 _ _ _ _ _ _)
   | (with_reducible exact ih9 _ _ _ _ _ _ _)
   | (with_reducible exact slices_rotateCmpFunc_Job__job_Due_1.mono _ _ _ _ _)
   | (with_reducible exact LeO.refl _)
   | (with_reducible exact LeO.none _)
   | (with_reducible refine LeO.ite ?_ ?_)
   | (with_reducible refine LeO.bind ?_ (fun _ => ?_))
   | exact ih0 _ _ _ _
   | exact ih1 _ _ _ _
   | exact ih2 _ _ _
   | exact ih3 _ _ _ _
   | exact ih4 _ _ _
   | exact ih5 _ _ _ _ _ _ _ _
   | exact ih6 _ _ _ _ _ _ _ _ _
   | exact ih7 _ _ _ _ _ _ _ _
   | exact ih8 _ _ _ _ _ _
   | exact ih9 _ _ _ _ _ _ _
   | exact slices_rotateCmpFunc_Job__job_Due_1.mono _ _ _ _ _
   | exact LeO.none _
   | refine LeO.ite ?_ ?_
   | refine LeO.bind ?_ (fun _ => ?_)
  ·intro y0 y1 y2 y3 y4 y5
   unfold slices_symMergeCmpFunc_Job__job_Due_1.j7
   repeat' first
   | (with_reducible exact ih0 _ _ _ _)
   | (with_reducible exact ih1 _ _ _ _)
   | (with_reducible exact ih2 _ _ _)
   | (with_reducible exact ih3 _ _ _ _)
   | (with_reducible exact ih4 _ _ _)
   | (with_reducible exact ih5 _ _ _ _ _ _ _ _)
   | (with_reducible exact ih6 _ _ _ _ _ _ _ _ _)
   | (with_reducible exact ih7 _ _ _ _ _ _ _ _)
   | (with_reducible exact ih8 _ _ _ _ _ _)
   | (with_reducible exact ih9 _ _ _ _ _ _ _)
   | (with_reducible exact slices_rotateCmpFunc_Job__job_Due_1.mono _ _ _ _ _)
   | (with_reducible exact LeO.refl _)
   | (with_reducible exact LeO.none _)
   | (with_reducible refine LeO.ite ?_ ?_)
   | (with_reducible refine LeO.bind ?_ (fun _ => ?_))
   | exact ih0 _ _ _ _
   | exact ih1 _ _ _ _
   | exact ih2 _ _ _
   | exact ih3 _ _ _ _
   | exact ih4 _ _ _
   | exact ih5 _ _ _ _ _ _ _ _
   | exact ih6 _ _ _ _ _ _ _ _ _
   | exact ih7 _ _ _ _ _ _ _ _
   | exact ih8 _ _ _ _ _ _
   | exact ih9 _ _ _ _ _ _ _
   | exact slices_rotateCmpFunc_Job__job_Due_1.mono _ _ _ _ _
   | exact LeO.none _
   | refine LeO.ite ?_ ?_
   | refine LeO.bind ?_ (fun _ => ?_)
  ·intro y0 y1 y2 y3 y4 y5 y6
   unfold slices_symMergeCmpFunc_Job__job_Due_1.j8
   repeat' first
   | (with_reducible exact ih0 _ _ _ _)
   | (with_reducible exact ih1 _ _ _ _)
   | (with_reducible exact ih2 _ _ _)
   | (with_reducible exact ih3 _ _ _ _)
   | (with_reducible exact ih4 _ _ _)
   | (with_reducible exact ih5 _ _ _ _ _ _ _ _)
   | (with_reducible exact ih6 _ _ _ _ _ _ _ _ _)
   | (with_reducible exact ih7 _ _ _ _ _ _ _ _)
   | (with_reducible exact ih8 _ _ _ _ _ _)
   | (with_reducible exact ih9 _ _ _ _ _ _ _)
   | (with_reducible exact slices_rotateCmpFunc_Job__job_Due_1.mono _ _ _ _ _)
   | (with_reducible exact LeO.refl _)
   | (with_reducible exact LeO.none _)
   | (with_reducible refine LeO.ite ?_ ?_)
   | (with_reducible refine LeO.bind ?_ (fun _ => ?_))
   | exact ih0 _ _ _ _
   | exact ih1 _ _ _ _
   | exact ih2 _ _ _
   | exact ih3 _ _ _ _
   | exact ih4 _ _ _
   | exact ih5 _ _ _ _ _ _ _ _
   | exact ih6 _ _ _ _ _ _ _ _ _
   | exact ih7 _ _ _ _ _ _ _ _
   | exact ih8 _ _ _ _ _ _
   | exact ih9 _ _ _ _ _ _ _
   | exact slices_rotateCmpFunc_Job__job_Due_1.mono _ _ _ _ _
   | exact LeO.none _
   | refine LeO.ite ?_ ?_
   | refine LeO.bind ?_ (fun _ => ?_)
theorem slices_symMergeCmpFunc_Job__job_Due_1.mono : ∀ a0 a1 a2 a3 k, LeO (slices_symMergeCmpFunc_Job__job_Due_1.f k a0 a1 a2 a3) (slices_symMergeCmpFunc_Job__job_Due_1.f (k + 1) a0 a1 a2 a3) := by
 intro a0 a1 a2 a3 k
 obtain ⟨ih0, ih1, ih2, ih3, ih4, ih5, ih6, ih7, ih8, ih9⟩ := slices_symMergeCmpFunc_Job__job_Due_1.mono_l k
 exact ih0 a0 a1 a2 a3
def slices_symMergeCmpFunc_Job__job_Due_1.T5 : Bool × List (List Nat × List Nat) := (true, [([], []), ([], []), ([], []), ([1, 2], [1, 2]), ([3], [3]), ([], []), ([], []), ([5, 6], [5, 6]), ([7], [7]), ([0, 4, 8], [0, 4, 8]), ([9], [9])])
def slices_symMergeCmpFunc_Job__job_Due_1.B5 : List Nat := [0, 0, 0, 6, 14, 0, 0, 96, 224, 511, 1023]
theorem slices_symMergeCmpFunc_Job__job_Due_1.tab5 : rtab .any (opsOf Try.f68 5) = slices_symMergeCmpFunc_Job__job_Due_1.T5 := by kernel_rfl
theorem slices_symMergeCmpFunc_Job__job_Due_1.bits5 : waitsOk slices_symMergeCmpFunc_Job__job_Due_1.T5.2 slices_symMergeCmpFunc_Job__job_Due_1.B5 = true := by kernel_rfl
def slices_symMergeCmpFunc_Job__job_Due_1.T11 : Bool × List (List Nat × List Nat) := (true, [([], []), ([], []), ([], []), ([], []), ([3], [3]), ([], []), ([], []), ([6], [6]), ([5, 7], [5, 7]), ([8], [8]), ([], []), ([], []), ([10, 11], [10, 11]), ([12], [12]), ([0, 1, 0, 1, 5, 6, 7, 8, 9, 13], [0, 1]), ([14, 9, 0, 1, 5, 6, 7, 8, 9, 13], [9, 14]), ([2, 4, 0, 1, 2, 3, 4, 5, 6, 7, 8, 9, 10, 11, 12, 13, 14, 15], [2, 4]), ([16, 13, 15, 0, 1, 2, 3, 4, 5, 6, 7, 8, 9, 10, 11, 12, 13, 14, 15], [13, 16])])
def slices_symMergeCmpFunc_Job__job_Due_1.B11 : List Nat := [0, 0, 0, 0, 8, 0, 0, 64, 224, 480, 0, 0, 3072, 7168, 16355, 32739, 65535, 131071]
theorem slices_symMergeCmpFunc_Job__job_Due_1.tab11 : rtab .any (opsOf Try.f68 11) = slices_symMergeCmpFunc_Job__job_Due_1.T11 := by kernel_rfl
theorem slices_symMergeCmpFunc_Job__job_Due_1.bits11 : waitsOk slices_symMergeCmpFunc_Job__job_Due_1.T11.2 slices_symMergeCmpFunc_Job__job_Due_1.B11 = true := by kernel_rfl
def slices_symMergeCmpFunc_Job__job_Due_1.T17 : Bool × List (List Nat × List Nat) := (true, [([], []), ([], []), ([], []), ([1, 2], [1, 2]), ([3], [3]), ([], []), ([], []), ([5, 6], [5, 6]), ([7], [7]), ([0, 4, 8], [0, 4, 8]), ([9], [9]), ([10], [10])])
def slices_symMergeCmpFunc_Job__job_Due_1.B17 : List Nat := [0, 0, 0, 6, 14, 0, 0, 96, 224, 511, 1023, 2047]
theorem slices_symMergeCmpFunc_Job__job_Due_1.tab17 : rtab .any (opsOf Try.f68 17) = slices_symMergeCmpFunc_Job__job_Due_1.T17 := by kernel_rfl
theorem slices_symMergeCmpFunc_Job__job_Due_1.bits17 : waitsOk slices_symMergeCmpFunc_Job__job_Due_1.T17.2 slices_symMergeCmpFunc_Job__job_Due_1.B17 = true := by kernel_rfl
def slices_symMergeCmpFunc_Job__job_Due_1.T23 : Bool × List (List Nat × List Nat) := (true, [([], []), ([], []), ([], []), ([], []), ([3], [3]), ([], []), ([], []), ([6], [6]), ([5, 7], [5, 7]), ([8], [8]), ([], []), ([], []), ([10, 11], [10, 11]), ([12], [12]), ([0, 1, 0, 1, 5, 6, 7, 8, 9, 13], [0, 1]), ([14, 9, 0, 1, 5, 6, 7, 8, 9, 13], [9, 14]), ([2, 4, 0, 1, 2, 3, 4, 5, 6, 7, 8, 9, 10, 11, 12, 13, 14, 15], [2, 4]), ([16, 13, 15, 0, 1, 2, 3, 4, 5, 6, 7, 8, 9, 10, 11, 12, 13, 14, 15], [13, 16])])
def slices_symMergeCmpFunc_Job__job_Due_1.B23 : List Nat := [0, 0, 0, 0, 8, 0, 0, 64, 224, 480, 0, 0, 3072, 7168, 16355, 32739, 65535, 131071]
theorem slices_symMergeCmpFunc_Job__job_Due_1.tab23 : rtab .any (opsOf Try.f68 23) = slices_symMergeCmpFunc_Job__job_Due_1.T23 := by kernel_rfl
theorem slices_symMergeCmpFunc_Job__job_Due_1.bits23 : waitsOk slices_symMergeCmpFunc_Job__job_Due_1.T23.2 slices_symMergeCmpFunc_Job__job_Due_1.B23 = true := by kernel_rfl
def slices_symMergeCmpFunc_Job__job_Due_1.T35 : Bool × List (List Nat × List Nat) := (true, [([], []), ([], []), ([], []), ([], []), ([2, 3], [2, 3]), ([1, 4], [1, 4]), ([5], [5]), ([], []), ([], []), ([7, 8], [7, 8]), ([9], [9]), ([0, 6, 10], [0, 6, 10]), ([11], [11]), ([12], [12])])
def slices_symMergeCmpFunc_Job__job_Due_1.B35 : List Nat := [0, 0, 0, 0, 12, 30, 62, 0, 0, 384, 896, 2047, 4095, 8191]
theorem slices_symMergeCmpFunc_Job__job_Due_1.tab35 : rtab .any (opsOf Try.f68 35) = slices_symMergeCmpFunc_Job__job_Due_1.T35 := by kernel_rfl
theorem slices_symMergeCmpFunc_Job__job_Due_1.bits35 : waitsOk slices_symMergeCmpFunc_Job__job_Due_1.T35.2 slices_symMergeCmpFunc_Job__job_Due_1.B35 = true := by kernel_rfl
set_option maxHeartbeats 8000000 in
set_option maxRecDepth 100000 in
theorem slices_symMergeCmpFunc_Job__job_Due_1.calls (k : Nat) : ∀ (P0_ : Nat → Prop) (u9000_ : Value) (l0 : List (S32)) (a1 : Int) (a2 : Int) (a3 : Int)  (r : List (S32)) (w0 w : World) (hB : Below w0.heap.size w0 w) (ho0 : Kd.R k32 32 w w0.heap.size P0_ u9000_ l0) (h : slices_symMergeCmpFunc_Job__job_Due_1.f k l0 a1 a2 a3 = some r),
  Calls Try.prog 68 #[u9000_, .int .i64 a1, .int .i64 a2, .int .i64 a3, .func (.func 47) #[] #[]] w fun e w' => e = .returned (.tuple #[]) ∧ Kd.R k32 32 w' w0.heap.size (fun k_ => (P0_ k_ ∨ w.heap.size ≤ k_)) u9000_ r ∧ Below w0.heap.size w0 w' ∧ Kept w w' (fun k_ => P0_ k_) := by
 induction k using Nat.strongRecOn with
 | _ k ih =>
 intro P0_ u9000_ l0 a1 a2 a3 r w0 w hB ho0 h
 cases k with
 | zero => exact absurd h (by simp [slices_symMergeCmpFunc_Job__job_Due_1.f])
 | succ k =>
 simp only [slices_symMergeCmpFunc_Job__job_Due_1.f] at h
 have hu32 := Try.underlying32
 have HO0 := Aside0.mk (show Kd.R k32 32 w w0.heap.size (fun k_ => (P0_ k_ ∨ w.heap.size ≤ k_)) u9000_ l0 from Kd.R_mono ho0 (fun k_ hk => (.inl hk)))
 have HK := Aside0.mk (Kept.refl w (fun k_ => P0_ k_))
 have HW0 := Aside0.mk hB.size
 have HB := Aside0.mk hB
 clear hB
 have H : (if (wrap64 (a2 - a1)) = 1 then (slices_symMergeCmpFunc_Job__job_Due_1.l0 k l0 a1 a2 a3) else (if (wrap64 (a3 - a2)) = 1 then (slices_symMergeCmpFunc_Job__job_Due_1.l2 k l0 a2 a1 a2) else (if a2 > (wrap64 ((IntKind.u64.wrap (wrap64 (a1 + a3))) / 2)) then (slices_symMergeCmpFunc_Job__job_Due_1.j4 k l0 a1 a2 a3 (wrap64 ((IntKind.u64.wrap (wrap64 (a1 + a3))) / 2)) (wrap64 ((wrap64 ((IntKind.u64.wrap (wrap64 (a1 + a3))) / 2)) + a2)) (wrap64 ((wrap64 ((wrap64 ((IntKind.u64.wrap (wrap64 (a1 + a3))) / 2)) + a2)) - a3)) (wrap64 ((IntKind.u64.wrap (wrap64 (a1 + a3))) / 2))) else (slices_symMergeCmpFunc_Job__job_Due_1.j4 k l0 a1 a2 a3 (wrap64 ((IntKind.u64.wrap (wrap64 (a1 + a3))) / 2)) (wrap64 ((wrap64 ((IntKind.u64.wrap (wrap64 (a1 + a3))) / 2)) + a2)) a1 a2)))) = some r := h
 clear h
 by_cases c6 : (wrap64 (a2 - a1)) = 1
 ·rw [if_pos c6] at H
  have c6b0 : ((wrap64 (a2 - a1)) == 1) = true := beq_iff_eq.mpr c6
  have c6b1 : ((wrap64 (a2 - a1)) != 1) = false := bne_eq_false_iff_eq.mpr c6
  clear c6
  have H' := Aside0.mk H
  clear H
  go_enter Try.func68, Try.ntmps68
  go_wp2
  go_loopg [10, 11] k (fun kq v10 v11 w' => ∃ (x10_1 : Int) (x11_1 : Int), v10 = .int .i64 x10_1 ∧ v11 = .int .i64 x11_1 ∧ Aside0 (slices_symMergeCmpFunc_Job__job_Due_1.l0 kq l0 a1 x10_1 x11_1 = some r) ∧ Aside0 (kq ≤ k) ∧ Aside0 (Kd.R k32 32 w' w0.heap.size (fun k_ => (P0_ k_ ∨ w.heap.size ≤ k_)) u9000_ l0) ∧ Aside0 (Kept w w' (fun k_ => P0_ k_)) ∧ Aside0 (Below w0.heap.size w0 w'))
  case atStart => exact ⟨(a2), (a3), ez, ez, H', ⟨Nat.le_refl _⟩, ⟨mR HO0.out⟩, ⟨mK HK.out⟩, ⟨mB HB.out⟩⟩
  case round => as_aux_lemma =>
   clear H'
   (try clear p2); (try clear c6); (try clear c6b0); (try clear c6b1); (try clear p6)
   obtain ⟨x10_1, x11_1, rfl, rfl, HA, HK1, HO_0, HK, HB⟩ := hrel
   cases gk with
   | zero => exact absurd HA.out (by simp [slices_symMergeCmpFunc_Job__job_Due_1.l0])
   | succ k1 =>
    have H := HA.out
    clear HA
    simp only [slices_symMergeCmpFunc_Job__job_Due_1.l0] at H
    by_cases c7 : x10_1 < x11_1
    ·rw [if_pos c7] at H
     have c7b0 : decide (x10_1 < x11_1) = true := decide_eq_true c7
     clear c7
     obtain ⟨ji8, hji8⟩ : ∃ j_ : Int, (wrap64 ((IntKind.u64.wrap (wrap64 (x10_1 + x11_1))) / 2)) = j_ := ⟨_, rfl⟩
     replace H : (if 0 ≤ (ji8) then (if (ji8) < (l0.length : Int) then (if 0 ≤ a1 then (if a1 < (l0.length : Int) then ((job_Due_1.f ((rd_T32 l0 (ji8)).f0) ((rd_T32 l0 (ji8)).f1) ((rd_T32 l0 (ji8)).f2) ((rd_T32 l0 (ji8)).f3) ((rd_T32 l0 (ji8)).f4) ((rd_T32 l0 (ji8)).f5) ((rd_T32 l0 (ji8)).f6) ((rd_T32 l0 (ji8)).f7) ((rd_T32 l0 (ji8)).f8) ((rd_T32 l0 (ji8)).f9) ((rd_T32 l0 (ji8)).f10) ((rd_T32 l0 (ji8)).f11) ((rd_T32 l0 a1).f0) ((rd_T32 l0 a1).f1) ((rd_T32 l0 a1).f2) ((rd_T32 l0 a1).f3) ((rd_T32 l0 a1).f4) ((rd_T32 l0 a1).f5) ((rd_T32 l0 a1).f6) ((rd_T32 l0 a1).f7) ((rd_T32 l0 a1).f8) ((rd_T32 l0 a1).f9) ((rd_T32 l0 a1).f10) ((rd_T32 l0 a1).f11)).bind fun t283 => (if t283 < 0 then (slices_symMergeCmpFunc_Job__job_Due_1.l0 k1 l0 a1 (wrap64 ((ji8) + 1)) x11_1) else (slices_symMergeCmpFunc_Job__job_Due_1.l0 k1 l0 a1 x10_1 ji8))) else (none)) else (none)) else (none)) else (none)) = some r := by first | (rw [hji8] at H; exact H) | (simp only [hji8] at H ⊢; exact H)
     have hji8w : (IntKind.i64.wrap ((IntKind.u64.wrap (wrap64 (x10_1 + x11_1))) / 2)) = ji8 := (i64_w _).trans hji8
     by_cases c9 : 0 ≤ (ji8)
     ·rw [if_pos c9] at H
      have c9b0 : decide (0 ≤ (ji8)) = true := decide_eq_true c9
      clear c9
      by_cases c10 : (ji8) < (l0.length : Int)
      ·rw [if_pos c10] at H
       have c10b0 : decide ((ji8) < (l0.length : Int)) = true := decide_eq_true c10
       clear c10
       by_cases c11 : 0 ≤ a1
       ·rw [if_pos c11] at H
        have c11b0 : decide (0 ≤ a1) = true := decide_eq_true c11
        clear c11
        by_cases c12 : a1 < (l0.length : Int)
        ·rw [if_pos c12] at H
         have c12b0 : decide (a1 < (l0.length : Int)) = true := decide_eq_true c12
         clear c12
         replace H := Option.bind_eq_some_iff.mp H
         obtain ⟨t283, A130, H⟩ := H
         replace H : (if t283 < 0 then (slices_symMergeCmpFunc_Job__job_Due_1.l0 k1 l0 a1 (wrap64 ((ji8) + 1)) x11_1) else (slices_symMergeCmpFunc_Job__job_Due_1.l0 k1 l0 a1 x10_1 ji8)) = some r := H
         have A13 := Aside0.mk A130
         clear A130
         by_cases c14 : t283 < 0
         ·as_aux_lemma =>
          rw [if_pos c14] at H
          have c14b0 : decide (t283 < 0) = true := decide_eq_true c14
          clear c14
          have H' := Aside0.mk H
          clear H
          try go_wp2
          have n0_ := Aside0.mk (Kd.R_drew HO_0.out)
          have n1_ := Aside0.mk (Kept.drew HK.out)
          have n2_ := Aside0.mk (below_drew1 HB.out)
          clear HO_0; clear HK; clear HB
          have HO_0 := n0_
          have HK := n1_
          have HB := n2_
          clear n0_; clear n1_; clear n2_
          obtain ⟨Ao16, co16, eo16⟩ := Kd.R_slice HO_0.out
          (first | subst eo16 | (injection eo16 with f1_ f2_ f3_; have f4_ := f1_.symm; have f5_ := f3_.symm; clear f1_ f2_ f3_; subst f4_; subst f5_))
          have p281 : 0 ≤ ((ji8) : Int) := oda
          have q281 : (ji8) < (l0.length : Int) := oda
          obtain ⟨ad281, e281, hx281_0, hx281_1, hx281_2, hx281_3, hx281_4, hx281_5, hx281_6, hx281_7, hx281_8, hx281_9, hx281_10, hx281_11⟩ := at_T32 (Kd.R_reads' HO_0.out).2.2 (ji8) p281 q281
          cases e281
          replace p281 := eq_true p281
          replace q281 := eq_true q281
          have p282 : 0 ≤ (a1 : Int) := oda
          have q282 : a1 < (l0.length : Int) := oda
          obtain ⟨ad282, e282, hx282_0, hx282_1, hx282_2, hx282_3, hx282_4, hx282_5, hx282_6, hx282_7, hx282_8, hx282_9, hx282_10, hx282_11⟩ := at_T32 (Kd.R_reads' HO_0.out).2.2 a1 p282 q282
          obtain rfl : ad281 = ad282 := (by injection e282)
          replace p282 := eq_true p282
          replace q282 := eq_true q282
          refine start_ (n := 11) (S := fun w' => c12 w' (ad281.add (((ji8)).toNat * 12)) (rd_T32 l0 (ji8)) <| c12e w' (ad281.add ((a1).toNat * 12)) (rd_T32 l0 a1)) (ds := []) #[false, false, false, false, false, false, false, false, false, false, false] (by kernel_rfl) rfl rfl ⟨hx281_0, hx281_1, hx281_2, hx281_3, hx281_4, hx281_5, hx281_6, hx281_7, hx281_8, hx281_9, hx281_10, hx281_11, hx282_0, hx282_1, hx282_2, hx282_3, hx282_4, hx282_5, hx282_6, hx282_7, hx282_8, hx282_9, hx282_10, hx282_11⟩ (fun hHeld => ?_); refine with_tabW slices_symMergeCmpFunc_Job__job_Due_1.tab5 slices_symMergeCmpFunc_Job__job_Due_1.bits5 (fun HT_ HW_ => ?_)
          generalize wr.drew = w15 at HO_0 HK HB hx281_0 hx281_1 hx281_10 hx281_11 hx281_2 hx281_3 hx281_4 hx281_5 hx281_6 hx281_7 hx281_8 hx281_9 hx282_0 hx282_1 hx282_10 hx282_11 hx282_2 hx282_3 hx282_4 hx282_5 hx282_6 hx282_7 hx282_8 hx282_9 hHeld ⊢
          refine plan_ [(0, 40), (1, 41), (2, 42), (3, 43), (5, 45), (6, 46), (7, 47)] ?_
          iterate 7 (refine planP_ (v := ?_) (a' := ?_) rfl rfl (any_of HT_.out (by kernel_rfl)) (fun _ _ _ h => h) (Or.inl ⟨by rfl, ?_⟩) ?_ ?_; rotate_left; (intro w'; go_simp; with_reducible rfl); rotate_left; (simp only [Act.put, List.setIfInBounds_toArray, List.set_cons_zero, List.set_cons_succ, i64_w, i32_w]; rfl))
          refine planEnd_ ?_
          refine plan_ [(4, 44), (8, 48)] ?_
          iterate 2 (refine planT_ (v := ?_) (a' := ?_) rfl rfl (take_ofW HT_.out HW_.out (by kernel_rfl)) (fun _ _ _ h => h) (Or.inl ⟨by rfl, ?_⟩) hHeld ?_ ?_; rotate_left; (rintro w' ⟨s0, s1, s2, s3, s4, s5, s6, s7, s8, s9, s10, s11, s12, s13, s14, s15, s16, s17, s18, s19, s20, s21, s22, s23⟩; go_simp; with_reducible rfl); rotate_left; (simp only [Act.put, List.setIfInBounds_toArray, List.set_cons_zero, List.set_cons_succ, i64_w, i32_w]; rfl))
          refine planEnd_ ?_
          refine one_ (i := 9) (N := some 49) #[true, true, true, true, true, true, true, true, true, true, false] rfl rfl (one_of HT_.out (by kernel_rfl)) (by decide) (fun K hK => ?_)
          refine goesV_ Try.func47 (by kernel_rfl) rfl #[.agg (cJ (rd_T32 l0 (ji8))), .agg (cJ (rd_T32 l0 a1))] (by rfl) rfl rfl (by (try simp only [List.map_toArray, List.map_cons, List.map_nil]); first | done | (simp only [hji8]; rfl) | rfl | (simp only [List.length_drop, List.length_take]; rfl)) rfl ?_
          with_reducible refine (job_Due_1.calls ((rd_T32 l0 (ji8)).f0) ((rd_T32 l0 (ji8)).f1) ((rd_T32 l0 (ji8)).f2) ((rd_T32 l0 (ji8)).f3) ((rd_T32 l0 (ji8)).f4) ((rd_T32 l0 (ji8)).f5) ((rd_T32 l0 (ji8)).f6) ((rd_T32 l0 (ji8)).f7) ((rd_T32 l0 (ji8)).f8) ((rd_T32 l0 (ji8)).f9) ((rd_T32 l0 (ji8)).f10) ((rd_T32 l0 (ji8)).f11) ((rd_T32 l0 a1).f0) ((rd_T32 l0 a1).f1) ((rd_T32 l0 a1).f2) ((rd_T32 l0 a1).f3) ((rd_T32 l0 a1).f4) ((rd_T32 l0 a1).f5) ((rd_T32 l0 a1).f6) ((rd_T32 l0 a1).f7) ((rd_T32 l0 a1).f8) ((rd_T32 l0 a1).f9) ((rd_T32 l0 a1).f10) ((rd_T32 l0 a1).f11) t283 _ A13.out).mono ?_
          rintro e w17 ⟨rfl, hb⟩
          have HS0_ := hs_ hb hHeld.1
          have HS1_ := hs_ hb hHeld.2.1
          have HS2_ := hs_ hb hHeld.2.2.1
          have HS3_ := hs_ hb hHeld.2.2.2.1
          have HS4_ := hs_ hb hHeld.2.2.2.2.1
          have HS5_ := hs_ hb hHeld.2.2.2.2.2.1
          have HS6_ := hs_ hb hHeld.2.2.2.2.2.2.1
          have HS7_ := hs_ hb hHeld.2.2.2.2.2.2.2.1
          have HS8_ := hs_ hb hHeld.2.2.2.2.2.2.2.2.1
          have HS9_ := hs_ hb hHeld.2.2.2.2.2.2.2.2.2.1
          have HS10_ := hs_ hb hHeld.2.2.2.2.2.2.2.2.2.2.1
          have HS11_ := hs_ hb hHeld.2.2.2.2.2.2.2.2.2.2.2.1
          have HS12_ := hs_ hb hHeld.2.2.2.2.2.2.2.2.2.2.2.2.1
          have HS13_ := hs_ hb hHeld.2.2.2.2.2.2.2.2.2.2.2.2.2.1
          have HS14_ := hs_ hb hHeld.2.2.2.2.2.2.2.2.2.2.2.2.2.2.1
          have HS15_ := hs_ hb hHeld.2.2.2.2.2.2.2.2.2.2.2.2.2.2.2.1
          have HS16_ := hs_ hb hHeld.2.2.2.2.2.2.2.2.2.2.2.2.2.2.2.2.1
          have HS17_ := hs_ hb hHeld.2.2.2.2.2.2.2.2.2.2.2.2.2.2.2.2.2.1
          have HS18_ := hs_ hb hHeld.2.2.2.2.2.2.2.2.2.2.2.2.2.2.2.2.2.2.1
          have HS19_ := hs_ hb hHeld.2.2.2.2.2.2.2.2.2.2.2.2.2.2.2.2.2.2.2.1
          have HS20_ := hs_ hb hHeld.2.2.2.2.2.2.2.2.2.2.2.2.2.2.2.2.2.2.2.2.1
          have HS21_ := hs_ hb hHeld.2.2.2.2.2.2.2.2.2.2.2.2.2.2.2.2.2.2.2.2.2.1
          have HS22_ := hs_ hb hHeld.2.2.2.2.2.2.2.2.2.2.2.2.2.2.2.2.2.2.2.2.2.2.1
          have HS23_ := hs_ hb hHeld.2.2.2.2.2.2.2.2.2.2.2.2.2.2.2.2.2.2.2.2.2.2.2
          refine ⟨_, rfl, ?_⟩
          have n0_ := Aside0.mk (Kd.R_below (mR HO_0.out) hb)
          have n1_ := Aside0.mk (Kept.below (S := (fun k_ => P0_ k_)) (mK HK.out) hb)
          have n2_ := Aside0.mk (below_step (mB HB.out) hb)
          clear HO_0; clear HK; clear HB
          have HO_0 := n0_
          have HK := n1_
          have HB := n2_
          clear n0_; clear n1_; clear n2_
          (try clear hb); (try clear hb2); (try clear hk); (try clear hi)
          refine hK.out _ _ ⟨HS0_, HS1_, HS2_, HS3_, HS4_, HS5_, HS6_, HS7_, HS8_, HS9_, HS10_, HS11_, HS12_, HS13_, HS14_, HS15_, HS16_, HS17_, HS18_, HS19_, HS20_, HS21_, HS22_, HS23_⟩ (fun hHeld => ?_)
          clear hK; clear K
          refine norm_ (a' := ?_) ?_ ?_
          rotate_left
          ·show Act.put _ (some 49) _ = _
           simp only [Act.put, List.setIfInBounds_toArray, List.set_cons_zero, List.set_cons_succ, i64_w, i32_w]
           rfl
          refine plan_ [(10, 50)] ?_
          refine planP_ (v := ?_) (a' := ?_) rfl rfl (any_of HT_.out (by kernel_rfl)) (fun _ _ _ h => h) (Or.inl ⟨by rfl, ?_⟩) ?_ ?_; rotate_left; (intro w'; go_simp; with_reducible rfl); rotate_left; (simp only [Act.put, List.setIfInBounds_toArray, List.set_cons_zero, List.set_cons_succ, i64_w, i32_w]; rfl)
          refine planEnd_ ?_
          refine done_ (done_of HT_.out (by kernel_rfl)) ?_
          try go_wp2
          go_roundg k1
          case measure => have := HK1.out; omega
          case rel => exact ⟨(wrap64 ((ji8) + 1)), (x11_1), (by first | rfl | (simp; done) | (simp only [← hji8] <;> (first | rfl | simp)) | (simp [*]; done)), ez, H', ⟨by have := HK1.out; omega⟩, ⟨mR HO_0.out⟩, ⟨mK HK.out⟩, ⟨mB HB.out⟩⟩
         ·as_aux_lemma =>
          rw [if_neg c14] at H
          have c14b0 : decide (t283 < 0) = false := decide_eq_false c14
          clear c14
          have H' := Aside0.mk H
          clear H
          try go_wp2
          have n0_ := Aside0.mk (Kd.R_drew HO_0.out)
          have n1_ := Aside0.mk (Kept.drew HK.out)
          have n2_ := Aside0.mk (below_drew1 HB.out)
          clear HO_0; clear HK; clear HB
          have HO_0 := n0_
          have HK := n1_
          have HB := n2_
          clear n0_; clear n1_; clear n2_
          obtain ⟨Ao19, co19, eo19⟩ := Kd.R_slice HO_0.out
          (first | subst eo19 | (injection eo19 with f1_ f2_ f3_; have f4_ := f1_.symm; have f5_ := f3_.symm; clear f1_ f2_ f3_; subst f4_; subst f5_))
          have p281 : 0 ≤ ((ji8) : Int) := oda
          have q281 : (ji8) < (l0.length : Int) := oda
          obtain ⟨ad281, e281, hx281_0, hx281_1, hx281_2, hx281_3, hx281_4, hx281_5, hx281_6, hx281_7, hx281_8, hx281_9, hx281_10, hx281_11⟩ := at_T32 (Kd.R_reads' HO_0.out).2.2 (ji8) p281 q281
          cases e281
          replace p281 := eq_true p281
          replace q281 := eq_true q281
          have p282 : 0 ≤ (a1 : Int) := oda
          have q282 : a1 < (l0.length : Int) := oda
          obtain ⟨ad282, e282, hx282_0, hx282_1, hx282_2, hx282_3, hx282_4, hx282_5, hx282_6, hx282_7, hx282_8, hx282_9, hx282_10, hx282_11⟩ := at_T32 (Kd.R_reads' HO_0.out).2.2 a1 p282 q282
          obtain rfl : ad281 = ad282 := (by injection e282)
          replace p282 := eq_true p282
          replace q282 := eq_true q282
          refine start_ (n := 11) (S := fun w' => c12 w' (ad281.add (((ji8)).toNat * 12)) (rd_T32 l0 (ji8)) <| c12e w' (ad281.add ((a1).toNat * 12)) (rd_T32 l0 a1)) (ds := []) #[false, false, false, false, false, false, false, false, false, false, false] (by kernel_rfl) rfl rfl ⟨hx281_0, hx281_1, hx281_2, hx281_3, hx281_4, hx281_5, hx281_6, hx281_7, hx281_8, hx281_9, hx281_10, hx281_11, hx282_0, hx282_1, hx282_2, hx282_3, hx282_4, hx282_5, hx282_6, hx282_7, hx282_8, hx282_9, hx282_10, hx282_11⟩ (fun hHeld => ?_); refine with_tabW slices_symMergeCmpFunc_Job__job_Due_1.tab5 slices_symMergeCmpFunc_Job__job_Due_1.bits5 (fun HT_ HW_ => ?_)
          generalize wr.drew = w18 at HO_0 HK HB hx281_0 hx281_1 hx281_10 hx281_11 hx281_2 hx281_3 hx281_4 hx281_5 hx281_6 hx281_7 hx281_8 hx281_9 hx282_0 hx282_1 hx282_10 hx282_11 hx282_2 hx282_3 hx282_4 hx282_5 hx282_6 hx282_7 hx282_8 hx282_9 hHeld ⊢
          refine plan_ [(0, 40), (1, 41), (2, 42), (3, 43), (5, 45), (6, 46), (7, 47)] ?_
          iterate 7 (refine planP_ (v := ?_) (a' := ?_) rfl rfl (any_of HT_.out (by kernel_rfl)) (fun _ _ _ h => h) (Or.inl ⟨by rfl, ?_⟩) ?_ ?_; rotate_left; (intro w'; go_simp; with_reducible rfl); rotate_left; (simp only [Act.put, List.setIfInBounds_toArray, List.set_cons_zero, List.set_cons_succ, i64_w, i32_w]; rfl))
          refine planEnd_ ?_
          refine plan_ [(4, 44), (8, 48)] ?_
          iterate 2 (refine planT_ (v := ?_) (a' := ?_) rfl rfl (take_ofW HT_.out HW_.out (by kernel_rfl)) (fun _ _ _ h => h) (Or.inl ⟨by rfl, ?_⟩) hHeld ?_ ?_; rotate_left; (rintro w' ⟨s0, s1, s2, s3, s4, s5, s6, s7, s8, s9, s10, s11, s12, s13, s14, s15, s16, s17, s18, s19, s20, s21, s22, s23⟩; go_simp; with_reducible rfl); rotate_left; (simp only [Act.put, List.setIfInBounds_toArray, List.set_cons_zero, List.set_cons_succ, i64_w, i32_w]; rfl))
          refine planEnd_ ?_
          refine one_ (i := 9) (N := some 49) #[true, true, true, true, true, true, true, true, true, true, false] rfl rfl (one_of HT_.out (by kernel_rfl)) (by decide) (fun K hK => ?_)
          refine goesV_ Try.func47 (by kernel_rfl) rfl #[.agg (cJ (rd_T32 l0 (ji8))), .agg (cJ (rd_T32 l0 a1))] (by rfl) rfl rfl (by (try simp only [List.map_toArray, List.map_cons, List.map_nil]); first | done | (simp only [hji8]; rfl) | rfl | (simp only [List.length_drop, List.length_take]; rfl)) rfl ?_
          with_reducible refine (job_Due_1.calls ((rd_T32 l0 (ji8)).f0) ((rd_T32 l0 (ji8)).f1) ((rd_T32 l0 (ji8)).f2) ((rd_T32 l0 (ji8)).f3) ((rd_T32 l0 (ji8)).f4) ((rd_T32 l0 (ji8)).f5) ((rd_T32 l0 (ji8)).f6) ((rd_T32 l0 (ji8)).f7) ((rd_T32 l0 (ji8)).f8) ((rd_T32 l0 (ji8)).f9) ((rd_T32 l0 (ji8)).f10) ((rd_T32 l0 (ji8)).f11) ((rd_T32 l0 a1).f0) ((rd_T32 l0 a1).f1) ((rd_T32 l0 a1).f2) ((rd_T32 l0 a1).f3) ((rd_T32 l0 a1).f4) ((rd_T32 l0 a1).f5) ((rd_T32 l0 a1).f6) ((rd_T32 l0 a1).f7) ((rd_T32 l0 a1).f8) ((rd_T32 l0 a1).f9) ((rd_T32 l0 a1).f10) ((rd_T32 l0 a1).f11) t283 _ A13.out).mono ?_
          rintro e w20 ⟨rfl, hb⟩
          have HS0_ := hs_ hb hHeld.1
          have HS1_ := hs_ hb hHeld.2.1
          have HS2_ := hs_ hb hHeld.2.2.1
          have HS3_ := hs_ hb hHeld.2.2.2.1
          have HS4_ := hs_ hb hHeld.2.2.2.2.1
          have HS5_ := hs_ hb hHeld.2.2.2.2.2.1
          have HS6_ := hs_ hb hHeld.2.2.2.2.2.2.1
          have HS7_ := hs_ hb hHeld.2.2.2.2.2.2.2.1
          have HS8_ := hs_ hb hHeld.2.2.2.2.2.2.2.2.1
          have HS9_ := hs_ hb hHeld.2.2.2.2.2.2.2.2.2.1
          have HS10_ := hs_ hb hHeld.2.2.2.2.2.2.2.2.2.2.1
          have HS11_ := hs_ hb hHeld.2.2.2.2.2.2.2.2.2.2.2.1
          have HS12_ := hs_ hb hHeld.2.2.2.2.2.2.2.2.2.2.2.2.1
          have HS13_ := hs_ hb hHeld.2.2.2.2.2.2.2.2.2.2.2.2.2.1
          have HS14_ := hs_ hb hHeld.2.2.2.2.2.2.2.2.2.2.2.2.2.2.1
          have HS15_ := hs_ hb hHeld.2.2.2.2.2.2.2.2.2.2.2.2.2.2.2.1
          have HS16_ := hs_ hb hHeld.2.2.2.2.2.2.2.2.2.2.2.2.2.2.2.2.1
          have HS17_ := hs_ hb hHeld.2.2.2.2.2.2.2.2.2.2.2.2.2.2.2.2.2.1
          have HS18_ := hs_ hb hHeld.2.2.2.2.2.2.2.2.2.2.2.2.2.2.2.2.2.2.1
          have HS19_ := hs_ hb hHeld.2.2.2.2.2.2.2.2.2.2.2.2.2.2.2.2.2.2.2.1
          have HS20_ := hs_ hb hHeld.2.2.2.2.2.2.2.2.2.2.2.2.2.2.2.2.2.2.2.2.1
          have HS21_ := hs_ hb hHeld.2.2.2.2.2.2.2.2.2.2.2.2.2.2.2.2.2.2.2.2.2.1
          have HS22_ := hs_ hb hHeld.2.2.2.2.2.2.2.2.2.2.2.2.2.2.2.2.2.2.2.2.2.2.1
          have HS23_ := hs_ hb hHeld.2.2.2.2.2.2.2.2.2.2.2.2.2.2.2.2.2.2.2.2.2.2.2
          refine ⟨_, rfl, ?_⟩
          have n0_ := Aside0.mk (Kd.R_below (mR HO_0.out) hb)
          have n1_ := Aside0.mk (Kept.below (S := (fun k_ => P0_ k_)) (mK HK.out) hb)
          have n2_ := Aside0.mk (below_step (mB HB.out) hb)
          clear HO_0; clear HK; clear HB
          have HO_0 := n0_
          have HK := n1_
          have HB := n2_
          clear n0_; clear n1_; clear n2_
          (try clear hb); (try clear hb2); (try clear hk); (try clear hi)
          refine hK.out _ _ ⟨HS0_, HS1_, HS2_, HS3_, HS4_, HS5_, HS6_, HS7_, HS8_, HS9_, HS10_, HS11_, HS12_, HS13_, HS14_, HS15_, HS16_, HS17_, HS18_, HS19_, HS20_, HS21_, HS22_, HS23_⟩ (fun hHeld => ?_)
          clear hK; clear K
          refine norm_ (a' := ?_) ?_ ?_
          rotate_left
          ·show Act.put _ (some 49) _ = _
           simp only [Act.put, List.setIfInBounds_toArray, List.set_cons_zero, List.set_cons_succ, i64_w, i32_w]
           rfl
          refine plan_ [(10, 50)] ?_
          refine planP_ (v := ?_) (a' := ?_) rfl rfl (any_of HT_.out (by kernel_rfl)) (fun _ _ _ h => h) (Or.inl ⟨by rfl, ?_⟩) ?_ ?_; rotate_left; (intro w'; go_simp; with_reducible rfl); rotate_left; (simp only [Act.put, List.setIfInBounds_toArray, List.set_cons_zero, List.set_cons_succ, i64_w, i32_w]; rfl)
          refine planEnd_ ?_
          refine done_ (done_of HT_.out (by kernel_rfl)) ?_
          try go_wp2
          go_roundg k1
          case measure => have := HK1.out; omega
          case rel => exact ⟨(x10_1), (ji8), ez, (by first | rfl | (simp; done) | (simp only [← hji8] <;> (first | rfl | simp)) | (simp [*]; done)), H', ⟨by have := HK1.out; omega⟩, ⟨mR HO_0.out⟩, ⟨mK HK.out⟩, ⟨mB HB.out⟩⟩
        ·rw [if_neg c12] at H
         exact absurd H (by simp)
       ·rw [if_neg c11] at H
        exact absurd H (by simp)
      ·rw [if_neg c10] at H
       exact absurd H (by simp)
     ·rw [if_neg c9] at H
      exact absurd H (by simp)
    ·rw [if_neg c7] at H
     have c7b0 : decide (x10_1 < x11_1) = false := decide_eq_false c7
     clear c7
     have H' := Aside0.mk H
     clear H
     go_wp2
     go_loopg [13] k1 (fun kq v13 w' => ∃ (x0_2 : List (S32)) (x13_2 : Int), v13 = .int .i64 x13_2 ∧ Aside0 (slices_symMergeCmpFunc_Job__job_Due_1.l1 kq x0_2 x10_1 x13_2 = some r) ∧ Aside0 (kq ≤ k1) ∧ Aside0 (Kd.R k32 32 w' w0.heap.size (fun k_ => (P0_ k_ ∨ w.heap.size ≤ k_)) u9000_ x0_2) ∧ Aside0 (Kept w w' (fun k_ => P0_ k_)) ∧ Aside0 (Below w0.heap.size w0 w'))
     case atStart => exact ⟨(l0), (a1), ez, H', ⟨Nat.le_refl _⟩, ⟨mR HO_0.out⟩, ⟨mK HK.out⟩, ⟨mB HB.out⟩⟩
     case round => as_aux_lemma =>
      clear H'
      (try clear c1); (try clear p2); (try clear q2); (try clear hx2); (try clear c4); (try clear c6); (try clear c6b0); (try clear c6b1); (try clear p6); (try clear c7); (try clear c7b0); (try clear c9); (try clear c9b0); (try clear c10); (try clear c10b0); (try clear c11); (try clear c11b0); (try clear c12); (try clear c12b0); (try clear c14); (try clear c14b0); (try clear hx281_0 hx281_1 hx281_10 hx281_11 hx281_2 hx281_3 hx281_4 hx281_5 hx281_6 hx281_7 hx281_8 hx281_9); (try clear hx282_0 hx282_1 hx282_10 hx282_11 hx282_2 hx282_3 hx282_4 hx282_5 hx282_6 hx282_7 hx282_8 hx282_9); (try clear p2); (try clear p281); (try clear p282); (try clear p6); (try clear q281); (try clear q282)
      obtain ⟨x0_2, x13_2, rfl, HA, HK2, HO_0, HK, HB⟩ := hrel
      cases gk with
      | zero => exact absurd HA.out (by simp [slices_symMergeCmpFunc_Job__job_Due_1.l1])
      | succ k2 =>
       have H := HA.out
       clear HA
       simp only [slices_symMergeCmpFunc_Job__job_Due_1.l1] at H
       by_cases c21 : x13_2 < (wrap64 (x10_1 - 1))
       ·rw [if_pos c21] at H
        have c21b0 : decide (x13_2 < (wrap64 (x10_1 - 1))) = true := decide_eq_true c21
        clear c21
        obtain ⟨ji22, hji22⟩ : ∃ j_ : Int, (wrap64 (x13_2 + 1)) = j_ := ⟨_, rfl⟩
        replace H : (if 0 ≤ (ji22) then (if (ji22) < (x0_2.length : Int) then (if 0 ≤ x13_2 then (if x13_2 < (x0_2.length : Int) then (slices_symMergeCmpFunc_Job__job_Due_1.l1 k2 ((x0_2.set (x13_2 : Int).toNat (⟨(rd_T32 x0_2 (ji22)).f0, (rd_T32 x0_2 (ji22)).f1, (rd_T32 x0_2 (ji22)).f2, (rd_T32 x0_2 (ji22)).f3, (rd_T32 x0_2 (ji22)).f4, (rd_T32 x0_2 (ji22)).f5, (rd_T32 x0_2 (ji22)).f6, (rd_T32 x0_2 (ji22)).f7, (rd_T32 x0_2 (ji22)).f8, (rd_T32 x0_2 (ji22)).f9, (rd_T32 x0_2 (ji22)).f10, (rd_T32 x0_2 (ji22)).f11⟩ : S32)).set ((ji22) : Int).toNat (⟨(rd_T32 x0_2 x13_2).f0, (rd_T32 x0_2 x13_2).f1, (rd_T32 x0_2 x13_2).f2, (rd_T32 x0_2 x13_2).f3, (rd_T32 x0_2 x13_2).f4, (rd_T32 x0_2 x13_2).f5, (rd_T32 x0_2 x13_2).f6, (rd_T32 x0_2 x13_2).f7, (rd_T32 x0_2 x13_2).f8, (rd_T32 x0_2 x13_2).f9, (rd_T32 x0_2 x13_2).f10, (rd_T32 x0_2 x13_2).f11⟩ : S32)) x10_1 ji22) else (none)) else (none)) else (none)) else (none)) = some r := by first | (rw [hji22] at H; exact H) | (simp only [hji22] at H ⊢; exact H)
        have hji22w : (IntKind.i64.wrap (x13_2 + 1)) = ji22 := (i64_w _).trans hji22
        by_cases c23 : 0 ≤ (ji22)
        ·rw [if_pos c23] at H
         have c23b0 : decide (0 ≤ (ji22)) = true := decide_eq_true c23
         clear c23
         by_cases c24 : (ji22) < (x0_2.length : Int)
         ·rw [if_pos c24] at H
          have c24b0 : decide ((ji22) < (x0_2.length : Int)) = true := decide_eq_true c24
          clear c24
          by_cases c25 : 0 ≤ x13_2
          ·rw [if_pos c25] at H
           have c25b0 : decide (0 ≤ x13_2) = true := decide_eq_true c25
           clear c25
           by_cases c26 : x13_2 < (x0_2.length : Int)
           ·rw [if_pos c26] at H
            have c26b0 : decide (x13_2 < (x0_2.length : Int)) = true := decide_eq_true c26
            clear c26
            obtain ⟨y286, hy286⟩ : ∃ y_ : List (S32), y_ = (x0_2.set (x13_2 : Int).toNat (⟨(rd_T32 x0_2 (ji22)).f0, (rd_T32 x0_2 (ji22)).f1, (rd_T32 x0_2 (ji22)).f2, (rd_T32 x0_2 (ji22)).f3, (rd_T32 x0_2 (ji22)).f4, (rd_T32 x0_2 (ji22)).f5, (rd_T32 x0_2 (ji22)).f6, (rd_T32 x0_2 (ji22)).f7, (rd_T32 x0_2 (ji22)).f8, (rd_T32 x0_2 (ji22)).f9, (rd_T32 x0_2 (ji22)).f10, (rd_T32 x0_2 (ji22)).f11⟩ : S32)) := ⟨_, rfl⟩
            replace H : (slices_symMergeCmpFunc_Job__job_Due_1.l1 k2 (y286.set ((ji22) : Int).toNat (⟨(rd_T32 x0_2 x13_2).f0, (rd_T32 x0_2 x13_2).f1, (rd_T32 x0_2 x13_2).f2, (rd_T32 x0_2 x13_2).f3, (rd_T32 x0_2 x13_2).f4, (rd_T32 x0_2 x13_2).f5, (rd_T32 x0_2 x13_2).f6, (rd_T32 x0_2 x13_2).f7, (rd_T32 x0_2 x13_2).f8, (rd_T32 x0_2 x13_2).f9, (rd_T32 x0_2 x13_2).f10, (rd_T32 x0_2 x13_2).f11⟩ : S32)) x10_1 ji22) = some r := mH hy286 H
            have Ny286 := Aside0.mk hy286
            clear hy286
            obtain ⟨y287, hy287⟩ : ∃ y_ : List (S32), y_ = (y286.set ((ji22) : Int).toNat (⟨(rd_T32 x0_2 x13_2).f0, (rd_T32 x0_2 x13_2).f1, (rd_T32 x0_2 x13_2).f2, (rd_T32 x0_2 x13_2).f3, (rd_T32 x0_2 x13_2).f4, (rd_T32 x0_2 x13_2).f5, (rd_T32 x0_2 x13_2).f6, (rd_T32 x0_2 x13_2).f7, (rd_T32 x0_2 x13_2).f8, (rd_T32 x0_2 x13_2).f9, (rd_T32 x0_2 x13_2).f10, (rd_T32 x0_2 x13_2).f11⟩ : S32)) := ⟨_, rfl⟩
            replace H : (slices_symMergeCmpFunc_Job__job_Due_1.l1 k2 y287 x10_1 ji22) = some r := mH hy287 H
            have Ny287 := Aside0.mk hy287
            clear hy287
            have H' := Aside0.mk H
            clear H
            try go_wp2
            have n0_ := Aside0.mk (Kd.R_drew HO_0.out)
            have n1_ := Aside0.mk (Kept.drew HK.out)
            have n2_ := Aside0.mk (below_drew1 HB.out)
            clear HO_0; clear HK; clear HB
            have HO_0 := n0_
            have HK := n1_
            have HB := n2_
            clear n0_; clear n1_; clear n2_
            obtain ⟨Ao30, co30, eo30⟩ := Kd.R_slice HO_0.out
            (first | subst eo30 | (injection eo30 with f1_ f2_ f3_; have f4_ := f1_.symm; have f5_ := f3_.symm; clear f1_ f2_ f3_; subst f4_; subst f5_))
            have p284 : 0 ≤ ((ji22) : Int) := oda
            have q284 : (ji22) < (x0_2.length : Int) := oda
            obtain ⟨ad284, e284, hx284_0, hx284_1, hx284_2, hx284_3, hx284_4, hx284_5, hx284_6, hx284_7, hx284_8, hx284_9, hx284_10, hx284_11⟩ := at_T32 (Kd.R_reads' HO_0.out).2.2 (ji22) p284 q284
            cases e284
            replace p284 := eq_true p284
            replace q284 := eq_true q284
            have p285 : 0 ≤ (x13_2 : Int) := oda
            have q285 : x13_2 < (x0_2.length : Int) := oda
            obtain ⟨ad285, e285, hx285_0, hx285_1, hx285_2, hx285_3, hx285_4, hx285_5, hx285_6, hx285_7, hx285_8, hx285_9, hx285_10, hx285_11⟩ := at_T32 (Kd.R_reads' HO_0.out).2.2 x13_2 p285 q285
            obtain rfl : ad284 = ad285 := (by injection e285)
            replace p285 := eq_true p285
            replace q285 := eq_true q285
            have p27 : 0 ≤ (x13_2 : Int) := oda
            have q27 : (x13_2 : Int) < ((x0_2.length : Int) : Int) := oda
            obtain ⟨go27, co27, eo27, gb27, gl27, cl27, HG27⟩ := Kd.R_form HO_0.out (by omega)
            (first | cases eo27 | (injection eo27 with ea_ en_ ec_; (first | subst ea_ | (injection ea_ with ea_; subst ea_)); subst ec_; clear en_))
            have GB27 := Aside0.mk gb27
            have GG27 := Aside0.mk HG27
            clear gb27; clear gl27; clear HG27
            have HMgo27 := Aside0.mk (show (P0_ go27 ∨ w.heap.size ≤ go27) from (HO_0.out.1 _ rfl))
            (first | simp only [add_plain] at hx284_0 | skip)
            (first | simp only [add_plain] at hx284_1 | skip)
            (first | simp only [add_plain] at hx284_2 | skip)
            (first | simp only [add_plain] at hx284_3 | skip)
            (first | simp only [add_plain] at hx284_4 | skip)
            (first | simp only [add_plain] at hx284_5 | skip)
            (first | simp only [add_plain] at hx284_6 | skip)
            (first | simp only [add_plain] at hx284_7 | skip)
            (first | simp only [add_plain] at hx284_8 | skip)
            (first | simp only [add_plain] at hx284_9 | skip)
            (first | simp only [add_plain] at hx284_10 | skip)
            (first | simp only [add_plain] at hx284_11 | skip)
            (first | simp only [add_plain] at hx285_0 | skip)
            (first | simp only [add_plain] at hx285_1 | skip)
            (first | simp only [add_plain] at hx285_2 | skip)
            (first | simp only [add_plain] at hx285_3 | skip)
            (first | simp only [add_plain] at hx285_4 | skip)
            (first | simp only [add_plain] at hx285_5 | skip)
            (first | simp only [add_plain] at hx285_6 | skip)
            (first | simp only [add_plain] at hx285_7 | skip)
            (first | simp only [add_plain] at hx285_8 | skip)
            (first | simp only [add_plain] at hx285_9 | skip)
            (first | simp only [add_plain] at hx285_10 | skip)
            (first | simp only [add_plain] at hx285_11 | skip)
            refine start_ (n := 18) (S := fun w' => c12 w' ⟨go27, (((ji22)).toNat * 12), none⟩ (rd_T32 x0_2 (ji22)) <| c12e w' ⟨go27, ((x13_2).toNat * 12), none⟩ (rd_T32 x0_2 x13_2)) (ds := [15, 17]) #[false, false, false, false, false, false, false, false, false, false, false, false, false, false, false, false, false, false] (by kernel_rfl) rfl rfl ⟨hx284_0, hx284_1, hx284_2, hx284_3, hx284_4, hx284_5, hx284_6, hx284_7, hx284_8, hx284_9, hx284_10, hx284_11, hx285_0, hx285_1, hx285_2, hx285_3, hx285_4, hx285_5, hx285_6, hx285_7, hx285_8, hx285_9, hx285_10, hx285_11⟩ (fun hHeld => ?_); refine with_tabW slices_symMergeCmpFunc_Job__job_Due_1.tab11 slices_symMergeCmpFunc_Job__job_Due_1.bits11 (fun HT_ HW_ => ?_)
            generalize wr.drew = w29 at HO_0 HK HB GG27 hx284_0 hx284_1 hx284_10 hx284_11 hx284_2 hx284_3 hx284_4 hx284_5 hx284_6 hx284_7 hx284_8 hx284_9 hx285_0 hx285_1 hx285_10 hx285_11 hx285_2 hx285_3 hx285_4 hx285_5 hx285_6 hx285_7 hx285_8 hx285_9 hHeld ⊢
            refine plan_ [(0, 61), (1, 62), (2, 63), (3, 64), (4, 65), (5, 66), (6, 67), (7, 68), (8, 69), (10, 71), (11, 72), (12, 73)] ?_
            iterate 12 (refine planP_ (v := ?_) (a' := ?_) rfl rfl (any_of HT_.out (by kernel_rfl)) (fun _ _ _ h => h) (Or.inl ⟨by rfl, ?_⟩) ?_ ?_; rotate_left; (intro w'; go_simp; with_reducible rfl); rotate_left; (simp only [Act.put, List.setIfInBounds_toArray, List.set_cons_zero, List.set_cons_succ, i64_w, i32_w]; rfl))
            refine planEnd_ ?_
            refine plan_ [(9, 70), (13, 74)] ?_
            iterate 2 (refine planT_ (v := ?_) (a' := ?_) rfl rfl (take_ofW HT_.out HW_.out (by kernel_rfl)) (fun _ _ _ h => h) (Or.inl ⟨by rfl, ?_⟩) hHeld ?_ ?_; rotate_left; (rintro w' ⟨s0, s1, s2, s3, s4, s5, s6, s7, s8, s9, s10, s11, s12, s13, s14, s15, s16, s17, s18, s19, s20, s21, s22, s23⟩; go_simp; with_reducible rfl); rotate_left; (simp only [Act.put, List.setIfInBounds_toArray, List.set_cons_zero, List.set_cons_succ, i64_w, i32_w]; rfl))
            refine planEnd_ ?_
            refine plan_ [(14, 75)] ?_
            refine planP_ (v := ?_) (a' := ?_) rfl rfl (any_of HT_.out (by kernel_rfl)) (fun _ _ _ h => h) (Or.inl ⟨by rfl, ?_⟩) ?_ ?_; rotate_left; (intro w'; go_simp; with_reducible rfl); rotate_left; (simp only [Act.put, List.setIfInBounds_toArray, List.set_cons_zero, List.set_cons_succ, i64_w, i32_w]; rfl)
            refine planEnd_ ?_
            refine last_ (i := 15) (N := none) #[true, true, true, true, true, true, true, true, true, true, true, true, true, true, true, true, false, false] rfl rfl (one_of HT_.out (by kernel_rfl)) (by decide) (fun K hK => ?_)
            refine storeW_ k32 (w0 := w0) (g := go27) (x13_2) z32 (⟨(rd_T32 x0_2 (ji22)).f0, (rd_T32 x0_2 (ji22)).f1, (rd_T32 x0_2 (ji22)).f2, (rd_T32 x0_2 (ji22)).f3, (rd_T32 x0_2 (ji22)).f4, (rd_T32 x0_2 (ji22)).f5, (rd_T32 x0_2 (ji22)).f6, (rd_T32 x0_2 (ji22)).f7, (rd_T32 x0_2 (ji22)).f8, (rd_T32 x0_2 (ji22)).f9, (rd_T32 x0_2 (ji22)).f10, (rd_T32 x0_2 (ji22)).f11⟩ : S32) [.int .i64 ((rd_T32 x0_2 (ji22)).f0), .int .i64 ((rd_T32 x0_2 (ji22)).f1), .int .i64 ((rd_T32 x0_2 (ji22)).f2), .int .i64 ((rd_T32 x0_2 (ji22)).f3), .int .i64 ((rd_T32 x0_2 (ji22)).f4), .int .i64 ((rd_T32 x0_2 (ji22)).f5), .int .i64 ((rd_T32 x0_2 (ji22)).f6), .int .i64 ((rd_T32 x0_2 (ji22)).f7), .int .i64 ((rd_T32 x0_2 (ji22)).f8), .int .i64 ((rd_T32 x0_2 (ji22)).f9), .int .i64 ((rd_T32 x0_2 (ji22)).f10), .slice ((rd_T32 x0_2 (ji22)).f11).A ((rd_T32 x0_2 (ji22)).f11).n ((rd_T32 x0_2 (ji22)).f11).c] (by rfl) rfl rfl (by first | rfl | (go_simp; done) | (go_simp; rfl)) rfl (by first | rfl | (go_simp; done) | (go_simp; rfl)) rfl (by kernel_rfl) rfl one12 HO_0.out (of_eq_true p285) (of_eq_true q285) (k32_mkM _ _ _ (⟨(rd_T32 x0_2 (ji22)).f0, (rd_T32 x0_2 (ji22)).f1, (rd_T32 x0_2 (ji22)).f2, (rd_T32 x0_2 (ji22)).f3, (rd_T32 x0_2 (ji22)).f4, (rd_T32 x0_2 (ji22)).f5, (rd_T32 x0_2 (ji22)).f6, (rd_T32 x0_2 (ji22)).f7, (rd_T32 x0_2 (ji22)).f8, (rd_T32 x0_2 (ji22)).f9, (rd_T32 x0_2 (ji22)).f10, (rd_T32 x0_2 (ji22)).f11⟩ : S32)) (fun _ hk => hk) HB.out ?_
            intro wa hoa hba hga
            rw [← Ny286.out] at hoa
            have n0_ := Aside0.mk hoa
            have n1_ := Aside0.mk hba
            have n2_ := Aside0.mk (Kept.of_grown hga HK.out (fun k e_ => by injection e_ with e_; subst e_; exact HMgo27.out))
            clear HO_0; clear HB; clear HK; clear hoa; clear hba; clear hga
            have HO_0 := n0_
            have HB := n1_
            have HK := n2_
            clear n0_; clear n1_; clear n2_
            refine hK.out _ _ ?_
            clear hK; clear K
            refine plan_ [(16, 76)] ?_
            refine planP_ (v := ?_) (a' := ?_) rfl rfl (any_of HT_.out (by kernel_rfl)) (fun _ _ _ h => h) (Or.inl ⟨by rfl, ?_⟩) ?_ ?_; rotate_left; (intro w'; go_simp; with_reducible rfl); rotate_left; (simp only [Act.put, List.setIfInBounds_toArray, List.set_cons_zero, List.set_cons_succ, i64_w, i32_w]; rfl)
            refine planEnd_ ?_
            refine last_ (i := 17) (N := none) #[true, true, true, true, true, true, true, true, true, true, true, true, true, true, true, true, true, true] rfl rfl (one_of HT_.out (by kernel_rfl)) (by decide) (fun K hK => ?_)
            refine storeW_ k32 (w0 := w0) (g := go27) (ji22) z32 (⟨(rd_T32 x0_2 (x13_2)).f0, (rd_T32 x0_2 (x13_2)).f1, (rd_T32 x0_2 (x13_2)).f2, (rd_T32 x0_2 (x13_2)).f3, (rd_T32 x0_2 (x13_2)).f4, (rd_T32 x0_2 (x13_2)).f5, (rd_T32 x0_2 (x13_2)).f6, (rd_T32 x0_2 (x13_2)).f7, (rd_T32 x0_2 (x13_2)).f8, (rd_T32 x0_2 (x13_2)).f9, (rd_T32 x0_2 (x13_2)).f10, (rd_T32 x0_2 (x13_2)).f11⟩ : S32) [.int .i64 ((rd_T32 x0_2 (x13_2)).f0), .int .i64 ((rd_T32 x0_2 (x13_2)).f1), .int .i64 ((rd_T32 x0_2 (x13_2)).f2), .int .i64 ((rd_T32 x0_2 (x13_2)).f3), .int .i64 ((rd_T32 x0_2 (x13_2)).f4), .int .i64 ((rd_T32 x0_2 (x13_2)).f5), .int .i64 ((rd_T32 x0_2 (x13_2)).f6), .int .i64 ((rd_T32 x0_2 (x13_2)).f7), .int .i64 ((rd_T32 x0_2 (x13_2)).f8), .int .i64 ((rd_T32 x0_2 (x13_2)).f9), .int .i64 ((rd_T32 x0_2 (x13_2)).f10), .slice ((rd_T32 x0_2 (x13_2)).f11).A ((rd_T32 x0_2 (x13_2)).f11).n ((rd_T32 x0_2 (x13_2)).f11).c] (by rfl) rfl rfl (by first | rfl | (go_simp; done) | (go_simp; rfl)) rfl (by first | rfl | (go_simp; done) | (go_simp; rfl)) rfl (by kernel_rfl) rfl one12 HO_0.out (of_eq_true p284) (of_eq_true q284) (k32_mkM _ _ _ (⟨(rd_T32 x0_2 (x13_2)).f0, (rd_T32 x0_2 (x13_2)).f1, (rd_T32 x0_2 (x13_2)).f2, (rd_T32 x0_2 (x13_2)).f3, (rd_T32 x0_2 (x13_2)).f4, (rd_T32 x0_2 (x13_2)).f5, (rd_T32 x0_2 (x13_2)).f6, (rd_T32 x0_2 (x13_2)).f7, (rd_T32 x0_2 (x13_2)).f8, (rd_T32 x0_2 (x13_2)).f9, (rd_T32 x0_2 (x13_2)).f10, (rd_T32 x0_2 (x13_2)).f11⟩ : S32)) (fun _ hk => hk) HB.out ?_
            intro wb hob hbb hgb
            rw [← Ny287.out] at hob
            have n0_ := Aside0.mk hob
            have n1_ := Aside0.mk hbb
            have n2_ := Aside0.mk (Kept.of_grown hgb HK.out (fun k e_ => by injection e_ with e_; subst e_; exact HMgo27.out))
            clear HO_0; clear HB; clear HK; clear hob; clear hbb; clear hgb
            have HO_0 := n0_
            have HB := n1_
            have HK := n2_
            clear n0_; clear n1_; clear n2_
            refine hK.out _ _ ?_
            clear hK; clear K
            refine done_ (done_of HT_.out (by kernel_rfl)) ?_
            try go_wp2
            go_roundg k2
            case measure => have := HK1.out; have := HK2.out; omega
            case rel => exact ⟨(y287), (ji22), (by first | rfl | (simp; done) | (simp only [← hji22] <;> (first | rfl | simp)) | (simp [*]; done)), H', ⟨by have := HK1.out; have := HK2.out; omega⟩, ⟨mR HO_0.out⟩, ⟨by repeat (first | (with_reducible first | exact HK.out | apply Kept.alloc | apply Kept.drewN | apply Kept.drew | refine Kept.setCell ?_ HMgo27.out _ | refine Kept.setCell ?_ HMgo27.out _ | refine Kept.setCell ?_ HMgo27.out _ | refine Kept.setCell ?_ HMgo27.out _ | refine Kept.setCell ?_ HMgo27.out _ | refine Kept.setCell ?_ HMgo27.out _ | refine Kept.setCell ?_ HMgo27.out _ | refine Kept.setCell ?_ HMgo27.out _ | refine Kept.setCell ?_ HMgo27.out _ | refine Kept.setCell ?_ HMgo27.out _ | refine Kept.setCell ?_ HMgo27.out _ | refine Kept.setCell ?_ HMgo27.out _ | refine Kept.setCell ?_ HMgo27.out _ | refine Kept.setCell ?_ HMgo27.out _ | refine Kept.setCell ?_ HMgo27.out _ | refine Kept.setCell ?_ HMgo27.out _ | refine Kept.setCell ?_ HMgo27.out _ | refine Kept.setCell ?_ HMgo27.out _ | refine Kept.setCell ?_ HMgo27.out _ | refine Kept.setCell ?_ HMgo27.out _ | refine Kept.setCell ?_ HMgo27.out _ | refine Kept.setCell ?_ HMgo27.out _ | refine Kept.setCell ?_ HMgo27.out _ | refine Kept.setCell ?_ HMgo27.out _) | exact HK.out)⟩, ⟨mBs HB.out⟩⟩
           ·rw [if_neg c26] at H
            exact absurd H (by simp)
          ·rw [if_neg c25] at H
           exact absurd H (by simp)
         ·rw [if_neg c24] at H
          exact absurd H (by simp)
        ·rw [if_neg c23] at H
         exact absurd H (by simp)
       ·rw [if_neg c21] at H
        have c21b0 : decide (x13_2 < (wrap64 (x10_1 - 1))) = false := decide_eq_false c21
        clear c21
        obtain rfl := Option.some.inj H
        go_wp2
        first | go_end0 | ((try simp only [Exit.inBlock, Exit.then]); refine bodyPost_ret (results_none rfl _ _ _) rfl ?_)
        exact ⟨by first | rfl | (simp [errW_none, errW_some] <;> rfl) | (simp [*, errW_none, errW_some] <;> rfl), mR HO_0.out, by repeat (first | (with_reducible first | exact HB.out | apply below_alloc | apply pw_below_drewN | apply below_drew1) | exact HB.out), by repeat (first | (with_reducible first | exact HK.out | apply Kept.alloc | apply Kept.drewN | apply Kept.drew) | exact HK.out)⟩
 ·rw [if_neg c6] at H
  have c6b0 : ((wrap64 (a2 - a1)) == 1) = false := beq_eq_false_iff_ne.mpr c6
  have c6b1 : ((wrap64 (a2 - a1)) != 1) = true := bne_iff_ne.mpr c6
  by_cases c33 : (wrap64 (a3 - a2)) = 1
  ·rw [if_pos c33] at H
   have c33b0 : ((wrap64 (a3 - a2)) == 1) = true := beq_iff_eq.mpr c33
   have c33b1 : ((wrap64 (a3 - a2)) != 1) = false := bne_eq_false_iff_eq.mpr c33
   clear c33
   have H' := Aside0.mk H
   clear H
   go_enter Try.func68, Try.ntmps68
   go_wp2
   go_loopg [14, 15] k (fun kq v14 v15 w' => ∃ (x14_1 : Int) (x15_1 : Int), v14 = .int .i64 x14_1 ∧ v15 = .int .i64 x15_1 ∧ Aside0 (slices_symMergeCmpFunc_Job__job_Due_1.l2 kq l0 a2 x14_1 x15_1 = some r) ∧ Aside0 (kq ≤ k) ∧ Aside0 (Kd.R k32 32 w' w0.heap.size (fun k_ => (P0_ k_ ∨ w.heap.size ≤ k_)) u9000_ l0) ∧ Aside0 (Kept w w' (fun k_ => P0_ k_)) ∧ Aside0 (Below w0.heap.size w0 w'))
   case atStart => exact ⟨(a1), (a2), ez, ez, H', ⟨Nat.le_refl _⟩, ⟨mR HO0.out⟩, ⟨mK HK.out⟩, ⟨mB HB.out⟩⟩
   case round => as_aux_lemma =>
    clear H'
    (try clear c1); (try clear c2); (try clear p2); (try clear q2); (try clear hx2); (try clear c3); (try clear c4); (try clear c6); (try clear c6b0); (try clear c6b1); (try clear p6); (try clear c7); (try clear c7b0); (try clear c9); (try clear c9b0); (try clear c10); (try clear c10b0); (try clear c11); (try clear c11b0); (try clear c12); (try clear c12b0); (try clear c14); (try clear c14b0); (try clear c21); (try clear c21b0); (try clear c23); (try clear c23b0); (try clear c24); (try clear c24b0); (try clear c25); (try clear c25b0); (try clear c26); (try clear c26b0); (try clear c27); (try clear p27); (try clear q27); (try clear hx27); (try clear hf27); (try clear c28); (try clear p28); (try clear q28); (try clear hx28); (try clear hf28); (try clear c31); (try clear c32); (try clear c33); (try clear c33b0); (try clear c33b1); (try clear hx27_0 hx27_1 hx27_10 hx27_11 hx27_2 hx27_3 hx27_4 hx27_5 hx27_6 hx27_7 hx27_8 hx27_9); (try clear hx281_0 hx281_1 hx281_10 hx281_11 hx281_2 hx281_3 hx281_4 hx281_5 hx281_6 hx281_7 hx281_8 hx281_9); (try clear hx282_0 hx282_1 hx282_10 hx282_11 hx282_2 hx282_3 hx282_4 hx282_5 hx282_6 hx282_7 hx282_8 hx282_9); (try clear hx284_0 hx284_1 hx284_10 hx284_11 hx284_2 hx284_3 hx284_4 hx284_5 hx284_6 hx284_7 hx284_8 hx284_9); (try clear hx285_0 hx285_1 hx285_10 hx285_11 hx285_2 hx285_3 hx285_4 hx285_5 hx285_6 hx285_7 hx285_8 hx285_9); (try clear hx28_0 hx28_1 hx28_10 hx28_11 hx28_2 hx28_3 hx28_4 hx28_5 hx28_6 hx28_7 hx28_8 hx28_9); (try clear p2); (try clear p27); (try clear p28); (try clear p281); (try clear p282); (try clear p284); (try clear p285); (try clear p6); (try clear q2); (try clear q27); (try clear q28); (try clear q281); (try clear q282); (try clear q284); (try clear q285)
    obtain ⟨x14_1, x15_1, rfl, rfl, HA, HK1, HO_0, HK, HB⟩ := hrel
    cases gk with
    | zero => exact absurd HA.out (by simp [slices_symMergeCmpFunc_Job__job_Due_1.l2])
    | succ k1 =>
     have H := HA.out
     clear HA
     simp only [slices_symMergeCmpFunc_Job__job_Due_1.l2] at H
     by_cases c34 : x14_1 < x15_1
     ·rw [if_pos c34] at H
      have c34b0 : decide (x14_1 < x15_1) = true := decide_eq_true c34
      clear c34
      by_cases c35 : 0 ≤ a2
      ·rw [if_pos c35] at H
       have c35b0 : decide (0 ≤ a2) = true := decide_eq_true c35
       clear c35
       by_cases c36 : a2 < (l0.length : Int)
       ·rw [if_pos c36] at H
        have c36b0 : decide (a2 < (l0.length : Int)) = true := decide_eq_true c36
        clear c36
        obtain ⟨ji37, hji37⟩ : ∃ j_ : Int, (wrap64 ((IntKind.u64.wrap (wrap64 (x14_1 + x15_1))) / 2)) = j_ := ⟨_, rfl⟩
        replace H : (if 0 ≤ (ji37) then (if (ji37) < (l0.length : Int) then ((job_Due_1.f ((rd_T32 l0 a2).f0) ((rd_T32 l0 a2).f1) ((rd_T32 l0 a2).f2) ((rd_T32 l0 a2).f3) ((rd_T32 l0 a2).f4) ((rd_T32 l0 a2).f5) ((rd_T32 l0 a2).f6) ((rd_T32 l0 a2).f7) ((rd_T32 l0 a2).f8) ((rd_T32 l0 a2).f9) ((rd_T32 l0 a2).f10) ((rd_T32 l0 a2).f11) ((rd_T32 l0 (ji37)).f0) ((rd_T32 l0 (ji37)).f1) ((rd_T32 l0 (ji37)).f2) ((rd_T32 l0 (ji37)).f3) ((rd_T32 l0 (ji37)).f4) ((rd_T32 l0 (ji37)).f5) ((rd_T32 l0 (ji37)).f6) ((rd_T32 l0 (ji37)).f7) ((rd_T32 l0 (ji37)).f8) ((rd_T32 l0 (ji37)).f9) ((rd_T32 l0 (ji37)).f10) ((rd_T32 l0 (ji37)).f11)).bind fun t290 => (if t290 < 0 then (slices_symMergeCmpFunc_Job__job_Due_1.l2 k1 l0 a2 x14_1 ji37) else (slices_symMergeCmpFunc_Job__job_Due_1.l2 k1 l0 a2 (wrap64 ((ji37) + 1)) x15_1))) else (none)) else (none)) = some r := by first | (rw [hji37] at H; exact H) | (simp only [hji37] at H ⊢; exact H)
        have hji37w : (IntKind.i64.wrap ((IntKind.u64.wrap (wrap64 (x14_1 + x15_1))) / 2)) = ji37 := (i64_w _).trans hji37
        by_cases c38 : 0 ≤ (ji37)
        ·rw [if_pos c38] at H
         have c38b0 : decide (0 ≤ (ji37)) = true := decide_eq_true c38
         clear c38
         by_cases c39 : (ji37) < (l0.length : Int)
         ·rw [if_pos c39] at H
          have c39b0 : decide ((ji37) < (l0.length : Int)) = true := decide_eq_true c39
          clear c39
          replace H := Option.bind_eq_some_iff.mp H
          obtain ⟨t290, A400, H⟩ := H
          replace H : (if t290 < 0 then (slices_symMergeCmpFunc_Job__job_Due_1.l2 k1 l0 a2 x14_1 ji37) else (slices_symMergeCmpFunc_Job__job_Due_1.l2 k1 l0 a2 (wrap64 ((ji37) + 1)) x15_1)) = some r := H
          have A40 := Aside0.mk A400
          clear A400
          by_cases c41 : t290 < 0
          ·as_aux_lemma =>
           rw [if_pos c41] at H
           have c41b0 : decide (t290 < 0) = true := decide_eq_true c41
           clear c41
           have H' := Aside0.mk H
           clear H
           try go_wp2
           have n0_ := Aside0.mk (Kd.R_drew HO_0.out)
           have n1_ := Aside0.mk (Kept.drew HK.out)
           have n2_ := Aside0.mk (below_drew1 HB.out)
           clear HO_0; clear HK; clear HB
           have HO_0 := n0_
           have HK := n1_
           have HB := n2_
           clear n0_; clear n1_; clear n2_
           obtain ⟨Ao43, co43, eo43⟩ := Kd.R_slice HO_0.out
           (first | subst eo43 | (injection eo43 with f1_ f2_ f3_; have f4_ := f1_.symm; have f5_ := f3_.symm; clear f1_ f2_ f3_; subst f4_; subst f5_))
           have p288 : 0 ≤ (a2 : Int) := oda
           have q288 : a2 < (l0.length : Int) := oda
           obtain ⟨ad288, e288, hx288_0, hx288_1, hx288_2, hx288_3, hx288_4, hx288_5, hx288_6, hx288_7, hx288_8, hx288_9, hx288_10, hx288_11⟩ := at_T32 (Kd.R_reads' HO_0.out).2.2 a2 p288 q288
           cases e288
           replace p288 := eq_true p288
           replace q288 := eq_true q288
           have p289 : 0 ≤ ((ji37) : Int) := oda
           have q289 : (ji37) < (l0.length : Int) := oda
           obtain ⟨ad289, e289, hx289_0, hx289_1, hx289_2, hx289_3, hx289_4, hx289_5, hx289_6, hx289_7, hx289_8, hx289_9, hx289_10, hx289_11⟩ := at_T32 (Kd.R_reads' HO_0.out).2.2 (ji37) p289 q289
           obtain rfl : ad288 = ad289 := (by injection e289)
           replace p289 := eq_true p289
           replace q289 := eq_true q289
           refine start_ (n := 12) (S := fun w' => c12 w' (ad288.add ((a2).toNat * 12)) (rd_T32 l0 a2) <| c12e w' (ad288.add (((ji37)).toNat * 12)) (rd_T32 l0 (ji37))) (ds := []) #[false, false, false, false, false, false, false, false, false, false, false, false] (by kernel_rfl) rfl rfl ⟨hx288_0, hx288_1, hx288_2, hx288_3, hx288_4, hx288_5, hx288_6, hx288_7, hx288_8, hx288_9, hx288_10, hx288_11, hx289_0, hx289_1, hx289_2, hx289_3, hx289_4, hx289_5, hx289_6, hx289_7, hx289_8, hx289_9, hx289_10, hx289_11⟩ (fun hHeld => ?_); refine with_tabW slices_symMergeCmpFunc_Job__job_Due_1.tab17 slices_symMergeCmpFunc_Job__job_Due_1.bits17 (fun HT_ HW_ => ?_)
           generalize wr.drew = w42 at HO_0 HK HB hx288_0 hx288_1 hx288_10 hx288_11 hx288_2 hx288_3 hx288_4 hx288_5 hx288_6 hx288_7 hx288_8 hx288_9 hx289_0 hx289_1 hx289_10 hx289_11 hx289_2 hx289_3 hx289_4 hx289_5 hx289_6 hx289_7 hx289_8 hx289_9 hHeld ⊢
           refine plan_ [(0, 92), (1, 93), (2, 94), (3, 95), (5, 97), (6, 98), (7, 99)] ?_
           iterate 7 (refine planP_ (v := ?_) (a' := ?_) rfl rfl (any_of HT_.out (by kernel_rfl)) (fun _ _ _ h => h) (Or.inl ⟨by rfl, ?_⟩) ?_ ?_; rotate_left; (intro w'; go_simp; with_reducible rfl); rotate_left; (simp only [Act.put, List.setIfInBounds_toArray, List.set_cons_zero, List.set_cons_succ, i64_w, i32_w]; rfl))
           refine planEnd_ ?_
           refine plan_ [(4, 96), (8, 100)] ?_
           iterate 2 (refine planT_ (v := ?_) (a' := ?_) rfl rfl (take_ofW HT_.out HW_.out (by kernel_rfl)) (fun _ _ _ h => h) (Or.inl ⟨by rfl, ?_⟩) hHeld ?_ ?_; rotate_left; (rintro w' ⟨s0, s1, s2, s3, s4, s5, s6, s7, s8, s9, s10, s11, s12, s13, s14, s15, s16, s17, s18, s19, s20, s21, s22, s23⟩; go_simp; with_reducible rfl); rotate_left; (simp only [Act.put, List.setIfInBounds_toArray, List.set_cons_zero, List.set_cons_succ, i64_w, i32_w]; rfl))
           refine planEnd_ ?_
           refine one_ (i := 9) (N := some 101) #[true, true, true, true, true, true, true, true, true, true, false, false] rfl rfl (one_of HT_.out (by kernel_rfl)) (by decide) (fun K hK => ?_)
           refine goesV_ Try.func47 (by kernel_rfl) rfl #[.agg (cJ (rd_T32 l0 a2)), .agg (cJ (rd_T32 l0 (ji37)))] (by rfl) rfl rfl (by (try simp only [List.map_toArray, List.map_cons, List.map_nil]); first | done | (simp only [hji37]; rfl) | rfl | (simp only [List.length_drop, List.length_take]; rfl)) rfl ?_
           with_reducible refine (job_Due_1.calls ((rd_T32 l0 a2).f0) ((rd_T32 l0 a2).f1) ((rd_T32 l0 a2).f2) ((rd_T32 l0 a2).f3) ((rd_T32 l0 a2).f4) ((rd_T32 l0 a2).f5) ((rd_T32 l0 a2).f6) ((rd_T32 l0 a2).f7) ((rd_T32 l0 a2).f8) ((rd_T32 l0 a2).f9) ((rd_T32 l0 a2).f10) ((rd_T32 l0 a2).f11) ((rd_T32 l0 (ji37)).f0) ((rd_T32 l0 (ji37)).f1) ((rd_T32 l0 (ji37)).f2) ((rd_T32 l0 (ji37)).f3) ((rd_T32 l0 (ji37)).f4) ((rd_T32 l0 (ji37)).f5) ((rd_T32 l0 (ji37)).f6) ((rd_T32 l0 (ji37)).f7) ((rd_T32 l0 (ji37)).f8) ((rd_T32 l0 (ji37)).f9) ((rd_T32 l0 (ji37)).f10) ((rd_T32 l0 (ji37)).f11) t290 _ A40.out).mono ?_
           rintro e w44 ⟨rfl, hb⟩
           have HS0_ := hs_ hb hHeld.1
           have HS1_ := hs_ hb hHeld.2.1
           have HS2_ := hs_ hb hHeld.2.2.1
           have HS3_ := hs_ hb hHeld.2.2.2.1
           have HS4_ := hs_ hb hHeld.2.2.2.2.1
           have HS5_ := hs_ hb hHeld.2.2.2.2.2.1
           have HS6_ := hs_ hb hHeld.2.2.2.2.2.2.1
           have HS7_ := hs_ hb hHeld.2.2.2.2.2.2.2.1
           have HS8_ := hs_ hb hHeld.2.2.2.2.2.2.2.2.1
           have HS9_ := hs_ hb hHeld.2.2.2.2.2.2.2.2.2.1
           have HS10_ := hs_ hb hHeld.2.2.2.2.2.2.2.2.2.2.1
           have HS11_ := hs_ hb hHeld.2.2.2.2.2.2.2.2.2.2.2.1
           have HS12_ := hs_ hb hHeld.2.2.2.2.2.2.2.2.2.2.2.2.1
           have HS13_ := hs_ hb hHeld.2.2.2.2.2.2.2.2.2.2.2.2.2.1
           have HS14_ := hs_ hb hHeld.2.2.2.2.2.2.2.2.2.2.2.2.2.2.1
           have HS15_ := hs_ hb hHeld.2.2.2.2.2.2.2.2.2.2.2.2.2.2.2.1
           have HS16_ := hs_ hb hHeld.2.2.2.2.2.2.2.2.2.2.2.2.2.2.2.2.1
           have HS17_ := hs_ hb hHeld.2.2.2.2.2.2.2.2.2.2.2.2.2.2.2.2.2.1
           have HS18_ := hs_ hb hHeld.2.2.2.2.2.2.2.2.2.2.2.2.2.2.2.2.2.2.1
           have HS19_ := hs_ hb hHeld.2.2.2.2.2.2.2.2.2.2.2.2.2.2.2.2.2.2.2.1
           have HS20_ := hs_ hb hHeld.2.2.2.2.2.2.2.2.2.2.2.2.2.2.2.2.2.2.2.2.1
           have HS21_ := hs_ hb hHeld.2.2.2.2.2.2.2.2.2.2.2.2.2.2.2.2.2.2.2.2.2.1
           have HS22_ := hs_ hb hHeld.2.2.2.2.2.2.2.2.2.2.2.2.2.2.2.2.2.2.2.2.2.2.1
           have HS23_ := hs_ hb hHeld.2.2.2.2.2.2.2.2.2.2.2.2.2.2.2.2.2.2.2.2.2.2.2
           refine ⟨_, rfl, ?_⟩
           have n0_ := Aside0.mk (Kd.R_below (mR HO_0.out) hb)
           have n1_ := Aside0.mk (Kept.below (S := (fun k_ => P0_ k_)) (mK HK.out) hb)
           have n2_ := Aside0.mk (below_step (mB HB.out) hb)
           clear HO_0; clear HK; clear HB
           have HO_0 := n0_
           have HK := n1_
           have HB := n2_
           clear n0_; clear n1_; clear n2_
           (try clear hb); (try clear hb2); (try clear hk); (try clear hi)
           refine hK.out _ _ ⟨HS0_, HS1_, HS2_, HS3_, HS4_, HS5_, HS6_, HS7_, HS8_, HS9_, HS10_, HS11_, HS12_, HS13_, HS14_, HS15_, HS16_, HS17_, HS18_, HS19_, HS20_, HS21_, HS22_, HS23_⟩ (fun hHeld => ?_)
           clear hK; clear K
           refine norm_ (a' := ?_) ?_ ?_
           rotate_left
           ·show Act.put _ (some 101) _ = _
            simp only [Act.put, List.setIfInBounds_toArray, List.set_cons_zero, List.set_cons_succ, i64_w, i32_w]
            rfl
           refine plan_ [(10, 102), (11, 103)] ?_
           iterate 2 (refine planP_ (v := ?_) (a' := ?_) rfl rfl (any_of HT_.out (by kernel_rfl)) (fun _ _ _ h => h) (Or.inl ⟨by rfl, ?_⟩) ?_ ?_; rotate_left; (intro w'; go_simp; with_reducible rfl); rotate_left; (simp only [Act.put, List.setIfInBounds_toArray, List.set_cons_zero, List.set_cons_succ, i64_w, i32_w]; rfl))
           refine planEnd_ ?_
           refine done_ (done_of HT_.out (by kernel_rfl)) ?_
           try go_wp2
           go_roundg k1
           case measure => have := HK1.out; omega
           case rel => exact ⟨(x14_1), (ji37), ez, (by first | rfl | (simp; done) | (simp only [← hji37] <;> (first | rfl | simp)) | (simp [*]; done)), H', ⟨by have := HK1.out; omega⟩, ⟨mR HO_0.out⟩, ⟨mK HK.out⟩, ⟨mB HB.out⟩⟩
          ·as_aux_lemma =>
           rw [if_neg c41] at H
           have c41b0 : decide (t290 < 0) = false := decide_eq_false c41
           clear c41
           have H' := Aside0.mk H
           clear H
           try go_wp2
           have n0_ := Aside0.mk (Kd.R_drew HO_0.out)
           have n1_ := Aside0.mk (Kept.drew HK.out)
           have n2_ := Aside0.mk (below_drew1 HB.out)
           clear HO_0; clear HK; clear HB
           have HO_0 := n0_
           have HK := n1_
           have HB := n2_
           clear n0_; clear n1_; clear n2_
           obtain ⟨Ao46, co46, eo46⟩ := Kd.R_slice HO_0.out
           (first | subst eo46 | (injection eo46 with f1_ f2_ f3_; have f4_ := f1_.symm; have f5_ := f3_.symm; clear f1_ f2_ f3_; subst f4_; subst f5_))
           have p288 : 0 ≤ (a2 : Int) := oda
           have q288 : a2 < (l0.length : Int) := oda
           obtain ⟨ad288, e288, hx288_0, hx288_1, hx288_2, hx288_3, hx288_4, hx288_5, hx288_6, hx288_7, hx288_8, hx288_9, hx288_10, hx288_11⟩ := at_T32 (Kd.R_reads' HO_0.out).2.2 a2 p288 q288
           cases e288
           replace p288 := eq_true p288
           replace q288 := eq_true q288
           have p289 : 0 ≤ ((ji37) : Int) := oda
           have q289 : (ji37) < (l0.length : Int) := oda
           obtain ⟨ad289, e289, hx289_0, hx289_1, hx289_2, hx289_3, hx289_4, hx289_5, hx289_6, hx289_7, hx289_8, hx289_9, hx289_10, hx289_11⟩ := at_T32 (Kd.R_reads' HO_0.out).2.2 (ji37) p289 q289
           obtain rfl : ad288 = ad289 := (by injection e289)
           replace p289 := eq_true p289
           replace q289 := eq_true q289
           refine start_ (n := 12) (S := fun w' => c12 w' (ad288.add ((a2).toNat * 12)) (rd_T32 l0 a2) <| c12e w' (ad288.add (((ji37)).toNat * 12)) (rd_T32 l0 (ji37))) (ds := []) #[false, false, false, false, false, false, false, false, false, false, false, false] (by kernel_rfl) rfl rfl ⟨hx288_0, hx288_1, hx288_2, hx288_3, hx288_4, hx288_5, hx288_6, hx288_7, hx288_8, hx288_9, hx288_10, hx288_11, hx289_0, hx289_1, hx289_2, hx289_3, hx289_4, hx289_5, hx289_6, hx289_7, hx289_8, hx289_9, hx289_10, hx289_11⟩ (fun hHeld => ?_); refine with_tabW slices_symMergeCmpFunc_Job__job_Due_1.tab17 slices_symMergeCmpFunc_Job__job_Due_1.bits17 (fun HT_ HW_ => ?_)
           generalize wr.drew = w45 at HO_0 HK HB hx288_0 hx288_1 hx288_10 hx288_11 hx288_2 hx288_3 hx288_4 hx288_5 hx288_6 hx288_7 hx288_8 hx288_9 hx289_0 hx289_1 hx289_10 hx289_11 hx289_2 hx289_3 hx289_4 hx289_5 hx289_6 hx289_7 hx289_8 hx289_9 hHeld ⊢
           refine plan_ [(0, 92), (1, 93), (2, 94), (3, 95), (5, 97), (6, 98), (7, 99)] ?_
           iterate 7 (refine planP_ (v := ?_) (a' := ?_) rfl rfl (any_of HT_.out (by kernel_rfl)) (fun _ _ _ h => h) (Or.inl ⟨by rfl, ?_⟩) ?_ ?_; rotate_left; (intro w'; go_simp; with_reducible rfl); rotate_left; (simp only [Act.put, List.setIfInBounds_toArray, List.set_cons_zero, List.set_cons_succ, i64_w, i32_w]; rfl))
           refine planEnd_ ?_
           refine plan_ [(4, 96), (8, 100)] ?_
           iterate 2 (refine planT_ (v := ?_) (a' := ?_) rfl rfl (take_ofW HT_.out HW_.out (by kernel_rfl)) (fun _ _ _ h => h) (Or.inl ⟨by rfl, ?_⟩) hHeld ?_ ?_; rotate_left; (rintro w' ⟨s0, s1, s2, s3, s4, s5, s6, s7, s8, s9, s10, s11, s12, s13, s14, s15, s16, s17, s18, s19, s20, s21, s22, s23⟩; go_simp; with_reducible rfl); rotate_left; (simp only [Act.put, List.setIfInBounds_toArray, List.set_cons_zero, List.set_cons_succ, i64_w, i32_w]; rfl))
           refine planEnd_ ?_
           refine one_ (i := 9) (N := some 101) #[true, true, true, true, true, true, true, true, true, true, false, false] rfl rfl (one_of HT_.out (by kernel_rfl)) (by decide) (fun K hK => ?_)
           refine goesV_ Try.func47 (by kernel_rfl) rfl #[.agg (cJ (rd_T32 l0 a2)), .agg (cJ (rd_T32 l0 (ji37)))] (by rfl) rfl rfl (by (try simp only [List.map_toArray, List.map_cons, List.map_nil]); first | done | (simp only [hji37]; rfl) | rfl | (simp only [List.length_drop, List.length_take]; rfl)) rfl ?_
           with_reducible refine (job_Due_1.calls ((rd_T32 l0 a2).f0) ((rd_T32 l0 a2).f1) ((rd_T32 l0 a2).f2) ((rd_T32 l0 a2).f3) ((rd_T32 l0 a2).f4) ((rd_T32 l0 a2).f5) ((rd_T32 l0 a2).f6) ((rd_T32 l0 a2).f7) ((rd_T32 l0 a2).f8) ((rd_T32 l0 a2).f9) ((rd_T32 l0 a2).f10) ((rd_T32 l0 a2).f11) ((rd_T32 l0 (ji37)).f0) ((rd_T32 l0 (ji37)).f1) ((rd_T32 l0 (ji37)).f2) ((rd_T32 l0 (ji37)).f3) ((rd_T32 l0 (ji37)).f4) ((rd_T32 l0 (ji37)).f5) ((rd_T32 l0 (ji37)).f6) ((rd_T32 l0 (ji37)).f7) ((rd_T32 l0 (ji37)).f8) ((rd_T32 l0 (ji37)).f9) ((rd_T32 l0 (ji37)).f10) ((rd_T32 l0 (ji37)).f11) t290 _ A40.out).mono ?_
           rintro e w47 ⟨rfl, hb⟩
           have HS0_ := hs_ hb hHeld.1
           have HS1_ := hs_ hb hHeld.2.1
           have HS2_ := hs_ hb hHeld.2.2.1
           have HS3_ := hs_ hb hHeld.2.2.2.1
           have HS4_ := hs_ hb hHeld.2.2.2.2.1
           have HS5_ := hs_ hb hHeld.2.2.2.2.2.1
           have HS6_ := hs_ hb hHeld.2.2.2.2.2.2.1
           have HS7_ := hs_ hb hHeld.2.2.2.2.2.2.2.1
           have HS8_ := hs_ hb hHeld.2.2.2.2.2.2.2.2.1
           have HS9_ := hs_ hb hHeld.2.2.2.2.2.2.2.2.2.1
           have HS10_ := hs_ hb hHeld.2.2.2.2.2.2.2.2.2.2.1
           have HS11_ := hs_ hb hHeld.2.2.2.2.2.2.2.2.2.2.2.1
           have HS12_ := hs_ hb hHeld.2.2.2.2.2.2.2.2.2.2.2.2.1
           have HS13_ := hs_ hb hHeld.2.2.2.2.2.2.2.2.2.2.2.2.2.1
           have HS14_ := hs_ hb hHeld.2.2.2.2.2.2.2.2.2.2.2.2.2.2.1
           have HS15_ := hs_ hb hHeld.2.2.2.2.2.2.2.2.2.2.2.2.2.2.2.1
           have HS16_ := hs_ hb hHeld.2.2.2.2.2.2.2.2.2.2.2.2.2.2.2.2.1
           have HS17_ := hs_ hb hHeld.2.2.2.2.2.2.2.2.2.2.2.2.2.2.2.2.2.1
           have HS18_ := hs_ hb hHeld.2.2.2.2.2.2.2.2.2.2.2.2.2.2.2.2.2.2.1
           have HS19_ := hs_ hb hHeld.2.2.2.2.2.2.2.2.2.2.2.2.2.2.2.2.2.2.2.1
           have HS20_ := hs_ hb hHeld.2.2.2.2.2.2.2.2.2.2.2.2.2.2.2.2.2.2.2.2.1
           have HS21_ := hs_ hb hHeld.2.2.2.2.2.2.2.2.2.2.2.2.2.2.2.2.2.2.2.2.2.1
           have HS22_ := hs_ hb hHeld.2.2.2.2.2.2.2.2.2.2.2.2.2.2.2.2.2.2.2.2.2.2.1
           have HS23_ := hs_ hb hHeld.2.2.2.2.2.2.2.2.2.2.2.2.2.2.2.2.2.2.2.2.2.2.2
           refine ⟨_, rfl, ?_⟩
           have n0_ := Aside0.mk (Kd.R_below (mR HO_0.out) hb)
           have n1_ := Aside0.mk (Kept.below (S := (fun k_ => P0_ k_)) (mK HK.out) hb)
           have n2_ := Aside0.mk (below_step (mB HB.out) hb)
           clear HO_0; clear HK; clear HB
           have HO_0 := n0_
           have HK := n1_
           have HB := n2_
           clear n0_; clear n1_; clear n2_
           (try clear hb); (try clear hb2); (try clear hk); (try clear hi)
           refine hK.out _ _ ⟨HS0_, HS1_, HS2_, HS3_, HS4_, HS5_, HS6_, HS7_, HS8_, HS9_, HS10_, HS11_, HS12_, HS13_, HS14_, HS15_, HS16_, HS17_, HS18_, HS19_, HS20_, HS21_, HS22_, HS23_⟩ (fun hHeld => ?_)
           clear hK; clear K
           refine norm_ (a' := ?_) ?_ ?_
           rotate_left
           ·show Act.put _ (some 101) _ = _
            simp only [Act.put, List.setIfInBounds_toArray, List.set_cons_zero, List.set_cons_succ, i64_w, i32_w]
            rfl
           refine plan_ [(10, 102), (11, 103)] ?_
           iterate 2 (refine planP_ (v := ?_) (a' := ?_) rfl rfl (any_of HT_.out (by kernel_rfl)) (fun _ _ _ h => h) (Or.inl ⟨by rfl, ?_⟩) ?_ ?_; rotate_left; (intro w'; go_simp; with_reducible rfl); rotate_left; (simp only [Act.put, List.setIfInBounds_toArray, List.set_cons_zero, List.set_cons_succ, i64_w, i32_w]; rfl))
           refine planEnd_ ?_
           refine done_ (done_of HT_.out (by kernel_rfl)) ?_
           try go_wp2
           go_roundg k1
           case measure => have := HK1.out; omega
           case rel => exact ⟨(wrap64 ((ji37) + 1)), (x15_1), (by first | rfl | (simp; done) | (simp only [← hji37] <;> (first | rfl | simp)) | (simp [*]; done)), ez, H', ⟨by have := HK1.out; omega⟩, ⟨mR HO_0.out⟩, ⟨mK HK.out⟩, ⟨mB HB.out⟩⟩
         ·rw [if_neg c39] at H
          exact absurd H (by simp)
        ·rw [if_neg c38] at H
         exact absurd H (by simp)
       ·rw [if_neg c36] at H
        exact absurd H (by simp)
      ·rw [if_neg c35] at H
       exact absurd H (by simp)
     ·rw [if_neg c34] at H
      have c34b0 : decide (x14_1 < x15_1) = false := decide_eq_false c34
      clear c34
      have H' := Aside0.mk H
      clear H
      go_wp2
      go_loopg [17] k1 (fun kq v17 w' => ∃ (x0_2 : List (S32)) (x17_2 : Int), v17 = .int .i64 x17_2 ∧ Aside0 (slices_symMergeCmpFunc_Job__job_Due_1.l3 kq x0_2 x14_1 x17_2 = some r) ∧ Aside0 (kq ≤ k1) ∧ Aside0 (Kd.R k32 32 w' w0.heap.size (fun k_ => (P0_ k_ ∨ w.heap.size ≤ k_)) u9000_ x0_2) ∧ Aside0 (Kept w w' (fun k_ => P0_ k_)) ∧ Aside0 (Below w0.heap.size w0 w'))
      case atStart => exact ⟨(l0), (a2), ez, H', ⟨Nat.le_refl _⟩, ⟨mR HO_0.out⟩, ⟨mK HK.out⟩, ⟨mB HB.out⟩⟩
      case round => as_aux_lemma =>
       clear H'
       (try clear c1); (try clear c2); (try clear p2); (try clear q2); (try clear hx2); (try clear c3); (try clear c4); (try clear c6); (try clear c6b0); (try clear c6b1); (try clear p6); (try clear c7); (try clear c7b0); (try clear c9); (try clear c9b0); (try clear c10); (try clear c10b0); (try clear c11); (try clear c11b0); (try clear c12); (try clear c12b0); (try clear c14); (try clear c14b0); (try clear c21); (try clear c21b0); (try clear c23); (try clear c23b0); (try clear c24); (try clear c24b0); (try clear c25); (try clear c25b0); (try clear c26); (try clear c26b0); (try clear c27); (try clear p27); (try clear q27); (try clear hx27); (try clear hf27); (try clear c28); (try clear p28); (try clear q28); (try clear hx28); (try clear hf28); (try clear c31); (try clear c32); (try clear c33); (try clear c33b0); (try clear c33b1); (try clear c34); (try clear c34b0); (try clear c35); (try clear c35b0); (try clear c36); (try clear c36b0); (try clear c38); (try clear c38b0); (try clear c39); (try clear c39b0); (try clear c41); (try clear c41b0); (try clear c47); (try clear hx27_0 hx27_1 hx27_10 hx27_11 hx27_2 hx27_3 hx27_4 hx27_5 hx27_6 hx27_7 hx27_8 hx27_9); (try clear hx281_0 hx281_1 hx281_10 hx281_11 hx281_2 hx281_3 hx281_4 hx281_5 hx281_6 hx281_7 hx281_8 hx281_9); (try clear hx282_0 hx282_1 hx282_10 hx282_11 hx282_2 hx282_3 hx282_4 hx282_5 hx282_6 hx282_7 hx282_8 hx282_9); (try clear hx284_0 hx284_1 hx284_10 hx284_11 hx284_2 hx284_3 hx284_4 hx284_5 hx284_6 hx284_7 hx284_8 hx284_9); (try clear hx285_0 hx285_1 hx285_10 hx285_11 hx285_2 hx285_3 hx285_4 hx285_5 hx285_6 hx285_7 hx285_8 hx285_9); (try clear hx288_0 hx288_1 hx288_10 hx288_11 hx288_2 hx288_3 hx288_4 hx288_5 hx288_6 hx288_7 hx288_8 hx288_9); (try clear hx289_0 hx289_1 hx289_10 hx289_11 hx289_2 hx289_3 hx289_4 hx289_5 hx289_6 hx289_7 hx289_8 hx289_9); (try clear hx28_0 hx28_1 hx28_10 hx28_11 hx28_2 hx28_3 hx28_4 hx28_5 hx28_6 hx28_7 hx28_8 hx28_9); (try clear p2); (try clear p27); (try clear p28); (try clear p281); (try clear p282); (try clear p284); (try clear p285); (try clear p288); (try clear p289); (try clear p6); (try clear q2); (try clear q27); (try clear q28); (try clear q281); (try clear q282); (try clear q284); (try clear q285); (try clear q288); (try clear q289)
       obtain ⟨x0_2, x17_2, rfl, HA, HK2, HO_0, HK, HB⟩ := hrel
       cases gk with
       | zero => exact absurd HA.out (by simp [slices_symMergeCmpFunc_Job__job_Due_1.l3])
       | succ k2 =>
        have H := HA.out
        clear HA
        simp only [slices_symMergeCmpFunc_Job__job_Due_1.l3] at H
        by_cases c48 : x17_2 > x14_1
        ·rw [if_pos c48] at H
         have c48b0 : decide (x14_1 < x17_2) = true := decide_eq_true c48
         clear c48
         obtain ⟨ji49, hji49⟩ : ∃ j_ : Int, (wrap64 (x17_2 - 1)) = j_ := ⟨_, rfl⟩
         replace H : (if 0 ≤ (ji49) then (if (ji49) < (x0_2.length : Int) then (if 0 ≤ x17_2 then (if x17_2 < (x0_2.length : Int) then (slices_symMergeCmpFunc_Job__job_Due_1.l3 k2 ((x0_2.set (x17_2 : Int).toNat (⟨(rd_T32 x0_2 (ji49)).f0, (rd_T32 x0_2 (ji49)).f1, (rd_T32 x0_2 (ji49)).f2, (rd_T32 x0_2 (ji49)).f3, (rd_T32 x0_2 (ji49)).f4, (rd_T32 x0_2 (ji49)).f5, (rd_T32 x0_2 (ji49)).f6, (rd_T32 x0_2 (ji49)).f7, (rd_T32 x0_2 (ji49)).f8, (rd_T32 x0_2 (ji49)).f9, (rd_T32 x0_2 (ji49)).f10, (rd_T32 x0_2 (ji49)).f11⟩ : S32)).set ((ji49) : Int).toNat (⟨(rd_T32 x0_2 x17_2).f0, (rd_T32 x0_2 x17_2).f1, (rd_T32 x0_2 x17_2).f2, (rd_T32 x0_2 x17_2).f3, (rd_T32 x0_2 x17_2).f4, (rd_T32 x0_2 x17_2).f5, (rd_T32 x0_2 x17_2).f6, (rd_T32 x0_2 x17_2).f7, (rd_T32 x0_2 x17_2).f8, (rd_T32 x0_2 x17_2).f9, (rd_T32 x0_2 x17_2).f10, (rd_T32 x0_2 x17_2).f11⟩ : S32)) x14_1 ji49) else (none)) else (none)) else (none)) else (none)) = some r := by first | (rw [hji49] at H; exact H) | (simp only [hji49] at H ⊢; exact H)
         have hji49w : (IntKind.i64.wrap (x17_2 - 1)) = ji49 := (i64_w _).trans hji49
         by_cases c50 : 0 ≤ (ji49)
         ·rw [if_pos c50] at H
          have c50b0 : decide (0 ≤ (ji49)) = true := decide_eq_true c50
          clear c50
          by_cases c51 : (ji49) < (x0_2.length : Int)
          ·rw [if_pos c51] at H
           have c51b0 : decide ((ji49) < (x0_2.length : Int)) = true := decide_eq_true c51
           clear c51
           by_cases c52 : 0 ≤ x17_2
           ·rw [if_pos c52] at H
            have c52b0 : decide (0 ≤ x17_2) = true := decide_eq_true c52
            clear c52
            by_cases c53 : x17_2 < (x0_2.length : Int)
            ·rw [if_pos c53] at H
             have c53b0 : decide (x17_2 < (x0_2.length : Int)) = true := decide_eq_true c53
             clear c53
             obtain ⟨y293, hy293⟩ : ∃ y_ : List (S32), y_ = (x0_2.set (x17_2 : Int).toNat (⟨(rd_T32 x0_2 (ji49)).f0, (rd_T32 x0_2 (ji49)).f1, (rd_T32 x0_2 (ji49)).f2, (rd_T32 x0_2 (ji49)).f3, (rd_T32 x0_2 (ji49)).f4, (rd_T32 x0_2 (ji49)).f5, (rd_T32 x0_2 (ji49)).f6, (rd_T32 x0_2 (ji49)).f7, (rd_T32 x0_2 (ji49)).f8, (rd_T32 x0_2 (ji49)).f9, (rd_T32 x0_2 (ji49)).f10, (rd_T32 x0_2 (ji49)).f11⟩ : S32)) := ⟨_, rfl⟩
             replace H : (slices_symMergeCmpFunc_Job__job_Due_1.l3 k2 (y293.set ((ji49) : Int).toNat (⟨(rd_T32 x0_2 x17_2).f0, (rd_T32 x0_2 x17_2).f1, (rd_T32 x0_2 x17_2).f2, (rd_T32 x0_2 x17_2).f3, (rd_T32 x0_2 x17_2).f4, (rd_T32 x0_2 x17_2).f5, (rd_T32 x0_2 x17_2).f6, (rd_T32 x0_2 x17_2).f7, (rd_T32 x0_2 x17_2).f8, (rd_T32 x0_2 x17_2).f9, (rd_T32 x0_2 x17_2).f10, (rd_T32 x0_2 x17_2).f11⟩ : S32)) x14_1 ji49) = some r := mH hy293 H
             have Ny293 := Aside0.mk hy293
             clear hy293
             obtain ⟨y294, hy294⟩ : ∃ y_ : List (S32), y_ = (y293.set ((ji49) : Int).toNat (⟨(rd_T32 x0_2 x17_2).f0, (rd_T32 x0_2 x17_2).f1, (rd_T32 x0_2 x17_2).f2, (rd_T32 x0_2 x17_2).f3, (rd_T32 x0_2 x17_2).f4, (rd_T32 x0_2 x17_2).f5, (rd_T32 x0_2 x17_2).f6, (rd_T32 x0_2 x17_2).f7, (rd_T32 x0_2 x17_2).f8, (rd_T32 x0_2 x17_2).f9, (rd_T32 x0_2 x17_2).f10, (rd_T32 x0_2 x17_2).f11⟩ : S32)) := ⟨_, rfl⟩
             replace H : (slices_symMergeCmpFunc_Job__job_Due_1.l3 k2 y294 x14_1 ji49) = some r := mH hy294 H
             have Ny294 := Aside0.mk hy294
             clear hy294
             have H' := Aside0.mk H
             clear H
             try go_wp2
             have n0_ := Aside0.mk (Kd.R_drew HO_0.out)
             have n1_ := Aside0.mk (Kept.drew HK.out)
             have n2_ := Aside0.mk (below_drew1 HB.out)
             clear HO_0; clear HK; clear HB
             have HO_0 := n0_
             have HK := n1_
             have HB := n2_
             clear n0_; clear n1_; clear n2_
             obtain ⟨Ao57, co57, eo57⟩ := Kd.R_slice HO_0.out
             (first | subst eo57 | (injection eo57 with f1_ f2_ f3_; have f4_ := f1_.symm; have f5_ := f3_.symm; clear f1_ f2_ f3_; subst f4_; subst f5_))
             have p291 : 0 ≤ ((ji49) : Int) := oda
             have q291 : (ji49) < (x0_2.length : Int) := oda
             obtain ⟨ad291, e291, hx291_0, hx291_1, hx291_2, hx291_3, hx291_4, hx291_5, hx291_6, hx291_7, hx291_8, hx291_9, hx291_10, hx291_11⟩ := at_T32 (Kd.R_reads' HO_0.out).2.2 (ji49) p291 q291
             cases e291
             replace p291 := eq_true p291
             replace q291 := eq_true q291
             have p292 : 0 ≤ (x17_2 : Int) := oda
             have q292 : x17_2 < (x0_2.length : Int) := oda
             obtain ⟨ad292, e292, hx292_0, hx292_1, hx292_2, hx292_3, hx292_4, hx292_5, hx292_6, hx292_7, hx292_8, hx292_9, hx292_10, hx292_11⟩ := at_T32 (Kd.R_reads' HO_0.out).2.2 x17_2 p292 q292
             obtain rfl : ad291 = ad292 := (by injection e292)
             replace p292 := eq_true p292
             replace q292 := eq_true q292
             have p54 : 0 ≤ (x17_2 : Int) := oda
             have q54 : (x17_2 : Int) < ((x0_2.length : Int) : Int) := oda
             obtain ⟨go54, co54, eo54, gb54, gl54, cl54, HG54⟩ := Kd.R_form HO_0.out (by omega)
             (first | cases eo54 | (injection eo54 with ea_ en_ ec_; (first | subst ea_ | (injection ea_ with ea_; subst ea_)); subst ec_; clear en_))
             have GB54 := Aside0.mk gb54
             have GG54 := Aside0.mk HG54
             clear gb54; clear gl54; clear HG54
             have HMgo54 := Aside0.mk (show (P0_ go54 ∨ w.heap.size ≤ go54) from (HO_0.out.1 _ rfl))
             (first | simp only [add_plain] at hx291_0 | skip)
             (first | simp only [add_plain] at hx291_1 | skip)
             (first | simp only [add_plain] at hx291_2 | skip)
             (first | simp only [add_plain] at hx291_3 | skip)
             (first | simp only [add_plain] at hx291_4 | skip)
             (first | simp only [add_plain] at hx291_5 | skip)
             (first | simp only [add_plain] at hx291_6 | skip)
             (first | simp only [add_plain] at hx291_7 | skip)
             (first | simp only [add_plain] at hx291_8 | skip)
             (first | simp only [add_plain] at hx291_9 | skip)
             (first | simp only [add_plain] at hx291_10 | skip)
             (first | simp only [add_plain] at hx291_11 | skip)
             (first | simp only [add_plain] at hx292_0 | skip)
             (first | simp only [add_plain] at hx292_1 | skip)
             (first | simp only [add_plain] at hx292_2 | skip)
             (first | simp only [add_plain] at hx292_3 | skip)
             (first | simp only [add_plain] at hx292_4 | skip)
             (first | simp only [add_plain] at hx292_5 | skip)
             (first | simp only [add_plain] at hx292_6 | skip)
             (first | simp only [add_plain] at hx292_7 | skip)
             (first | simp only [add_plain] at hx292_8 | skip)
             (first | simp only [add_plain] at hx292_9 | skip)
             (first | simp only [add_plain] at hx292_10 | skip)
             (first | simp only [add_plain] at hx292_11 | skip)
             refine start_ (n := 18) (S := fun w' => c12 w' ⟨go54, (((ji49)).toNat * 12), none⟩ (rd_T32 x0_2 (ji49)) <| c12e w' ⟨go54, ((x17_2).toNat * 12), none⟩ (rd_T32 x0_2 x17_2)) (ds := [15, 17]) #[false, false, false, false, false, false, false, false, false, false, false, false, false, false, false, false, false, false] (by kernel_rfl) rfl rfl ⟨hx291_0, hx291_1, hx291_2, hx291_3, hx291_4, hx291_5, hx291_6, hx291_7, hx291_8, hx291_9, hx291_10, hx291_11, hx292_0, hx292_1, hx292_2, hx292_3, hx292_4, hx292_5, hx292_6, hx292_7, hx292_8, hx292_9, hx292_10, hx292_11⟩ (fun hHeld => ?_); refine with_tabW slices_symMergeCmpFunc_Job__job_Due_1.tab23 slices_symMergeCmpFunc_Job__job_Due_1.bits23 (fun HT_ HW_ => ?_)
             generalize wr.drew = w56 at HO_0 HK HB GG54 hx291_0 hx291_1 hx291_10 hx291_11 hx291_2 hx291_3 hx291_4 hx291_5 hx291_6 hx291_7 hx291_8 hx291_9 hx292_0 hx292_1 hx292_10 hx292_11 hx292_2 hx292_3 hx292_4 hx292_5 hx292_6 hx292_7 hx292_8 hx292_9 hHeld ⊢
             refine plan_ [(0, 113), (1, 114), (2, 115), (3, 116), (4, 117), (5, 118), (6, 119), (7, 120), (8, 121), (10, 123), (11, 124), (12, 125)] ?_
             iterate 12 (refine planP_ (v := ?_) (a' := ?_) rfl rfl (any_of HT_.out (by kernel_rfl)) (fun _ _ _ h => h) (Or.inl ⟨by rfl, ?_⟩) ?_ ?_; rotate_left; (intro w'; go_simp; with_reducible rfl); rotate_left; (simp only [Act.put, List.setIfInBounds_toArray, List.set_cons_zero, List.set_cons_succ, i64_w, i32_w]; rfl))
             refine planEnd_ ?_
             refine plan_ [(9, 122), (13, 126)] ?_
             iterate 2 (refine planT_ (v := ?_) (a' := ?_) rfl rfl (take_ofW HT_.out HW_.out (by kernel_rfl)) (fun _ _ _ h => h) (Or.inl ⟨by rfl, ?_⟩) hHeld ?_ ?_; rotate_left; (rintro w' ⟨s0, s1, s2, s3, s4, s5, s6, s7, s8, s9, s10, s11, s12, s13, s14, s15, s16, s17, s18, s19, s20, s21, s22, s23⟩; go_simp; with_reducible rfl); rotate_left; (simp only [Act.put, List.setIfInBounds_toArray, List.set_cons_zero, List.set_cons_succ, i64_w, i32_w]; rfl))
             refine planEnd_ ?_
             refine plan_ [(14, 127)] ?_
             refine planP_ (v := ?_) (a' := ?_) rfl rfl (any_of HT_.out (by kernel_rfl)) (fun _ _ _ h => h) (Or.inl ⟨by rfl, ?_⟩) ?_ ?_; rotate_left; (intro w'; go_simp; with_reducible rfl); rotate_left; (simp only [Act.put, List.setIfInBounds_toArray, List.set_cons_zero, List.set_cons_succ, i64_w, i32_w]; rfl)
             refine planEnd_ ?_
             refine last_ (i := 15) (N := none) #[true, true, true, true, true, true, true, true, true, true, true, true, true, true, true, true, false, false] rfl rfl (one_of HT_.out (by kernel_rfl)) (by decide) (fun K hK => ?_)
             refine storeW_ k32 (w0 := w0) (g := go54) (x17_2) z32 (⟨(rd_T32 x0_2 (ji49)).f0, (rd_T32 x0_2 (ji49)).f1, (rd_T32 x0_2 (ji49)).f2, (rd_T32 x0_2 (ji49)).f3, (rd_T32 x0_2 (ji49)).f4, (rd_T32 x0_2 (ji49)).f5, (rd_T32 x0_2 (ji49)).f6, (rd_T32 x0_2 (ji49)).f7, (rd_T32 x0_2 (ji49)).f8, (rd_T32 x0_2 (ji49)).f9, (rd_T32 x0_2 (ji49)).f10, (rd_T32 x0_2 (ji49)).f11⟩ : S32) [.int .i64 ((rd_T32 x0_2 (ji49)).f0), .int .i64 ((rd_T32 x0_2 (ji49)).f1), .int .i64 ((rd_T32 x0_2 (ji49)).f2), .int .i64 ((rd_T32 x0_2 (ji49)).f3), .int .i64 ((rd_T32 x0_2 (ji49)).f4), .int .i64 ((rd_T32 x0_2 (ji49)).f5), .int .i64 ((rd_T32 x0_2 (ji49)).f6), .int .i64 ((rd_T32 x0_2 (ji49)).f7), .int .i64 ((rd_T32 x0_2 (ji49)).f8), .int .i64 ((rd_T32 x0_2 (ji49)).f9), .int .i64 ((rd_T32 x0_2 (ji49)).f10), .slice ((rd_T32 x0_2 (ji49)).f11).A ((rd_T32 x0_2 (ji49)).f11).n ((rd_T32 x0_2 (ji49)).f11).c] (by rfl) rfl rfl (by first | rfl | (go_simp; done) | (go_simp; rfl)) rfl (by first | rfl | (go_simp; done) | (go_simp; rfl)) rfl (by kernel_rfl) rfl one12 HO_0.out (of_eq_true p292) (of_eq_true q292) (k32_mkM _ _ _ (⟨(rd_T32 x0_2 (ji49)).f0, (rd_T32 x0_2 (ji49)).f1, (rd_T32 x0_2 (ji49)).f2, (rd_T32 x0_2 (ji49)).f3, (rd_T32 x0_2 (ji49)).f4, (rd_T32 x0_2 (ji49)).f5, (rd_T32 x0_2 (ji49)).f6, (rd_T32 x0_2 (ji49)).f7, (rd_T32 x0_2 (ji49)).f8, (rd_T32 x0_2 (ji49)).f9, (rd_T32 x0_2 (ji49)).f10, (rd_T32 x0_2 (ji49)).f11⟩ : S32)) (fun _ hk => hk) HB.out ?_
             intro wa hoa hba hga
             rw [← Ny293.out] at hoa
             have n0_ := Aside0.mk hoa
             have n1_ := Aside0.mk hba
             have n2_ := Aside0.mk (Kept.of_grown hga HK.out (fun k e_ => by injection e_ with e_; subst e_; exact HMgo54.out))
             clear HO_0; clear HB; clear HK; clear hoa; clear hba; clear hga
             have HO_0 := n0_
             have HB := n1_
             have HK := n2_
             clear n0_; clear n1_; clear n2_
             refine hK.out _ _ ?_
             clear hK; clear K
             refine plan_ [(16, 128)] ?_
             refine planP_ (v := ?_) (a' := ?_) rfl rfl (any_of HT_.out (by kernel_rfl)) (fun _ _ _ h => h) (Or.inl ⟨by rfl, ?_⟩) ?_ ?_; rotate_left; (intro w'; go_simp; with_reducible rfl); rotate_left; (simp only [Act.put, List.setIfInBounds_toArray, List.set_cons_zero, List.set_cons_succ, i64_w, i32_w]; rfl)
             refine planEnd_ ?_
             refine last_ (i := 17) (N := none) #[true, true, true, true, true, true, true, true, true, true, true, true, true, true, true, true, true, true] rfl rfl (one_of HT_.out (by kernel_rfl)) (by decide) (fun K hK => ?_)
             refine storeW_ k32 (w0 := w0) (g := go54) (ji49) z32 (⟨(rd_T32 x0_2 (x17_2)).f0, (rd_T32 x0_2 (x17_2)).f1, (rd_T32 x0_2 (x17_2)).f2, (rd_T32 x0_2 (x17_2)).f3, (rd_T32 x0_2 (x17_2)).f4, (rd_T32 x0_2 (x17_2)).f5, (rd_T32 x0_2 (x17_2)).f6, (rd_T32 x0_2 (x17_2)).f7, (rd_T32 x0_2 (x17_2)).f8, (rd_T32 x0_2 (x17_2)).f9, (rd_T32 x0_2 (x17_2)).f10, (rd_T32 x0_2 (x17_2)).f11⟩ : S32) [.int .i64 ((rd_T32 x0_2 (x17_2)).f0), .int .i64 ((rd_T32 x0_2 (x17_2)).f1), .int .i64 ((rd_T32 x0_2 (x17_2)).f2), .int .i64 ((rd_T32 x0_2 (x17_2)).f3), .int .i64 ((rd_T32 x0_2 (x17_2)).f4), .int .i64 ((rd_T32 x0_2 (x17_2)).f5), .int .i64 ((rd_T32 x0_2 (x17_2)).f6), .int .i64 ((rd_T32 x0_2 (x17_2)).f7), .int .i64 ((rd_T32 x0_2 (x17_2)).f8), .int .i64 ((rd_T32 x0_2 (x17_2)).f9), .int .i64 ((rd_T32 x0_2 (x17_2)).f10), .slice ((rd_T32 x0_2 (x17_2)).f11).A ((rd_T32 x0_2 (x17_2)).f11).n ((rd_T32 x0_2 (x17_2)).f11).c] (by rfl) rfl rfl (by first | rfl | (go_simp; done) | (go_simp; rfl)) rfl (by first | rfl | (go_simp; done) | (go_simp; rfl)) rfl (by kernel_rfl) rfl one12 HO_0.out (of_eq_true p291) (of_eq_true q291) (k32_mkM _ _ _ (⟨(rd_T32 x0_2 (x17_2)).f0, (rd_T32 x0_2 (x17_2)).f1, (rd_T32 x0_2 (x17_2)).f2, (rd_T32 x0_2 (x17_2)).f3, (rd_T32 x0_2 (x17_2)).f4, (rd_T32 x0_2 (x17_2)).f5, (rd_T32 x0_2 (x17_2)).f6, (rd_T32 x0_2 (x17_2)).f7, (rd_T32 x0_2 (x17_2)).f8, (rd_T32 x0_2 (x17_2)).f9, (rd_T32 x0_2 (x17_2)).f10, (rd_T32 x0_2 (x17_2)).f11⟩ : S32)) (fun _ hk => hk) HB.out ?_
             intro wb hob hbb hgb
             rw [← Ny294.out] at hob
             have n0_ := Aside0.mk hob
             have n1_ := Aside0.mk hbb
             have n2_ := Aside0.mk (Kept.of_grown hgb HK.out (fun k e_ => by injection e_ with e_; subst e_; exact HMgo54.out))
             clear HO_0; clear HB; clear HK; clear hob; clear hbb; clear hgb
             have HO_0 := n0_
             have HB := n1_
             have HK := n2_
             clear n0_; clear n1_; clear n2_
             refine hK.out _ _ ?_
             clear hK; clear K
             refine done_ (done_of HT_.out (by kernel_rfl)) ?_
             try go_wp2
             go_roundg k2
             case measure => have := HK1.out; have := HK2.out; omega
             case rel => exact ⟨(y294), (ji49), (by first | rfl | (simp; done) | (simp only [← hji49] <;> (first | rfl | simp)) | (simp [*]; done)), H', ⟨by have := HK1.out; have := HK2.out; omega⟩, ⟨mR HO_0.out⟩, ⟨by repeat (first | (with_reducible first | exact HK.out | apply Kept.alloc | apply Kept.drewN | apply Kept.drew | refine Kept.setCell ?_ HMgo54.out _ | refine Kept.setCell ?_ HMgo54.out _ | refine Kept.setCell ?_ HMgo54.out _ | refine Kept.setCell ?_ HMgo54.out _ | refine Kept.setCell ?_ HMgo54.out _ | refine Kept.setCell ?_ HMgo54.out _ | refine Kept.setCell ?_ HMgo54.out _ | refine Kept.setCell ?_ HMgo54.out _ | refine Kept.setCell ?_ HMgo54.out _ | refine Kept.setCell ?_ HMgo54.out _ | refine Kept.setCell ?_ HMgo54.out _ | refine Kept.setCell ?_ HMgo54.out _ | refine Kept.setCell ?_ HMgo54.out _ | refine Kept.setCell ?_ HMgo54.out _ | refine Kept.setCell ?_ HMgo54.out _ | refine Kept.setCell ?_ HMgo54.out _ | refine Kept.setCell ?_ HMgo54.out _ | refine Kept.setCell ?_ HMgo54.out _ | refine Kept.setCell ?_ HMgo54.out _ | refine Kept.setCell ?_ HMgo54.out _ | refine Kept.setCell ?_ HMgo54.out _ | refine Kept.setCell ?_ HMgo54.out _ | refine Kept.setCell ?_ HMgo54.out _ | refine Kept.setCell ?_ HMgo54.out _) | exact HK.out)⟩, ⟨mBs HB.out⟩⟩
            ·rw [if_neg c53] at H
             exact absurd H (by simp)
           ·rw [if_neg c52] at H
            exact absurd H (by simp)
          ·rw [if_neg c51] at H
           exact absurd H (by simp)
         ·rw [if_neg c50] at H
          exact absurd H (by simp)
        ·rw [if_neg c48] at H
         have c48b0 : decide (x14_1 < x17_2) = false := decide_eq_false c48
         clear c48
         obtain rfl := Option.some.inj H
         go_wp2
         first | go_end0 | ((try simp only [Exit.inBlock, Exit.then]); refine bodyPost_ret (results_none rfl _ _ _) rfl ?_)
         exact ⟨by first | rfl | (simp [errW_none, errW_some] <;> rfl) | (simp [*, errW_none, errW_some] <;> rfl), mR HO_0.out, by repeat (first | (with_reducible first | exact HB.out | apply below_alloc | apply pw_below_drewN | apply below_drew1) | exact HB.out), by repeat (first | (with_reducible first | exact HK.out | apply Kept.alloc | apply Kept.drewN | apply Kept.drew) | exact HK.out)⟩
  ·rw [if_neg c33] at H
   have c33b0 : ((wrap64 (a3 - a2)) == 1) = false := beq_eq_false_iff_ne.mpr c33
   have c33b1 : ((wrap64 (a3 - a2)) != 1) = true := bne_iff_ne.mpr c33
   have HC60 := Aside0.mk H
   clear H
   go_enter Try.func68, Try.ntmps68
   go_upto_if 140 with (fail)
   go_cut [18, 19, 20, 21] (fun v18 v19 v20 v21 wc => ∃ (kq : Nat) (x18_59 : Int) (x19_59 : Int) (x20_59 : Int) (x21_59 : Int), v18 = .int .i64 x18_59 ∧ v19 = .int .i64 x19_59 ∧ v20 = .int .i64 x20_59 ∧ v21 = .int .i64 x21_59 ∧ Aside0 (slices_symMergeCmpFunc_Job__job_Due_1.j4 kq l0 a1 a2 a3 x18_59 x19_59 x20_59 x21_59 = some r) ∧ Aside0 (kq ≤ k) ∧ Aside0 (Kd.R k32 32 wc w0.heap.size (fun k_ => (P0_ k_ ∨ w.heap.size ≤ k_)) u9000_ l0) ∧ Aside0 (Kept w wc (fun k_ => P0_ k_)) ∧ Aside0 (Below w0.heap.size w0 wc))
   case first =>
    have H := HC60.out
    clear HC60
    by_cases c61 : a2 > (wrap64 ((IntKind.u64.wrap (wrap64 (a1 + a3))) / 2))
    ·rw [if_pos c61] at H
     have c61b0 : decide ((wrap64 ((IntKind.u64.wrap (wrap64 (a1 + a3))) / 2)) < a2) = true := decide_eq_true c61
     clear c61
     (first | rw [c61b0] | (simp only [i64_w, i32_w]; rw [c61b0]) | skip)
     have H' := Aside0.mk H
     clear H
     go_wp2
     go_meet
     case rel => exact ⟨_, (wrap64 ((IntKind.u64.wrap (wrap64 (a1 + a3))) / 2)), (wrap64 ((wrap64 ((IntKind.u64.wrap (wrap64 (a1 + a3))) / 2)) + a2)), (wrap64 ((wrap64 ((wrap64 ((IntKind.u64.wrap (wrap64 (a1 + a3))) / 2)) + a2)) - a3)), (wrap64 ((IntKind.u64.wrap (wrap64 (a1 + a3))) / 2)), (by first | rfl | (simp; done) | (simp [*, i64_w]; done)), (by first | rfl | (simp; done) | (simp [*, i64_w]; done)), ez, ez, H', ⟨by first | omega | exact Nat.le_refl _⟩, ⟨mR HO0.out⟩, ⟨mK HK.out⟩, ⟨mB HB.out⟩⟩
    ·rw [if_neg c61] at H
     have c61b0 : decide ((wrap64 ((IntKind.u64.wrap (wrap64 (a1 + a3))) / 2)) < a2) = false := decide_eq_false c61
     clear c61
     (first | rw [c61b0] | (simp only [i64_w, i32_w]; rw [c61b0]) | skip)
     have H' := Aside0.mk H
     clear H
     go_wp2
     go_meet
     case rel => exact ⟨_, (wrap64 ((IntKind.u64.wrap (wrap64 (a1 + a3))) / 2)), (wrap64 ((wrap64 ((IntKind.u64.wrap (wrap64 (a1 + a3))) / 2)) + a2)), (a1), (a2), (by first | rfl | (simp; done) | (simp [*, i64_w]; done)), (by first | rfl | (simp; done) | (simp [*, i64_w]; done)), ez, ez, H', ⟨by first | omega | exact Nat.le_refl _⟩, ⟨mR HO0.out⟩, ⟨mK HK.out⟩, ⟨mB HB.out⟩⟩
   case rest => as_aux_lemma =>
    clear HC60
    (try clear c1); (try clear c2); (try clear p2); (try clear q2); (try clear hx2); (try clear c3); (try clear c4); (try clear c5); (try clear p5); (try clear q5); (try clear hx5); (try clear hf5); (try clear c6); (try clear c6b0); (try clear c6b1); (try clear p6); (try clear c7); (try clear c7b0); (try clear c9); (try clear c9b0); (try clear c10); (try clear c10b0); (try clear c11); (try clear c11b0); (try clear c12); (try clear c12b0); (try clear c14); (try clear c14b0); (try clear c21); (try clear c21b0); (try clear c23); (try clear c23b0); (try clear c24); (try clear c24b0); (try clear c25); (try clear c25b0); (try clear c26); (try clear c26b0); (try clear c27); (try clear p27); (try clear q27); (try clear hx27); (try clear hf27); (try clear c28); (try clear p28); (try clear q28); (try clear hx28); (try clear hf28); (try clear p29); (try clear q29); (try clear hx29); (try clear c31); (try clear c32); (try clear c33); (try clear c33b0); (try clear c33b1); (try clear c34); (try clear c34b0); (try clear c35); (try clear c35b0); (try clear c36); (try clear c36b0); (try clear c38); (try clear c38b0); (try clear c39); (try clear c39b0); (try clear c41); (try clear c41b0); (try clear c47); (try clear c48); (try clear c48b0); (try clear c50); (try clear c50b0); (try clear c51); (try clear c51b0); (try clear c52); (try clear c52b0); (try clear c53); (try clear c53b0); (try clear c54); (try clear p54); (try clear q54); (try clear hx54); (try clear hf54); (try clear c55); (try clear p55); (try clear q55); (try clear hx55); (try clear hf55); (try clear c58); (try clear c59); (try clear c61); (try clear c61b0); (try clear hx27_0 hx27_1 hx27_10 hx27_11 hx27_2 hx27_3 hx27_4 hx27_5 hx27_6 hx27_7 hx27_8 hx27_9); (try clear hx281_0 hx281_1 hx281_10 hx281_11 hx281_2 hx281_3 hx281_4 hx281_5 hx281_6 hx281_7 hx281_8 hx281_9); (try clear hx282_0 hx282_1 hx282_10 hx282_11 hx282_2 hx282_3 hx282_4 hx282_5 hx282_6 hx282_7 hx282_8 hx282_9); (try clear hx284_0 hx284_1 hx284_10 hx284_11 hx284_2 hx284_3 hx284_4 hx284_5 hx284_6 hx284_7 hx284_8 hx284_9); (try clear hx285_0 hx285_1 hx285_10 hx285_11 hx285_2 hx285_3 hx285_4 hx285_5 hx285_6 hx285_7 hx285_8 hx285_9); (try clear hx288_0 hx288_1 hx288_10 hx288_11 hx288_2 hx288_3 hx288_4 hx288_5 hx288_6 hx288_7 hx288_8 hx288_9); (try clear hx289_0 hx289_1 hx289_10 hx289_11 hx289_2 hx289_3 hx289_4 hx289_5 hx289_6 hx289_7 hx289_8 hx289_9); (try clear hx28_0 hx28_1 hx28_10 hx28_11 hx28_2 hx28_3 hx28_4 hx28_5 hx28_6 hx28_7 hx28_8 hx28_9); (try clear hx291_0 hx291_1 hx291_10 hx291_11 hx291_2 hx291_3 hx291_4 hx291_5 hx291_6 hx291_7 hx291_8 hx291_9); (try clear hx292_0 hx292_1 hx292_10 hx292_11 hx292_2 hx292_3 hx292_4 hx292_5 hx292_6 hx292_7 hx292_8 hx292_9); (try clear hx54_0 hx54_1 hx54_10 hx54_11 hx54_2 hx54_3 hx54_4 hx54_5 hx54_6 hx54_7 hx54_8 hx54_9); (try clear hx55_0 hx55_1 hx55_10 hx55_11 hx55_2 hx55_3 hx55_4 hx55_5 hx55_6 hx55_7 hx55_8 hx55_9); (try clear p2); (try clear p27); (try clear p28); (try clear p281); (try clear p282); (try clear p284); (try clear p285); (try clear p288); (try clear p289); (try clear p291); (try clear p292); (try clear p54); (try clear p55); (try clear p6); (try clear q2); (try clear q27); (try clear q28); (try clear q281); (try clear q282); (try clear q284); (try clear q285); (try clear q288); (try clear q289); (try clear q291); (try clear q292); (try clear q54); (try clear q55)
    obtain ⟨kq, x18_59, x19_59, x20_59, x21_59, rfl, rfl, rfl, rfl, HA, HJ59, HO_0, HK, HB⟩ := hcut
    cases kq with
    | zero => exact absurd HA.out (by simp [slices_symMergeCmpFunc_Job__job_Due_1.j4])
    | succ kj59 =>
     have H := HA.out
     clear HA
     simp only [slices_symMergeCmpFunc_Job__job_Due_1.j4] at H
     have H' := Aside0.mk H
     clear H
     go_wp2
     go_loopg [20, 21] kj59 (fun kq v20 v21 w' => ∃ (x20_2 : Int) (x21_2 : Int), v20 = .int .i64 x20_2 ∧ v21 = .int .i64 x21_2 ∧ Aside0 (slices_symMergeCmpFunc_Job__job_Due_1.l4 kq l0 a1 a2 a3 x18_59 x19_59 x20_2 x21_2 (wrap64 (x19_59 - 1)) = some r) ∧ Aside0 (kq ≤ kj59) ∧ Aside0 (Kd.R k32 32 w' w0.heap.size (fun k_ => (P0_ k_ ∨ w.heap.size ≤ k_)) u9000_ l0) ∧ Aside0 (Kept w w' (fun k_ => P0_ k_)) ∧ Aside0 (Below w0.heap.size w0 w'))
     case atStart => exact ⟨(x20_59), (x21_59), ez, ez, H', ⟨Nat.le_refl _⟩, ⟨mR HO_0.out⟩, ⟨mK HK.out⟩, ⟨mB HB.out⟩⟩
     case round => as_aux_lemma =>
      clear H'
      (try clear c1); (try clear c2); (try clear p2); (try clear q2); (try clear hx2); (try clear c3); (try clear c4); (try clear c5); (try clear p5); (try clear q5); (try clear hx5); (try clear hf5); (try clear c6); (try clear c6b0); (try clear c6b1); (try clear p6); (try clear c7); (try clear c7b0); (try clear c9); (try clear c9b0); (try clear c10); (try clear c10b0); (try clear c11); (try clear c11b0); (try clear c12); (try clear c12b0); (try clear c14); (try clear c14b0); (try clear c21); (try clear c21b0); (try clear c23); (try clear c23b0); (try clear c24); (try clear c24b0); (try clear c25); (try clear c25b0); (try clear c26); (try clear c26b0); (try clear c27); (try clear p27); (try clear q27); (try clear hx27); (try clear hf27); (try clear c28); (try clear p28); (try clear q28); (try clear hx28); (try clear hf28); (try clear p29); (try clear q29); (try clear hx29); (try clear c31); (try clear c32); (try clear c33); (try clear c33b0); (try clear c33b1); (try clear c34); (try clear c34b0); (try clear c35); (try clear c35b0); (try clear c36); (try clear c36b0); (try clear c38); (try clear c38b0); (try clear c39); (try clear c39b0); (try clear c41); (try clear c41b0); (try clear c47); (try clear c48); (try clear c48b0); (try clear c50); (try clear c50b0); (try clear c51); (try clear c51b0); (try clear c52); (try clear c52b0); (try clear c53); (try clear c53b0); (try clear c54); (try clear p54); (try clear q54); (try clear hx54); (try clear hf54); (try clear c55); (try clear p55); (try clear q55); (try clear hx55); (try clear hf55); (try clear c58); (try clear c59); (try clear c61); (try clear c61b0); (try clear hx27_0 hx27_1 hx27_10 hx27_11 hx27_2 hx27_3 hx27_4 hx27_5 hx27_6 hx27_7 hx27_8 hx27_9); (try clear hx281_0 hx281_1 hx281_10 hx281_11 hx281_2 hx281_3 hx281_4 hx281_5 hx281_6 hx281_7 hx281_8 hx281_9); (try clear hx282_0 hx282_1 hx282_10 hx282_11 hx282_2 hx282_3 hx282_4 hx282_5 hx282_6 hx282_7 hx282_8 hx282_9); (try clear hx284_0 hx284_1 hx284_10 hx284_11 hx284_2 hx284_3 hx284_4 hx284_5 hx284_6 hx284_7 hx284_8 hx284_9); (try clear hx285_0 hx285_1 hx285_10 hx285_11 hx285_2 hx285_3 hx285_4 hx285_5 hx285_6 hx285_7 hx285_8 hx285_9); (try clear hx288_0 hx288_1 hx288_10 hx288_11 hx288_2 hx288_3 hx288_4 hx288_5 hx288_6 hx288_7 hx288_8 hx288_9); (try clear hx289_0 hx289_1 hx289_10 hx289_11 hx289_2 hx289_3 hx289_4 hx289_5 hx289_6 hx289_7 hx289_8 hx289_9); (try clear hx28_0 hx28_1 hx28_10 hx28_11 hx28_2 hx28_3 hx28_4 hx28_5 hx28_6 hx28_7 hx28_8 hx28_9); (try clear hx291_0 hx291_1 hx291_10 hx291_11 hx291_2 hx291_3 hx291_4 hx291_5 hx291_6 hx291_7 hx291_8 hx291_9); (try clear hx292_0 hx292_1 hx292_10 hx292_11 hx292_2 hx292_3 hx292_4 hx292_5 hx292_6 hx292_7 hx292_8 hx292_9); (try clear hx54_0 hx54_1 hx54_10 hx54_11 hx54_2 hx54_3 hx54_4 hx54_5 hx54_6 hx54_7 hx54_8 hx54_9); (try clear hx55_0 hx55_1 hx55_10 hx55_11 hx55_2 hx55_3 hx55_4 hx55_5 hx55_6 hx55_7 hx55_8 hx55_9); (try clear p2); (try clear p27); (try clear p28); (try clear p281); (try clear p282); (try clear p284); (try clear p285); (try clear p288); (try clear p289); (try clear p29); (try clear p291); (try clear p292); (try clear p5); (try clear p54); (try clear p55); (try clear p6); (try clear q2); (try clear q27); (try clear q28); (try clear q281); (try clear q282); (try clear q284); (try clear q285); (try clear q288); (try clear q289); (try clear q29); (try clear q291); (try clear q292); (try clear q5); (try clear q54); (try clear q55)
      obtain ⟨x20_2, x21_2, rfl, rfl, HA, HK2, HO_0, HK, HB⟩ := hrel
      cases gk with
      | zero => exact absurd HA.out (by simp [slices_symMergeCmpFunc_Job__job_Due_1.l4])
      | succ k2 =>
       have H := HA.out
       clear HA
       simp only [slices_symMergeCmpFunc_Job__job_Due_1.l4] at H
       by_cases c62 : x20_2 < x21_2
       ·rw [if_pos c62] at H
        have c62b0 : decide (x20_2 < x21_2) = true := decide_eq_true c62
        clear c62
        obtain ⟨ji63, hji63⟩ : ∃ j_ : Int, (wrap64 ((wrap64 (x19_59 - 1)) - (wrap64 ((IntKind.u64.wrap (wrap64 (x20_2 + x21_2))) / 2)))) = j_ := ⟨_, rfl⟩
        replace H : (if 0 ≤ (ji63) then (if (ji63) < (l0.length : Int) then (if 0 ≤ (wrap64 ((IntKind.u64.wrap (wrap64 (x20_2 + x21_2))) / 2)) then (if (wrap64 ((IntKind.u64.wrap (wrap64 (x20_2 + x21_2))) / 2)) < (l0.length : Int) then ((job_Due_1.f ((rd_T32 l0 (ji63)).f0) ((rd_T32 l0 (ji63)).f1) ((rd_T32 l0 (ji63)).f2) ((rd_T32 l0 (ji63)).f3) ((rd_T32 l0 (ji63)).f4) ((rd_T32 l0 (ji63)).f5) ((rd_T32 l0 (ji63)).f6) ((rd_T32 l0 (ji63)).f7) ((rd_T32 l0 (ji63)).f8) ((rd_T32 l0 (ji63)).f9) ((rd_T32 l0 (ji63)).f10) ((rd_T32 l0 (ji63)).f11) ((rd_T32 l0 (wrap64 ((IntKind.u64.wrap (wrap64 (x20_2 + x21_2))) / 2))).f0) ((rd_T32 l0 (wrap64 ((IntKind.u64.wrap (wrap64 (x20_2 + x21_2))) / 2))).f1) ((rd_T32 l0 (wrap64 ((IntKind.u64.wrap (wrap64 (x20_2 + x21_2))) / 2))).f2) ((rd_T32 l0 (wrap64 ((IntKind.u64.wrap (wrap64 (x20_2 + x21_2))) / 2))).f3) ((rd_T32 l0 (wrap64 ((IntKind.u64.wrap (wrap64 (x20_2 + x21_2))) / 2))).f4) ((rd_T32 l0 (wrap64 ((IntKind.u64.wrap (wrap64 (x20_2 + x21_2))) / 2))).f5) ((rd_T32 l0 (wrap64 ((IntKind.u64.wrap (wrap64 (x20_2 + x21_2))) / 2))).f6) ((rd_T32 l0 (wrap64 ((IntKind.u64.wrap (wrap64 (x20_2 + x21_2))) / 2))).f7) ((rd_T32 l0 (wrap64 ((IntKind.u64.wrap (wrap64 (x20_2 + x21_2))) / 2))).f8) ((rd_T32 l0 (wrap64 ((IntKind.u64.wrap (wrap64 (x20_2 + x21_2))) / 2))).f9) ((rd_T32 l0 (wrap64 ((IntKind.u64.wrap (wrap64 (x20_2 + x21_2))) / 2))).f10) ((rd_T32 l0 (wrap64 ((IntKind.u64.wrap (wrap64 (x20_2 + x21_2))) / 2))).f11)).bind fun t297 => (if t297 < 0 then (slices_symMergeCmpFunc_Job__job_Due_1.l4 k2 l0 a1 a2 a3 x18_59 x19_59 x20_2 (wrap64 ((IntKind.u64.wrap (wrap64 (x20_2 + x21_2))) / 2)) (wrap64 (x19_59 - 1))) else (slices_symMergeCmpFunc_Job__job_Due_1.l4 k2 l0 a1 a2 a3 x18_59 x19_59 (wrap64 ((wrap64 ((IntKind.u64.wrap (wrap64 (x20_2 + x21_2))) / 2)) + 1)) x21_2 (wrap64 (x19_59 - 1))))) else (none)) else (none)) else (none)) else (none)) = some r := by first | (rw [hji63] at H; exact H) | (simp only [hji63] at H ⊢; exact H)
        have hji63w : (IntKind.i64.wrap ((wrap64 (x19_59 - 1)) - (wrap64 ((IntKind.u64.wrap (wrap64 (x20_2 + x21_2))) / 2)))) = ji63 := (i64_w _).trans hji63
        by_cases c64 : 0 ≤ (ji63)
        ·rw [if_pos c64] at H
         have c64b0 : decide (0 ≤ (ji63)) = true := decide_eq_true c64
         clear c64
         by_cases c65 : (ji63) < (l0.length : Int)
         ·rw [if_pos c65] at H
          have c65b0 : decide ((ji63) < (l0.length : Int)) = true := decide_eq_true c65
          clear c65
          obtain ⟨ji66, hji66⟩ : ∃ j_ : Int, (wrap64 ((IntKind.u64.wrap (wrap64 (x20_2 + x21_2))) / 2)) = j_ := ⟨_, rfl⟩
          replace H : (if 0 ≤ (ji66) then (if (ji66) < (l0.length : Int) then ((job_Due_1.f ((rd_T32 l0 (ji63)).f0) ((rd_T32 l0 (ji63)).f1) ((rd_T32 l0 (ji63)).f2) ((rd_T32 l0 (ji63)).f3) ((rd_T32 l0 (ji63)).f4) ((rd_T32 l0 (ji63)).f5) ((rd_T32 l0 (ji63)).f6) ((rd_T32 l0 (ji63)).f7) ((rd_T32 l0 (ji63)).f8) ((rd_T32 l0 (ji63)).f9) ((rd_T32 l0 (ji63)).f10) ((rd_T32 l0 (ji63)).f11) ((rd_T32 l0 (ji66)).f0) ((rd_T32 l0 (ji66)).f1) ((rd_T32 l0 (ji66)).f2) ((rd_T32 l0 (ji66)).f3) ((rd_T32 l0 (ji66)).f4) ((rd_T32 l0 (ji66)).f5) ((rd_T32 l0 (ji66)).f6) ((rd_T32 l0 (ji66)).f7) ((rd_T32 l0 (ji66)).f8) ((rd_T32 l0 (ji66)).f9) ((rd_T32 l0 (ji66)).f10) ((rd_T32 l0 (ji66)).f11)).bind fun t297 => (if t297 < 0 then (slices_symMergeCmpFunc_Job__job_Due_1.l4 k2 l0 a1 a2 a3 x18_59 x19_59 x20_2 ji66 (wrap64 (x19_59 - 1))) else (slices_symMergeCmpFunc_Job__job_Due_1.l4 k2 l0 a1 a2 a3 x18_59 x19_59 (wrap64 ((ji66) + 1)) x21_2 (wrap64 (x19_59 - 1))))) else (none)) else (none)) = some r := by first | (rw [hji66] at H; exact H) | (simp only [hji66] at H ⊢; exact H)
          have hji66w : (IntKind.i64.wrap ((IntKind.u64.wrap (wrap64 (x20_2 + x21_2))) / 2)) = ji66 := (i64_w _).trans hji66
          (try simp only [hji66] at hji63)
          (try simp only [hji66w] at hji63w)
          by_cases c67 : 0 ≤ (ji66)
          ·rw [if_pos c67] at H
           have c67b0 : decide (0 ≤ (ji66)) = true := decide_eq_true c67
           clear c67
           by_cases c68 : (ji66) < (l0.length : Int)
           ·rw [if_pos c68] at H
            have c68b0 : decide ((ji66) < (l0.length : Int)) = true := decide_eq_true c68
            clear c68
            replace H := Option.bind_eq_some_iff.mp H
            obtain ⟨t297, A690, H⟩ := H
            replace H : (if t297 < 0 then (slices_symMergeCmpFunc_Job__job_Due_1.l4 k2 l0 a1 a2 a3 x18_59 x19_59 x20_2 ji66 (wrap64 (x19_59 - 1))) else (slices_symMergeCmpFunc_Job__job_Due_1.l4 k2 l0 a1 a2 a3 x18_59 x19_59 (wrap64 ((ji66) + 1)) x21_2 (wrap64 (x19_59 - 1)))) = some r := H
            have A69 := Aside0.mk A690
            clear A690
            by_cases c70 : t297 < 0
            ·as_aux_lemma =>
             rw [if_pos c70] at H
             have c70b0 : decide (t297 < 0) = true := decide_eq_true c70
             clear c70
             have H' := Aside0.mk H
             clear H
             try go_wp2
             have n0_ := Aside0.mk (Kd.R_drew HO_0.out)
             have n1_ := Aside0.mk (Kept.drew HK.out)
             have n2_ := Aside0.mk (below_drew1 HB.out)
             clear HO_0; clear HK; clear HB
             have HO_0 := n0_
             have HK := n1_
             have HB := n2_
             clear n0_; clear n1_; clear n2_
             obtain ⟨Ao72, co72, eo72⟩ := Kd.R_slice HO_0.out
             (first | subst eo72 | (injection eo72 with f1_ f2_ f3_; have f4_ := f1_.symm; have f5_ := f3_.symm; clear f1_ f2_ f3_; subst f4_; subst f5_))
             have p295 : 0 ≤ ((ji63) : Int) := oda
             have q295 : (ji63) < (l0.length : Int) := oda
             obtain ⟨ad295, e295, hx295_0, hx295_1, hx295_2, hx295_3, hx295_4, hx295_5, hx295_6, hx295_7, hx295_8, hx295_9, hx295_10, hx295_11⟩ := at_T32 (Kd.R_reads' HO_0.out).2.2 (ji63) p295 q295
             cases e295
             replace p295 := eq_true p295
             replace q295 := eq_true q295
             have p296 : 0 ≤ ((ji66) : Int) := oda
             have q296 : (ji66) < (l0.length : Int) := oda
             obtain ⟨ad296, e296, hx296_0, hx296_1, hx296_2, hx296_3, hx296_4, hx296_5, hx296_6, hx296_7, hx296_8, hx296_9, hx296_10, hx296_11⟩ := at_T32 (Kd.R_reads' HO_0.out).2.2 (ji66) p296 q296
             obtain rfl : ad295 = ad296 := (by injection e296)
             replace p296 := eq_true p296
             replace q296 := eq_true q296
             refine start_ (n := 14) (S := fun w' => c12 w' (ad295.add (((ji63)).toNat * 12)) (rd_T32 l0 (ji63)) <| c12e w' (ad295.add (((ji66)).toNat * 12)) (rd_T32 l0 (ji66))) (ds := []) #[false, false, false, false, false, false, false, false, false, false, false, false, false, false] (by kernel_rfl) rfl rfl ⟨hx295_0, hx295_1, hx295_2, hx295_3, hx295_4, hx295_5, hx295_6, hx295_7, hx295_8, hx295_9, hx295_10, hx295_11, hx296_0, hx296_1, hx296_2, hx296_3, hx296_4, hx296_5, hx296_6, hx296_7, hx296_8, hx296_9, hx296_10, hx296_11⟩ (fun hHeld => ?_); refine with_tabW slices_symMergeCmpFunc_Job__job_Due_1.tab35 slices_symMergeCmpFunc_Job__job_Due_1.bits35 (fun HT_ HW_ => ?_)
             generalize wr.drew = w71 at HO_0 HK HB hx295_0 hx295_1 hx295_10 hx295_11 hx295_2 hx295_3 hx295_4 hx295_5 hx295_6 hx295_7 hx295_8 hx295_9 hx296_0 hx296_1 hx296_10 hx296_11 hx296_2 hx296_3 hx296_4 hx296_5 hx296_6 hx296_7 hx296_8 hx296_9 hHeld ⊢
             refine plan_ [(0, 158), (1, 159), (2, 160), (3, 161), (4, 162), (5, 163), (7, 165), (8, 166), (9, 167)] ?_
             iterate 9 (refine planP_ (v := ?_) (a' := ?_) rfl rfl (any_of HT_.out (by kernel_rfl)) (fun _ _ _ h => h) (Or.inl ⟨by rfl, ?_⟩) ?_ ?_; rotate_left; (intro w'; go_simp; with_reducible rfl); rotate_left; (simp only [Act.put, List.setIfInBounds_toArray, List.set_cons_zero, List.set_cons_succ, i64_w, i32_w]; rfl))
             refine planEnd_ ?_
             refine plan_ [(6, 164), (10, 168)] ?_
             iterate 2 (refine planT_ (v := ?_) (a' := ?_) rfl rfl (take_ofW HT_.out HW_.out (by kernel_rfl)) (fun _ _ _ h => h) (Or.inl ⟨by rfl, ?_⟩) hHeld ?_ ?_; rotate_left; (rintro w' ⟨s0, s1, s2, s3, s4, s5, s6, s7, s8, s9, s10, s11, s12, s13, s14, s15, s16, s17, s18, s19, s20, s21, s22, s23⟩; go_simp; with_reducible rfl); rotate_left; (simp only [Act.put, List.setIfInBounds_toArray, List.set_cons_zero, List.set_cons_succ, i64_w, i32_w]; rfl))
             refine planEnd_ ?_
             refine one_ (i := 11) (N := some 169) #[true, true, true, true, true, true, true, true, true, true, true, true, false, false] rfl rfl (one_of HT_.out (by kernel_rfl)) (by decide) (fun K hK => ?_)
             refine goesV_ Try.func47 (by kernel_rfl) rfl #[.agg (cJ (rd_T32 l0 (ji63))), .agg (cJ (rd_T32 l0 (ji66)))] (by rfl) rfl rfl (by (try simp only [List.map_toArray, List.map_cons, List.map_nil]); first | done | (simp only [hji63, hji66]; rfl) | rfl | (simp only [List.length_drop, List.length_take]; rfl)) rfl ?_
             with_reducible refine (job_Due_1.calls ((rd_T32 l0 (ji63)).f0) ((rd_T32 l0 (ji63)).f1) ((rd_T32 l0 (ji63)).f2) ((rd_T32 l0 (ji63)).f3) ((rd_T32 l0 (ji63)).f4) ((rd_T32 l0 (ji63)).f5) ((rd_T32 l0 (ji63)).f6) ((rd_T32 l0 (ji63)).f7) ((rd_T32 l0 (ji63)).f8) ((rd_T32 l0 (ji63)).f9) ((rd_T32 l0 (ji63)).f10) ((rd_T32 l0 (ji63)).f11) ((rd_T32 l0 (ji66)).f0) ((rd_T32 l0 (ji66)).f1) ((rd_T32 l0 (ji66)).f2) ((rd_T32 l0 (ji66)).f3) ((rd_T32 l0 (ji66)).f4) ((rd_T32 l0 (ji66)).f5) ((rd_T32 l0 (ji66)).f6) ((rd_T32 l0 (ji66)).f7) ((rd_T32 l0 (ji66)).f8) ((rd_T32 l0 (ji66)).f9) ((rd_T32 l0 (ji66)).f10) ((rd_T32 l0 (ji66)).f11) t297 _ A69.out).mono ?_
             rintro e w73 ⟨rfl, hb⟩
             have HS0_ := hs_ hb hHeld.1
             have HS1_ := hs_ hb hHeld.2.1
             have HS2_ := hs_ hb hHeld.2.2.1
             have HS3_ := hs_ hb hHeld.2.2.2.1
             have HS4_ := hs_ hb hHeld.2.2.2.2.1
             have HS5_ := hs_ hb hHeld.2.2.2.2.2.1
             have HS6_ := hs_ hb hHeld.2.2.2.2.2.2.1
             have HS7_ := hs_ hb hHeld.2.2.2.2.2.2.2.1
             have HS8_ := hs_ hb hHeld.2.2.2.2.2.2.2.2.1
             have HS9_ := hs_ hb hHeld.2.2.2.2.2.2.2.2.2.1
             have HS10_ := hs_ hb hHeld.2.2.2.2.2.2.2.2.2.2.1
             have HS11_ := hs_ hb hHeld.2.2.2.2.2.2.2.2.2.2.2.1
             have HS12_ := hs_ hb hHeld.2.2.2.2.2.2.2.2.2.2.2.2.1
             have HS13_ := hs_ hb hHeld.2.2.2.2.2.2.2.2.2.2.2.2.2.1
             have HS14_ := hs_ hb hHeld.2.2.2.2.2.2.2.2.2.2.2.2.2.2.1
             have HS15_ := hs_ hb hHeld.2.2.2.2.2.2.2.2.2.2.2.2.2.2.2.1
             have HS16_ := hs_ hb hHeld.2.2.2.2.2.2.2.2.2.2.2.2.2.2.2.2.1
             have HS17_ := hs_ hb hHeld.2.2.2.2.2.2.2.2.2.2.2.2.2.2.2.2.2.1
             have HS18_ := hs_ hb hHeld.2.2.2.2.2.2.2.2.2.2.2.2.2.2.2.2.2.2.1
             have HS19_ := hs_ hb hHeld.2.2.2.2.2.2.2.2.2.2.2.2.2.2.2.2.2.2.2.1
             have HS20_ := hs_ hb hHeld.2.2.2.2.2.2.2.2.2.2.2.2.2.2.2.2.2.2.2.2.1
             have HS21_ := hs_ hb hHeld.2.2.2.2.2.2.2.2.2.2.2.2.2.2.2.2.2.2.2.2.2.1
             have HS22_ := hs_ hb hHeld.2.2.2.2.2.2.2.2.2.2.2.2.2.2.2.2.2.2.2.2.2.2.1
             have HS23_ := hs_ hb hHeld.2.2.2.2.2.2.2.2.2.2.2.2.2.2.2.2.2.2.2.2.2.2.2
             refine ⟨_, rfl, ?_⟩
             have n0_ := Aside0.mk (Kd.R_below (mR HO_0.out) hb)
             have n1_ := Aside0.mk (Kept.below (S := (fun k_ => P0_ k_)) (mK HK.out) hb)
             have n2_ := Aside0.mk (below_step (mB HB.out) hb)
             clear HO_0; clear HK; clear HB
             have HO_0 := n0_
             have HK := n1_
             have HB := n2_
             clear n0_; clear n1_; clear n2_
             (try clear hb); (try clear hb2); (try clear hk); (try clear hi)
             refine hK.out _ _ ⟨HS0_, HS1_, HS2_, HS3_, HS4_, HS5_, HS6_, HS7_, HS8_, HS9_, HS10_, HS11_, HS12_, HS13_, HS14_, HS15_, HS16_, HS17_, HS18_, HS19_, HS20_, HS21_, HS22_, HS23_⟩ (fun hHeld => ?_)
             clear hK; clear K
             refine norm_ (a' := ?_) ?_ ?_
             rotate_left
             ·show Act.put _ (some 169) _ = _
              simp only [Act.put, List.setIfInBounds_toArray, List.set_cons_zero, List.set_cons_succ, i64_w, i32_w]
              rfl
             refine plan_ [(12, 170), (13, 171)] ?_
             iterate 2 (refine planP_ (v := ?_) (a' := ?_) rfl rfl (any_of HT_.out (by kernel_rfl)) (fun _ _ _ h => h) (Or.inl ⟨by rfl, ?_⟩) ?_ ?_; rotate_left; (intro w'; go_simp; with_reducible rfl); rotate_left; (simp only [Act.put, List.setIfInBounds_toArray, List.set_cons_zero, List.set_cons_succ, i64_w, i32_w]; rfl))
             refine planEnd_ ?_
             refine done_ (done_of HT_.out (by kernel_rfl)) ?_
             try go_wp2
             go_roundg k2
             case measure => have := HJ59.out; have := HK2.out; omega
             case rel => exact ⟨(x20_2), (ji66), ez, (by first | rfl | (simp; done) | (simp only [← hji66] <;> (first | rfl | simp)) | (simp [*]; done)), H', ⟨by have := HJ59.out; have := HK2.out; omega⟩, ⟨mR HO_0.out⟩, ⟨mK HK.out⟩, ⟨mB HB.out⟩⟩
            ·as_aux_lemma =>
             rw [if_neg c70] at H
             have c70b0 : decide (t297 < 0) = false := decide_eq_false c70
             clear c70
             have H' := Aside0.mk H
             clear H
             try go_wp2
             have n0_ := Aside0.mk (Kd.R_drew HO_0.out)
             have n1_ := Aside0.mk (Kept.drew HK.out)
             have n2_ := Aside0.mk (below_drew1 HB.out)
             clear HO_0; clear HK; clear HB
             have HO_0 := n0_
             have HK := n1_
             have HB := n2_
             clear n0_; clear n1_; clear n2_
             obtain ⟨Ao75, co75, eo75⟩ := Kd.R_slice HO_0.out
             (first | subst eo75 | (injection eo75 with f1_ f2_ f3_; have f4_ := f1_.symm; have f5_ := f3_.symm; clear f1_ f2_ f3_; subst f4_; subst f5_))
             have p295 : 0 ≤ ((ji63) : Int) := oda
             have q295 : (ji63) < (l0.length : Int) := oda
             obtain ⟨ad295, e295, hx295_0, hx295_1, hx295_2, hx295_3, hx295_4, hx295_5, hx295_6, hx295_7, hx295_8, hx295_9, hx295_10, hx295_11⟩ := at_T32 (Kd.R_reads' HO_0.out).2.2 (ji63) p295 q295
             cases e295
             replace p295 := eq_true p295
             replace q295 := eq_true q295
             have p296 : 0 ≤ ((ji66) : Int) := oda
             have q296 : (ji66) < (l0.length : Int) := oda
             obtain ⟨ad296, e296, hx296_0, hx296_1, hx296_2, hx296_3, hx296_4, hx296_5, hx296_6, hx296_7, hx296_8, hx296_9, hx296_10, hx296_11⟩ := at_T32 (Kd.R_reads' HO_0.out).2.2 (ji66) p296 q296
             obtain rfl : ad295 = ad296 := (by injection e296)
             replace p296 := eq_true p296
             replace q296 := eq_true q296
             refine start_ (n := 14) (S := fun w' => c12 w' (ad295.add (((ji63)).toNat * 12)) (rd_T32 l0 (ji63)) <| c12e w' (ad295.add (((ji66)).toNat * 12)) (rd_T32 l0 (ji66))) (ds := []) #[false, false, false, false, false, false, false, false, false, false, false, false, false, false] (by kernel_rfl) rfl rfl ⟨hx295_0, hx295_1, hx295_2, hx295_3, hx295_4, hx295_5, hx295_6, hx295_7, hx295_8, hx295_9, hx295_10, hx295_11, hx296_0, hx296_1, hx296_2, hx296_3, hx296_4, hx296_5, hx296_6, hx296_7, hx296_8, hx296_9, hx296_10, hx296_11⟩ (fun hHeld => ?_); refine with_tabW slices_symMergeCmpFunc_Job__job_Due_1.tab35 slices_symMergeCmpFunc_Job__job_Due_1.bits35 (fun HT_ HW_ => ?_)
             generalize wr.drew = w74 at HO_0 HK HB hx295_0 hx295_1 hx295_10 hx295_11 hx295_2 hx295_3 hx295_4 hx295_5 hx295_6 hx295_7 hx295_8 hx295_9 hx296_0 hx296_1 hx296_10 hx296_11 hx296_2 hx296_3 hx296_4 hx296_5 hx296_6 hx296_7 hx296_8 hx296_9 hHeld ⊢
             refine plan_ [(0, 158), (1, 159), (2, 160), (3, 161), (4, 162), (5, 163), (7, 165), (8, 166), (9, 167)] ?_
             iterate 9 (refine planP_ (v := ?_) (a' := ?_) rfl rfl (any_of HT_.out (by kernel_rfl)) (fun _ _ _ h => h) (Or.inl ⟨by rfl, ?_⟩) ?_ ?_; rotate_left; (intro w'; go_simp; with_reducible rfl); rotate_left; (simp only [Act.put, List.setIfInBounds_toArray, List.set_cons_zero, List.set_cons_succ, i64_w, i32_w]; rfl))
             refine planEnd_ ?_
             refine plan_ [(6, 164), (10, 168)] ?_
             iterate 2 (refine planT_ (v := ?_) (a' := ?_) rfl rfl (take_ofW HT_.out HW_.out (by kernel_rfl)) (fun _ _ _ h => h) (Or.inl ⟨by rfl, ?_⟩) hHeld ?_ ?_; rotate_left; (rintro w' ⟨s0, s1, s2, s3, s4, s5, s6, s7, s8, s9, s10, s11, s12, s13, s14, s15, s16, s17, s18, s19, s20, s21, s22, s23⟩; go_simp; with_reducible rfl); rotate_left; (simp only [Act.put, List.setIfInBounds_toArray, List.set_cons_zero, List.set_cons_succ, i64_w, i32_w]; rfl))
             refine planEnd_ ?_
             refine one_ (i := 11) (N := some 169) #[true, true, true, true, true, true, true, true, true, true, true, true, false, false] rfl rfl (one_of HT_.out (by kernel_rfl)) (by decide) (fun K hK => ?_)
             refine goesV_ Try.func47 (by kernel_rfl) rfl #[.agg (cJ (rd_T32 l0 (ji63))), .agg (cJ (rd_T32 l0 (ji66)))] (by rfl) rfl rfl (by (try simp only [List.map_toArray, List.map_cons, List.map_nil]); first | done | (simp only [hji63, hji66]; rfl) | rfl | (simp only [List.length_drop, List.length_take]; rfl)) rfl ?_
             with_reducible refine (job_Due_1.calls ((rd_T32 l0 (ji63)).f0) ((rd_T32 l0 (ji63)).f1) ((rd_T32 l0 (ji63)).f2) ((rd_T32 l0 (ji63)).f3) ((rd_T32 l0 (ji63)).f4) ((rd_T32 l0 (ji63)).f5) ((rd_T32 l0 (ji63)).f6) ((rd_T32 l0 (ji63)).f7) ((rd_T32 l0 (ji63)).f8) ((rd_T32 l0 (ji63)).f9) ((rd_T32 l0 (ji63)).f10) ((rd_T32 l0 (ji63)).f11) ((rd_T32 l0 (ji66)).f0) ((rd_T32 l0 (ji66)).f1) ((rd_T32 l0 (ji66)).f2) ((rd_T32 l0 (ji66)).f3) ((rd_T32 l0 (ji66)).f4) ((rd_T32 l0 (ji66)).f5) ((rd_T32 l0 (ji66)).f6) ((rd_T32 l0 (ji66)).f7) ((rd_T32 l0 (ji66)).f8) ((rd_T32 l0 (ji66)).f9) ((rd_T32 l0 (ji66)).f10) ((rd_T32 l0 (ji66)).f11) t297 _ A69.out).mono ?_
             rintro e w76 ⟨rfl, hb⟩
             have HS0_ := hs_ hb hHeld.1
             have HS1_ := hs_ hb hHeld.2.1
             have HS2_ := hs_ hb hHeld.2.2.1
             have HS3_ := hs_ hb hHeld.2.2.2.1
             have HS4_ := hs_ hb hHeld.2.2.2.2.1
             have HS5_ := hs_ hb hHeld.2.2.2.2.2.1
             have HS6_ := hs_ hb hHeld.2.2.2.2.2.2.1
             have HS7_ := hs_ hb hHeld.2.2.2.2.2.2.2.1
             have HS8_ := hs_ hb hHeld.2.2.2.2.2.2.2.2.1
             have HS9_ := hs_ hb hHeld.2.2.2.2.2.2.2.2.2.1
             have HS10_ := hs_ hb hHeld.2.2.2.2.2.2.2.2.2.2.1
             have HS11_ := hs_ hb hHeld.2.2.2.2.2.2.2.2.2.2.2.1
             have HS12_ := hs_ hb hHeld.2.2.2.2.2.2.2.2.2.2.2.2.1
             have HS13_ := hs_ hb hHeld.2.2.2.2.2.2.2.2.2.2.2.2.2.1
             have HS14_ := hs_ hb hHeld.2.2.2.2.2.2.2.2.2.2.2.2.2.2.1
             have HS15_ := hs_ hb hHeld.2.2.2.2.2.2.2.2.2.2.2.2.2.2.2.1
             have HS16_ := hs_ hb hHeld.2.2.2.2.2.2.2.2.2.2.2.2.2.2.2.2.1
             have HS17_ := hs_ hb hHeld.2.2.2.2.2.2.2.2.2.2.2.2.2.2.2.2.2.1
             have HS18_ := hs_ hb hHeld.2.2.2.2.2.2.2.2.2.2.2.2.2.2.2.2.2.2.1
             have HS19_ := hs_ hb hHeld.2.2.2.2.2.2.2.2.2.2.2.2.2.2.2.2.2.2.2.1
             have HS20_ := hs_ hb hHeld.2.2.2.2.2.2.2.2.2.2.2.2.2.2.2.2.2.2.2.2.1
             have HS21_ := hs_ hb hHeld.2.2.2.2.2.2.2.2.2.2.2.2.2.2.2.2.2.2.2.2.2.1
             have HS22_ := hs_ hb hHeld.2.2.2.2.2.2.2.2.2.2.2.2.2.2.2.2.2.2.2.2.2.2.1
             have HS23_ := hs_ hb hHeld.2.2.2.2.2.2.2.2.2.2.2.2.2.2.2.2.2.2.2.2.2.2.2
             refine ⟨_, rfl, ?_⟩
             have n0_ := Aside0.mk (Kd.R_below (mR HO_0.out) hb)
             have n1_ := Aside0.mk (Kept.below (S := (fun k_ => P0_ k_)) (mK HK.out) hb)
             have n2_ := Aside0.mk (below_step (mB HB.out) hb)
             clear HO_0; clear HK; clear HB
             have HO_0 := n0_
             have HK := n1_
             have HB := n2_
             clear n0_; clear n1_; clear n2_
             (try clear hb); (try clear hb2); (try clear hk); (try clear hi)
             refine hK.out _ _ ⟨HS0_, HS1_, HS2_, HS3_, HS4_, HS5_, HS6_, HS7_, HS8_, HS9_, HS10_, HS11_, HS12_, HS13_, HS14_, HS15_, HS16_, HS17_, HS18_, HS19_, HS20_, HS21_, HS22_, HS23_⟩ (fun hHeld => ?_)
             clear hK; clear K
             refine norm_ (a' := ?_) ?_ ?_
             rotate_left
             ·show Act.put _ (some 169) _ = _
              simp only [Act.put, List.setIfInBounds_toArray, List.set_cons_zero, List.set_cons_succ, i64_w, i32_w]
              rfl
             refine plan_ [(12, 170), (13, 171)] ?_
             iterate 2 (refine planP_ (v := ?_) (a' := ?_) rfl rfl (any_of HT_.out (by kernel_rfl)) (fun _ _ _ h => h) (Or.inl ⟨by rfl, ?_⟩) ?_ ?_; rotate_left; (intro w'; go_simp; with_reducible rfl); rotate_left; (simp only [Act.put, List.setIfInBounds_toArray, List.set_cons_zero, List.set_cons_succ, i64_w, i32_w]; rfl))
             refine planEnd_ ?_
             refine done_ (done_of HT_.out (by kernel_rfl)) ?_
             try go_wp2
             go_roundg k2
             case measure => have := HJ59.out; have := HK2.out; omega
             case rel => exact ⟨(wrap64 ((ji66) + 1)), (x21_2), (by first | rfl | (simp; done) | (simp only [← hji66] <;> (first | rfl | simp)) | (simp [*]; done)), ez, H', ⟨by have := HJ59.out; have := HK2.out; omega⟩, ⟨mR HO_0.out⟩, ⟨mK HK.out⟩, ⟨mB HB.out⟩⟩
           ·rw [if_neg c68] at H
            exact absurd H (by simp)
          ·rw [if_neg c67] at H
           exact absurd H (by simp)
         ·rw [if_neg c65] at H
          exact absurd H (by simp)
        ·rw [if_neg c64] at H
         exact absurd H (by simp)
       ·rw [if_neg c62] at H
        have c62b0 : decide (x20_2 < x21_2) = false := decide_eq_false c62
        clear c62
        have HC77 := Aside0.mk H
        clear H
        go_upto_region 39 with (fail)
        go_cut [185] (fun v185 wc => ∃ (kq : Nat) (x185_76 : Bool), v185 = .bool x185_76 ∧ Aside0 (slices_symMergeCmpFunc_Job__job_Due_1.j6 kq l0 a1 a2 a3 x18_59 x20_2 (wrap64 (x19_59 - x20_2)) x185_76 = some r) ∧ Aside0 (kq ≤ k2) ∧ Aside0 (Kd.R k32 32 wc w0.heap.size (fun k_ => (P0_ k_ ∨ w.heap.size ≤ k_)) u9000_ l0) ∧ Aside0 (Kept w wc (fun k_ => P0_ k_)) ∧ Aside0 (Below w0.heap.size w0 wc))
        case first =>
         have H := HC77.out
         clear HC77
         by_cases c78 : x20_2 < a2
         ·rw [if_pos c78] at H
          have c78b0 : decide (x20_2 < a2) = true := decide_eq_true c78
          clear c78
          (first | rw [c78b0] | (simp only [i64_w, i32_w]; rw [c78b0]) | skip)
          have H' := Aside0.mk H
          clear H
          go_wp2
          go_meet
          case rel => exact ⟨_, (decide (a2 < (wrap64 (x19_59 - x20_2)))), ez, H', ⟨by have := HJ59.out; have := HK2.out; first | omega | exact Nat.le_refl _⟩, ⟨mR HO_0.out⟩, ⟨mK HK.out⟩, ⟨mB HB.out⟩⟩
         ·rw [if_neg c78] at H
          have c78b0 : decide (x20_2 < a2) = false := decide_eq_false c78
          clear c78
          (first | rw [c78b0] | (simp only [i64_w, i32_w]; rw [c78b0]) | skip)
          have H' := Aside0.mk H
          clear H
          go_wp2
          go_meet
          case rel => exact ⟨_, (false), ez, H', ⟨by have := HJ59.out; have := HK2.out; first | omega | exact Nat.le_refl _⟩, ⟨mR HO_0.out⟩, ⟨mK HK.out⟩, ⟨mB HB.out⟩⟩
        case rest => as_aux_lemma =>
         clear HC77
         (try clear p2); (try clear q2); (try clear hx2); (try clear c4); (try clear p5); (try clear q5); (try clear hx5); (try clear c6); (try clear p6); (try clear c7); (try clear p27); (try clear q27); (try clear p28); (try clear q28); (try clear hx28); (try clear p29); (try clear q29); (try clear hx29); (try clear c47); (try clear p54); (try clear q54); (try clear hx54); (try clear p55); (try clear q55); (try clear hx55); (try clear c62); (try clear c62b0); (try clear c64); (try clear c64b0); (try clear p64); (try clear c65); (try clear c65b0); (try clear c67); (try clear c67b0); (try clear c68); (try clear c68b0); (try clear c70); (try clear c70b0); (try clear c78); (try clear c78b0); (try clear hx282_9); (try clear hx284_0 hx284_1 hx284_10 hx284_11 hx284_2 hx284_3 hx284_4 hx284_5 hx284_6 hx284_7 hx284_8 hx284_9); (try clear hx285_0 hx285_1 hx285_10 hx285_11 hx285_2 hx285_3 hx285_4 hx285_5 hx285_6 hx285_7 hx285_8 hx285_9); (try clear hx288_0 hx288_1 hx288_10 hx288_11 hx288_2 hx288_3 hx288_4 hx288_5 hx288_6 hx288_7 hx288_8 hx288_9); (try clear hx289_0 hx289_1 hx289_10 hx289_11 hx289_2 hx289_3 hx289_4 hx289_5 hx289_6 hx289_7 hx289_8 hx289_9); (try clear hx28_0 hx28_1 hx28_10 hx28_11 hx28_2 hx28_3 hx28_4 hx28_5 hx28_6 hx28_7 hx28_8 hx28_9); (try clear hx291_0 hx291_1 hx291_10 hx291_11 hx291_2 hx291_3 hx291_4 hx291_5 hx291_6 hx291_7 hx291_8 hx291_9); (try clear hx292_0 hx292_1 hx292_10 hx292_11 hx292_2 hx292_3 hx292_4 hx292_5 hx292_6 hx292_7 hx292_8 hx292_9); (try clear hx295_0 hx295_1 hx295_10 hx295_11 hx295_2 hx295_3 hx295_4 hx295_5 hx295_6 hx295_7 hx295_8 hx295_9); (try clear hx296_0 hx296_1 hx296_10 hx296_11 hx296_2 hx296_3 hx296_4 hx296_5 hx296_6 hx296_7 hx296_8 hx296_9); (try clear hx54_0 hx54_1 hx54_10 hx54_11 hx54_2 hx54_3 hx54_4 hx54_5 hx54_6 hx54_7 hx54_8 hx54_9); (try clear hx55_0 hx55_1 hx55_10 hx55_11 hx55_2 hx55_3 hx55_4 hx55_5 hx55_6 hx55_7 hx55_8 hx55_9); (try clear p2); (try clear p27); (try clear p28); (try clear p281); (try clear p282); (try clear p284); (try clear p285); (try clear p288); (try clear p289); (try clear p29); (try clear p291); (try clear p292); (try clear p295); (try clear p296); (try clear p5); (try clear p54); (try clear p55); (try clear p6); (try clear q2); (try clear q27); (try clear q28); (try clear q281); (try clear q282); (try clear q284); (try clear q285); (try clear q288); (try clear q289); (try clear q29); (try clear q291); (try clear q292); (try clear q295); (try clear q296); (try clear q5); (try clear q54); (try clear q55)
         obtain ⟨kq, x185_76, rfl, HA, HJ76, HO_0, HK, HB⟩ := hcut
         cases kq with
         | zero => exact absurd HA.out (by simp [slices_symMergeCmpFunc_Job__job_Due_1.j6])
         | succ kj76 =>
          have H := HA.out
          clear HA
          simp only [slices_symMergeCmpFunc_Job__job_Due_1.j6] at H
          have HC79 := Aside0.mk H
          clear H
          go_upto_if 185 with (fail)
          go_cut [] (fun wc => ∃ (kq : Nat) (x0_78 : List (S32)), Aside0 (slices_symMergeCmpFunc_Job__job_Due_1.j7 kq x0_78 a1 a3 x18_59 x20_2 (wrap64 (x19_59 - x20_2)) = some r) ∧ Aside0 (kq ≤ kj76) ∧ Aside0 (Kd.R k32 32 wc w0.heap.size (fun k_ => (P0_ k_ ∨ w.heap.size ≤ k_)) u9000_ x0_78) ∧ Aside0 (Kept w wc (fun k_ => P0_ k_)) ∧ Aside0 (Below w0.heap.size w0 wc))
          case first =>
           have H := HC79.out
           clear HC79
           by_cases c80 : x185_76 = true
           ·subst c80
            have H1 : ((slices_rotateCmpFunc_Job__job_Due_1.f kj76 l0 x20_2 a2 (wrap64 (x19_59 - x20_2))).bind fun t298 => (slices_symMergeCmpFunc_Job__job_Due_1.j7 kj76 t298 a1 a3 x18_59 x20_2 (wrap64 (x19_59 - x20_2)))) = some r := by rw [if_pos rfl] at H; exact H
            clear H
            have H := H1
            clear H1
            replace H := Option.bind_eq_some_iff.mp H
            obtain ⟨t298, A810, H⟩ := H
            replace H : (slices_symMergeCmpFunc_Job__job_Due_1.j7 kj76 t298 a1 a3 x18_59 x20_2 (wrap64 (x19_59 - x20_2))) = some r := H
            have A81 := Aside0.mk A810
            clear A810
            have H' := Aside0.mk H
            clear H
            obtain ⟨Ao82, co82, eo82⟩ := Kd.R_slice HO_0.out
            subst eo82
            go_wp2_with (first | ((with_reducible refine gate_callee (f := 70) rfl ?_); refine goesL_ (some 191) rfl rfl Try.func70 (by kernel_rfl) rfl #[.slice Ao82 l0.length co82, .int .i64 x20_2, .int .i64 a2, .int .i64 (wrap64 (x19_59 - x20_2)), .func (.func 47) #[] #[]] rfl mt ?_; (with_reducible refine (slices_rotateCmpFunc_Job__job_Due_1.calls kj76 (fun k_ => some k_ = (.slice Ao82 l0.length co82 : Value).ownBlock) (.slice Ao82 l0.length co82) l0 x20_2 a2 (wrap64 (x19_59 - x20_2))  t298 w0 _ ?side1 ?side2 A81.out).mono ?_); (case side1 => repeat (first | (with_reducible first | exact HB.out | apply below_alloc | apply pw_below_drewN | apply below_drew1) | exact HB.out)); (case side2 => exact Kd.R_tight rfl HO_0.out); rintro e w83 ⟨rfl, hy0, hb, hkp⟩; refine ⟨_, rfl, ?_⟩; have n0_ := Aside0.mk (Kd.R_reok rfl hy0 (fun k_ e_ => HO_0.out.1 k_ e_)); have n1_ := Aside0.mk (Kept.then_ (S := (fun k_ => P0_ k_)) (mK HK.out) hkp (fun k_ hs_ => (fun e_ => (HO_0.out.1 k_ e_.symm)) hs_)); have n2_ := Aside0.mk (hb); clear HO_0; clear HK; clear HB; have HO_0 := n0_; have HK := n1_; have HB := n2_; clear n0_ n1_ n2_; (try clear hb); (try clear hkp); (try clear hy0)))
            go_meet
            case rel => exact ⟨_, (t298), H', ⟨by have := HJ59.out; have := HK2.out; have := HJ76.out; first | omega | exact Nat.le_refl _⟩, ⟨mR HO_0.out⟩, ⟨mK HK.out⟩, ⟨mB HB.out⟩⟩
           ·replace c80 := Bool.eq_false_iff.mpr c80
            subst c80
            have H1 : (slices_symMergeCmpFunc_Job__job_Due_1.j7 kj76 l0 a1 a3 x18_59 x20_2 (wrap64 (x19_59 - x20_2))) = some r := by rw [if_neg (show ¬ (false = true) by decide)] at H; exact H
            clear H
            have H := H1
            clear H1
            have H' := Aside0.mk H
            clear H
            go_wp2
            go_meet
            case rel => exact ⟨_, (l0), H', ⟨by have := HJ59.out; have := HK2.out; have := HJ76.out; first | omega | exact Nat.le_refl _⟩, ⟨mR HO_0.out⟩, ⟨mK HK.out⟩, ⟨mB HB.out⟩⟩
          case rest => as_aux_lemma =>
           clear HC79
           (try clear p2); (try clear q2); (try clear hx2); (try clear c4); (try clear p5); (try clear q5); (try clear hx5); (try clear c6); (try clear p6); (try clear c7); (try clear c8); (try clear p27); (try clear q27); (try clear p28); (try clear q28); (try clear hx28); (try clear p29); (try clear q29); (try clear hx29); (try clear c47); (try clear p54); (try clear q54); (try clear hx54); (try clear p55); (try clear q55); (try clear hx55); (try clear c62); (try clear c62b0); (try clear c64); (try clear c64b0); (try clear p64); (try clear c65); (try clear c65b0); (try clear c67); (try clear c67b0); (try clear c68); (try clear c68b0); (try clear c70); (try clear c70b0); (try clear c78); (try clear c78b0); (try clear c80); (try clear hx282_9); (try clear hx284_0 hx284_1 hx284_10 hx284_11 hx284_2 hx284_3 hx284_4 hx284_5 hx284_6 hx284_7 hx284_8 hx284_9); (try clear hx285_0 hx285_1 hx285_10 hx285_11 hx285_2 hx285_3 hx285_4 hx285_5 hx285_6 hx285_7 hx285_8 hx285_9); (try clear hx288_0 hx288_1 hx288_10 hx288_11 hx288_2 hx288_3 hx288_4 hx288_5 hx288_6 hx288_7 hx288_8 hx288_9); (try clear hx289_0 hx289_1 hx289_10 hx289_11 hx289_2 hx289_3 hx289_4 hx289_5 hx289_6 hx289_7 hx289_8 hx289_9); (try clear hx28_0 hx28_1 hx28_10 hx28_11 hx28_2 hx28_3 hx28_4 hx28_5 hx28_6 hx28_7 hx28_8 hx28_9); (try clear hx291_0 hx291_1 hx291_10 hx291_11 hx291_2 hx291_3 hx291_4 hx291_5 hx291_6 hx291_7 hx291_8 hx291_9); (try clear hx292_0 hx292_1 hx292_10 hx292_11 hx292_2 hx292_3 hx292_4 hx292_5 hx292_6 hx292_7 hx292_8 hx292_9); (try clear hx295_0 hx295_1 hx295_10 hx295_11 hx295_2 hx295_3 hx295_4 hx295_5 hx295_6 hx295_7 hx295_8 hx295_9); (try clear hx296_0 hx296_1 hx296_10 hx296_11 hx296_2 hx296_3 hx296_4 hx296_5 hx296_6 hx296_7 hx296_8 hx296_9); (try clear hx54_0 hx54_1 hx54_10 hx54_11 hx54_2 hx54_3 hx54_4 hx54_5 hx54_6 hx54_7 hx54_8 hx54_9); (try clear hx55_0 hx55_1 hx55_10 hx55_11 hx55_2 hx55_3 hx55_4 hx55_5 hx55_6 hx55_7 hx55_8 hx55_9); (try clear p2); (try clear p27); (try clear p28); (try clear p281); (try clear p282); (try clear p284); (try clear p285); (try clear p288); (try clear p289); (try clear p29); (try clear p291); (try clear p292); (try clear p295); (try clear p296); (try clear p5); (try clear p54); (try clear p55); (try clear p6); (try clear p64); (try clear q2); (try clear q27); (try clear q28); (try clear q281); (try clear q282); (try clear q284); (try clear q285); (try clear q288); (try clear q289); (try clear q29); (try clear q291); (try clear q292); (try clear q295); (try clear q296); (try clear q5); (try clear q54); (try clear q55)
           obtain ⟨kq, x0_78, HA, HJ78, HO_0, HK, HB⟩ := hcut
           cases kq with
           | zero => exact absurd HA.out (by simp [slices_symMergeCmpFunc_Job__job_Due_1.j7])
           | succ kj78 =>
            have H := HA.out
            clear HA
            simp only [slices_symMergeCmpFunc_Job__job_Due_1.j7] at H
            have HC84 := Aside0.mk H
            clear H
            go_upto_region 41 with (fail)
            go_cut [199] (fun v199 wc => ∃ (kq : Nat) (x199_83 : Bool), v199 = .bool x199_83 ∧ Aside0 (slices_symMergeCmpFunc_Job__job_Due_1.j8 kq x0_78 a1 a3 x18_59 x20_2 (wrap64 (x19_59 - x20_2)) x199_83 = some r) ∧ Aside0 (kq ≤ kj78) ∧ Aside0 (Kd.R k32 32 wc w0.heap.size (fun k_ => (P0_ k_ ∨ w.heap.size ≤ k_)) u9000_ x0_78) ∧ Aside0 (Kept w wc (fun k_ => P0_ k_)) ∧ Aside0 (Below w0.heap.size w0 wc))
            case first =>
             have H := HC84.out
             clear HC84
             by_cases c85 : a1 < x20_2
             ·rw [if_pos c85] at H
              have c85b0 : decide (a1 < x20_2) = true := decide_eq_true c85
              clear c85
              (first | rw [c85b0] | (simp only [i64_w, i32_w]; rw [c85b0]) | skip)
              have H' := Aside0.mk H
              clear H
              go_wp2
              go_meet
              case rel => exact ⟨_, (decide (x20_2 < x18_59)), ez, H', ⟨by have := HJ59.out; have := HK2.out; have := HJ76.out; have := HJ78.out; first | omega | exact Nat.le_refl _⟩, ⟨mR HO_0.out⟩, ⟨mK HK.out⟩, ⟨mB HB.out⟩⟩
             ·rw [if_neg c85] at H
              have c85b0 : decide (a1 < x20_2) = false := decide_eq_false c85
              clear c85
              (first | rw [c85b0] | (simp only [i64_w, i32_w]; rw [c85b0]) | skip)
              have H' := Aside0.mk H
              clear H
              go_wp2
              go_meet
              case rel => exact ⟨_, (false), ez, H', ⟨by have := HJ59.out; have := HK2.out; have := HJ76.out; have := HJ78.out; first | omega | exact Nat.le_refl _⟩, ⟨mR HO_0.out⟩, ⟨mK HK.out⟩, ⟨mB HB.out⟩⟩
            case rest => as_aux_lemma =>
             clear HC84
             (try clear p2); (try clear q2); (try clear hx2); (try clear c4); (try clear p5); (try clear q5); (try clear hx5); (try clear c6); (try clear p6); (try clear c7); (try clear c8); (try clear p27); (try clear q27); (try clear p28); (try clear q28); (try clear hx28); (try clear p29); (try clear q29); (try clear hx29); (try clear c47); (try clear p54); (try clear q54); (try clear hx54); (try clear p55); (try clear q55); (try clear hx55); (try clear c62); (try clear c62b0); (try clear c64); (try clear c64b0); (try clear p64); (try clear c65); (try clear c65b0); (try clear c67); (try clear c67b0); (try clear c68); (try clear c68b0); (try clear c70); (try clear c70b0); (try clear c78); (try clear c78b0); (try clear c80); (try clear c85); (try clear c85b0); (try clear hx282_9); (try clear hx284_0 hx284_1 hx284_10 hx284_11 hx284_2 hx284_3 hx284_4 hx284_5 hx284_6 hx284_7 hx284_8 hx284_9); (try clear hx285_0 hx285_1 hx285_10 hx285_11 hx285_2 hx285_3 hx285_4 hx285_5 hx285_6 hx285_7 hx285_8 hx285_9); (try clear hx288_0 hx288_1 hx288_10 hx288_11 hx288_2 hx288_3 hx288_4 hx288_5 hx288_6 hx288_7 hx288_8 hx288_9); (try clear hx289_0 hx289_1 hx289_10 hx289_11 hx289_2 hx289_3 hx289_4 hx289_5 hx289_6 hx289_7 hx289_8 hx289_9); (try clear hx28_0 hx28_1 hx28_10 hx28_11 hx28_2 hx28_3 hx28_4 hx28_5 hx28_6 hx28_7 hx28_8 hx28_9); (try clear hx291_0 hx291_1 hx291_10 hx291_11 hx291_2 hx291_3 hx291_4 hx291_5 hx291_6 hx291_7 hx291_8 hx291_9); (try clear hx292_0 hx292_1 hx292_10 hx292_11 hx292_2 hx292_3 hx292_4 hx292_5 hx292_6 hx292_7 hx292_8 hx292_9); (try clear hx295_0 hx295_1 hx295_10 hx295_11 hx295_2 hx295_3 hx295_4 hx295_5 hx295_6 hx295_7 hx295_8 hx295_9); (try clear hx296_0 hx296_1 hx296_10 hx296_11 hx296_2 hx296_3 hx296_4 hx296_5 hx296_6 hx296_7 hx296_8 hx296_9); (try clear hx54_0 hx54_1 hx54_10 hx54_11 hx54_2 hx54_3 hx54_4 hx54_5 hx54_6 hx54_7 hx54_8 hx54_9); (try clear hx55_0 hx55_1 hx55_10 hx55_11 hx55_2 hx55_3 hx55_4 hx55_5 hx55_6 hx55_7 hx55_8 hx55_9); (try clear p2); (try clear p27); (try clear p28); (try clear p281); (try clear p282); (try clear p284); (try clear p285); (try clear p288); (try clear p289); (try clear p29); (try clear p291); (try clear p292); (try clear p295); (try clear p296); (try clear p5); (try clear p54); (try clear p55); (try clear p6); (try clear p64); (try clear q2); (try clear q27); (try clear q28); (try clear q281); (try clear q282); (try clear q284); (try clear q285); (try clear q288); (try clear q289); (try clear q29); (try clear q291); (try clear q292); (try clear q295); (try clear q296); (try clear q5); (try clear q54); (try clear q55)
             obtain ⟨kq, x199_83, rfl, HA, HJ83, HO_0, HK, HB⟩ := hcut
             cases kq with
             | zero => exact absurd HA.out (by simp [slices_symMergeCmpFunc_Job__job_Due_1.j8])
             | succ kj83 =>
              have H := HA.out
              clear HA
              simp only [slices_symMergeCmpFunc_Job__job_Due_1.j8] at H
              by_cases c86 : x199_83 = true
              ·subst c86
               have H1 : ((slices_symMergeCmpFunc_Job__job_Due_1.f kj83 x0_78 a1 x20_2 x18_59).bind fun t299 => (if x18_59 < (wrap64 (x19_59 - x20_2)) then (if (wrap64 (x19_59 - x20_2)) < a3 then ((slices_symMergeCmpFunc_Job__job_Due_1.f kj83 t299 x18_59 (wrap64 (x19_59 - x20_2)) a3).bind fun t300 => (some t300)) else (some t299)) else (some t299))) = some r := by rw [if_pos rfl] at H; exact H
               clear H
               have H := H1
               clear H1
               replace H := Option.bind_eq_some_iff.mp H
               obtain ⟨t299, A870, H⟩ := H
               replace H : (if x18_59 < (wrap64 (x19_59 - x20_2)) then (if (wrap64 (x19_59 - x20_2)) < a3 then ((slices_symMergeCmpFunc_Job__job_Due_1.f kj83 t299 x18_59 (wrap64 (x19_59 - x20_2)) a3).bind fun t300 => (some t300)) else (some t299)) else (some t299)) = some r := H
               have A87 := Aside0.mk A870
               clear A870
               by_cases c88 : x18_59 < (wrap64 (x19_59 - x20_2))
               ·rw [if_pos c88] at H
                have c88b0 : decide (x18_59 < (wrap64 (x19_59 - x20_2))) = true := decide_eq_true c88
                clear c88
                by_cases c89 : (wrap64 (x19_59 - x20_2)) < a3
                ·rw [if_pos c89] at H
                 have c89b0 : decide ((wrap64 (x19_59 - x20_2)) < a3) = true := decide_eq_true c89
                 clear c89
                 replace H := Option.bind_eq_some_iff.mp H
                 obtain ⟨t300, A900, H⟩ := H
                 replace H : (some t300) = some r := H
                 have A90 := Aside0.mk A900
                 clear A900
                 obtain rfl := Option.some.inj H
                 obtain ⟨Ao91, co91, eo91⟩ := Kd.R_slice HO_0.out
                 subst eo91
                 go_wp2_with (first | ((with_reducible refine gate_callee (f := 68) rfl ?_); refine goesL_ (some 205) rfl rfl Try.func68 (by kernel_rfl) rfl #[.slice Ao91 x0_78.length co91, .int .i64 a1, .int .i64 x20_2, .int .i64 x18_59, .func (.func 47) #[] #[]] rfl mt ?_; (with_reducible refine (ih kj83 (by have := HJ59.out; have := HK2.out; have := HJ76.out; have := HJ78.out; have := HJ83.out; omega) (fun k_ => some k_ = (.slice Ao91 x0_78.length co91 : Value).ownBlock) (.slice Ao91 x0_78.length co91) x0_78 a1 x20_2 x18_59  t299 w0 _ ?side1 ?side2 A87.out).mono ?_); (case side1 => repeat (first | (with_reducible first | exact HB.out | apply below_alloc | apply pw_below_drewN | apply below_drew1) | exact HB.out)); (case side2 => exact Kd.R_tight rfl HO_0.out); rintro e w92 ⟨rfl, hy0, hb, hkp⟩; refine ⟨_, rfl, ?_⟩; have n0_ := Aside0.mk (Kd.R_reok rfl hy0 (fun k_ e_ => HO_0.out.1 k_ e_)); have n1_ := Aside0.mk (Kept.then_ (S := (fun k_ => P0_ k_)) (mK HK.out) hkp (fun k_ hs_ => (fun e_ => (HO_0.out.1 k_ e_.symm)) hs_)); have n2_ := Aside0.mk (hb); clear HO_0; clear HK; clear HB; have HO_0 := n0_; have HK := n1_; have HB := n2_; clear n0_ n1_ n2_; (try clear hb); (try clear hkp); (try clear hy0)) | ((with_reducible refine gate_callee (f := 68) rfl ?_); refine goesL_ (some 219) rfl rfl Try.func68 (by kernel_rfl) rfl #[.slice Ao91 x0_78.length co91, .int .i64 x18_59, .int .i64 (wrap64 (x19_59 - x20_2)), .int .i64 a3, .func (.func 47) #[] #[]] rfl mt ?_; (with_reducible refine (ih kj83 (by have := HJ59.out; have := HK2.out; have := HJ76.out; have := HJ78.out; have := HJ83.out; omega) (fun k_ => some k_ = (.slice Ao91 x0_78.length co91 : Value).ownBlock) (.slice Ao91 x0_78.length co91) t299 x18_59 (wrap64 (x19_59 - x20_2)) a3  t300 w0 _ ?side1 ?side2 A90.out).mono ?_); (case side1 => repeat (first | (with_reducible first | exact HB.out | apply below_alloc | apply pw_below_drewN | apply below_drew1) | exact HB.out)); (case side2 => exact Kd.R_tight rfl HO_0.out); rintro e w93 ⟨rfl, hy0, hb, hkp⟩; refine ⟨_, rfl, ?_⟩; have n0_ := Aside0.mk (Kd.R_reok rfl hy0 (fun k_ e_ => HO_0.out.1 k_ e_)); have n1_ := Aside0.mk (Kept.then_ (S := (fun k_ => P0_ k_)) (mK HK.out) hkp (fun k_ hs_ => (fun e_ => (HO_0.out.1 k_ e_.symm)) hs_)); have n2_ := Aside0.mk (hb); clear HO_0; clear HK; clear HB; have HO_0 := n0_; have HK := n1_; have HB := n2_; clear n0_ n1_ n2_; (try clear hb); (try clear hkp); (try clear hy0)))
                 first | go_end0 | ((try simp only [Exit.inBlock, Exit.then]); refine bodyPost_ret (results_none rfl _ _ _) rfl ?_)
                 exact ⟨by first | rfl | (simp [errW_none, errW_some] <;> rfl) | (simp [*, errW_none, errW_some] <;> rfl), mR HO_0.out, by repeat (first | (with_reducible first | exact HB.out | apply below_alloc | apply pw_below_drewN | apply below_drew1) | exact HB.out), by repeat (first | (with_reducible first | exact HK.out | apply Kept.alloc | apply Kept.drewN | apply Kept.drew) | exact HK.out)⟩
                ·rw [if_neg c89] at H
                 have c89b0 : decide ((wrap64 (x19_59 - x20_2)) < a3) = false := decide_eq_false c89
                 clear c89
                 obtain rfl := Option.some.inj H
                 obtain ⟨Ao94, co94, eo94⟩ := Kd.R_slice HO_0.out
                 subst eo94
                 go_wp2_with (first | ((with_reducible refine gate_callee (f := 68) rfl ?_); refine goesL_ (some 205) rfl rfl Try.func68 (by kernel_rfl) rfl #[.slice Ao94 x0_78.length co94, .int .i64 a1, .int .i64 x20_2, .int .i64 x18_59, .func (.func 47) #[] #[]] rfl mt ?_; (with_reducible refine (ih kj83 (by have := HJ59.out; have := HK2.out; have := HJ76.out; have := HJ78.out; have := HJ83.out; omega) (fun k_ => some k_ = (.slice Ao94 x0_78.length co94 : Value).ownBlock) (.slice Ao94 x0_78.length co94) x0_78 a1 x20_2 x18_59  t299 w0 _ ?side1 ?side2 A87.out).mono ?_); (case side1 => repeat (first | (with_reducible first | exact HB.out | apply below_alloc | apply pw_below_drewN | apply below_drew1) | exact HB.out)); (case side2 => exact Kd.R_tight rfl HO_0.out); rintro e w95 ⟨rfl, hy0, hb, hkp⟩; refine ⟨_, rfl, ?_⟩; have n0_ := Aside0.mk (Kd.R_reok rfl hy0 (fun k_ e_ => HO_0.out.1 k_ e_)); have n1_ := Aside0.mk (Kept.then_ (S := (fun k_ => P0_ k_)) (mK HK.out) hkp (fun k_ hs_ => (fun e_ => (HO_0.out.1 k_ e_.symm)) hs_)); have n2_ := Aside0.mk (hb); clear HO_0; clear HK; clear HB; have HO_0 := n0_; have HK := n1_; have HB := n2_; clear n0_ n1_ n2_; (try clear hb); (try clear hkp); (try clear hy0)))
                 first | go_end0 | ((try simp only [Exit.inBlock, Exit.then]); refine bodyPost_ret (results_none rfl _ _ _) rfl ?_)
                 exact ⟨by first | rfl | (simp [errW_none, errW_some] <;> rfl) | (simp [*, errW_none, errW_some] <;> rfl), mR HO_0.out, by repeat (first | (with_reducible first | exact HB.out | apply below_alloc | apply pw_below_drewN | apply below_drew1) | exact HB.out), by repeat (first | (with_reducible first | exact HK.out | apply Kept.alloc | apply Kept.drewN | apply Kept.drew) | exact HK.out)⟩
               ·rw [if_neg c88] at H
                have c88b0 : decide (x18_59 < (wrap64 (x19_59 - x20_2))) = false := decide_eq_false c88
                clear c88
                obtain rfl := Option.some.inj H
                obtain ⟨Ao96, co96, eo96⟩ := Kd.R_slice HO_0.out
                subst eo96
                go_wp2_with (first | ((with_reducible refine gate_callee (f := 68) rfl ?_); refine goesL_ (some 205) rfl rfl Try.func68 (by kernel_rfl) rfl #[.slice Ao96 x0_78.length co96, .int .i64 a1, .int .i64 x20_2, .int .i64 x18_59, .func (.func 47) #[] #[]] rfl mt ?_; (with_reducible refine (ih kj83 (by have := HJ59.out; have := HK2.out; have := HJ76.out; have := HJ78.out; have := HJ83.out; omega) (fun k_ => some k_ = (.slice Ao96 x0_78.length co96 : Value).ownBlock) (.slice Ao96 x0_78.length co96) x0_78 a1 x20_2 x18_59  t299 w0 _ ?side1 ?side2 A87.out).mono ?_); (case side1 => repeat (first | (with_reducible first | exact HB.out | apply below_alloc | apply pw_below_drewN | apply below_drew1) | exact HB.out)); (case side2 => exact Kd.R_tight rfl HO_0.out); rintro e w97 ⟨rfl, hy0, hb, hkp⟩; refine ⟨_, rfl, ?_⟩; have n0_ := Aside0.mk (Kd.R_reok rfl hy0 (fun k_ e_ => HO_0.out.1 k_ e_)); have n1_ := Aside0.mk (Kept.then_ (S := (fun k_ => P0_ k_)) (mK HK.out) hkp (fun k_ hs_ => (fun e_ => (HO_0.out.1 k_ e_.symm)) hs_)); have n2_ := Aside0.mk (hb); clear HO_0; clear HK; clear HB; have HO_0 := n0_; have HK := n1_; have HB := n2_; clear n0_ n1_ n2_; (try clear hb); (try clear hkp); (try clear hy0)))
                first | go_end0 | ((try simp only [Exit.inBlock, Exit.then]); refine bodyPost_ret (results_none rfl _ _ _) rfl ?_)
                exact ⟨by first | rfl | (simp [errW_none, errW_some] <;> rfl) | (simp [*, errW_none, errW_some] <;> rfl), mR HO_0.out, by repeat (first | (with_reducible first | exact HB.out | apply below_alloc | apply pw_below_drewN | apply below_drew1) | exact HB.out), by repeat (first | (with_reducible first | exact HK.out | apply Kept.alloc | apply Kept.drewN | apply Kept.drew) | exact HK.out)⟩
              ·replace c86 := Bool.eq_false_iff.mpr c86
               subst c86
               have H1 : (if x18_59 < (wrap64 (x19_59 - x20_2)) then (if (wrap64 (x19_59 - x20_2)) < a3 then ((slices_symMergeCmpFunc_Job__job_Due_1.f kj83 x0_78 x18_59 (wrap64 (x19_59 - x20_2)) a3).bind fun t301 => (some t301)) else (some x0_78)) else (some x0_78)) = some r := by rw [if_neg (show ¬ (false = true) by decide)] at H; exact H
               clear H
               have H := H1
               clear H1
               by_cases c98 : x18_59 < (wrap64 (x19_59 - x20_2))
               ·rw [if_pos c98] at H
                have c98b0 : decide (x18_59 < (wrap64 (x19_59 - x20_2))) = true := decide_eq_true c98
                clear c98
                by_cases c99 : (wrap64 (x19_59 - x20_2)) < a3
                ·rw [if_pos c99] at H
                 have c99b0 : decide ((wrap64 (x19_59 - x20_2)) < a3) = true := decide_eq_true c99
                 clear c99
                 replace H := Option.bind_eq_some_iff.mp H
                 obtain ⟨t301, A1000, H⟩ := H
                 replace H : (some t301) = some r := H
                 have A100 := Aside0.mk A1000
                 clear A1000
                 obtain rfl := Option.some.inj H
                 obtain ⟨Ao101, co101, eo101⟩ := Kd.R_slice HO_0.out
                 subst eo101
                 go_wp2_with (first | ((with_reducible refine gate_callee (f := 68) rfl ?_); refine goesL_ (some 219) rfl rfl Try.func68 (by kernel_rfl) rfl #[.slice Ao101 x0_78.length co101, .int .i64 x18_59, .int .i64 (wrap64 (x19_59 - x20_2)), .int .i64 a3, .func (.func 47) #[] #[]] rfl mt ?_; (with_reducible refine (ih kj83 (by have := HJ59.out; have := HK2.out; have := HJ76.out; have := HJ78.out; have := HJ83.out; omega) (fun k_ => some k_ = (.slice Ao101 x0_78.length co101 : Value).ownBlock) (.slice Ao101 x0_78.length co101) x0_78 x18_59 (wrap64 (x19_59 - x20_2)) a3  t301 w0 _ ?side1 ?side2 A100.out).mono ?_); (case side1 => repeat (first | (with_reducible first | exact HB.out | apply below_alloc | apply pw_below_drewN | apply below_drew1) | exact HB.out)); (case side2 => exact Kd.R_tight rfl HO_0.out); rintro e w102 ⟨rfl, hy0, hb, hkp⟩; refine ⟨_, rfl, ?_⟩; have n0_ := Aside0.mk (Kd.R_reok rfl hy0 (fun k_ e_ => HO_0.out.1 k_ e_)); have n1_ := Aside0.mk (Kept.then_ (S := (fun k_ => P0_ k_)) (mK HK.out) hkp (fun k_ hs_ => (fun e_ => (HO_0.out.1 k_ e_.symm)) hs_)); have n2_ := Aside0.mk (hb); clear HO_0; clear HK; clear HB; have HO_0 := n0_; have HK := n1_; have HB := n2_; clear n0_ n1_ n2_; (try clear hb); (try clear hkp); (try clear hy0)))
                 first | go_end0 | ((try simp only [Exit.inBlock, Exit.then]); refine bodyPost_ret (results_none rfl _ _ _) rfl ?_)
                 exact ⟨by first | rfl | (simp [errW_none, errW_some] <;> rfl) | (simp [*, errW_none, errW_some] <;> rfl), mR HO_0.out, by repeat (first | (with_reducible first | exact HB.out | apply below_alloc | apply pw_below_drewN | apply below_drew1) | exact HB.out), by repeat (first | (with_reducible first | exact HK.out | apply Kept.alloc | apply Kept.drewN | apply Kept.drew) | exact HK.out)⟩
                ·rw [if_neg c99] at H
                 have c99b0 : decide ((wrap64 (x19_59 - x20_2)) < a3) = false := decide_eq_false c99
                 clear c99
                 obtain rfl := Option.some.inj H
                 go_wp2
                 first | go_end0 | ((try simp only [Exit.inBlock, Exit.then]); refine bodyPost_ret (results_none rfl _ _ _) rfl ?_)
                 exact ⟨by first | rfl | (simp [errW_none, errW_some] <;> rfl) | (simp [*, errW_none, errW_some] <;> rfl), mR HO_0.out, by repeat (first | (with_reducible first | exact HB.out | apply below_alloc | apply pw_below_drewN | apply below_drew1) | exact HB.out), by repeat (first | (with_reducible first | exact HK.out | apply Kept.alloc | apply Kept.drewN | apply Kept.drew) | exact HK.out)⟩
               ·rw [if_neg c98] at H
                have c98b0 : decide (x18_59 < (wrap64 (x19_59 - x20_2))) = false := decide_eq_false c98
                clear c98
                obtain rfl := Option.some.inj H
                go_wp2
                first | go_end0 | ((try simp only [Exit.inBlock, Exit.then]); refine bodyPost_ret (results_none rfl _ _ _) rfl ?_)
                exact ⟨by first | rfl | (simp [errW_none, errW_some] <;> rfl) | (simp [*, errW_none, errW_some] <;> rfl), mR HO_0.out, by repeat (first | (with_reducible first | exact HB.out | apply below_alloc | apply pw_below_drewN | apply below_drew1) | exact HB.out), by repeat (first | (with_reducible first | exact HK.out | apply Kept.alloc | apply Kept.drewN | apply Kept.drew) | exact HK.out)⟩

end Go.Proofs.Ytkhfgflcanmefaa.PAll
end
section
namespace Go.Proofs.Ytkhfgflcanmefaa.PAll
open Go.RowKit Go.Proofs.YtkhfgflcanmefaaW.PrintWords Go.Proofs.YtkhfgflcanmefaaW.PrintLast Go.Proofs.YtkhfgflcanmefaaW.PrintMore
attribute [local go_sem] max2_int min2_int max_two min_two max_three min_three max_four min_four   -- for this text's walks alone
set_option linter.unusedVariables false
set_option linter.unusedSimpArgs false

mutual
def slices_stableCmpFunc_Job__job_Due_1.l0 : Nat → List (S32) → Int → Int → Int → Int → Option ((List (S32)))
  | 0, _, _, _, _, _ => none
  | k + 1, x0, x1, x6, x7, x8 => if x8 ≤ x1 then ((slices_insertionSortCmpFunc_Job__job_Due_1.f k x0 x7 x8).bind fun t302 => (slices_stableCmpFunc_Job__job_Due_1.l0 k t302 x1 x6 x8 (wrap64 (x8 + x6)))) else ((slices_insertionSortCmpFunc_Job__job_Due_1.f k x0 x7 x1).bind fun t303 => (slices_stableCmpFunc_Job__job_Due_1.l1 k t303 x1 x6))
def slices_stableCmpFunc_Job__job_Due_1.l1 : Nat → List (S32) → Int → Int → Option ((List (S32)))
  | 0, _, _, _ => none
  | k + 1, x0, x1, x6 => if x6 < x1 then (slices_stableCmpFunc_Job__job_Due_1.l2 k x0 x1 x6 0 (wrap64 (2 * x6))) else (some x0)
def slices_stableCmpFunc_Job__job_Due_1.l2 : Nat → List (S32) → Int → Int → Int → Int → Option ((List (S32)))
  | 0, _, _, _, _, _ => none
  | k + 1, x0, x1, x6, x7, x8 => if x8 ≤ x1 then ((slices_symMergeCmpFunc_Job__job_Due_1.f k x0 x7 (wrap64 (x7 + x6)) x8).bind fun t304 => (slices_stableCmpFunc_Job__job_Due_1.l2 k t304 x1 x6 x8 (wrap64 (x8 + (wrap64 (2 * x6)))))) else (if (wrap64 (x7 + x6)) < x1 then ((slices_symMergeCmpFunc_Job__job_Due_1.f k x0 x7 (wrap64 (x7 + x6)) x1).bind fun t305 => (slices_stableCmpFunc_Job__job_Due_1.l1 k t305 x1 (wrap64 (x6 * 2)))) else (slices_stableCmpFunc_Job__job_Due_1.l1 k x0 x1 (wrap64 (x6 * 2))))
end
def slices_stableCmpFunc_Job__job_Due_1.f (k : Nat) (l0 : List (S32)) (a1 : Int)  : Option ((List (S32))) := slices_stableCmpFunc_Job__job_Due_1.l0 k l0 a1 20 0 20
theorem slices_stableCmpFunc_Job__job_Due_1.mono_l : ∀ k, (∀ y0 y1 y2 y3 y4, LeO (slices_stableCmpFunc_Job__job_Due_1.l0 k y0 y1 y2 y3 y4) (slices_stableCmpFunc_Job__job_Due_1.l0 (k + 1) y0 y1 y2 y3 y4)) ∧ (∀ y0 y1 y2, LeO (slices_stableCmpFunc_Job__job_Due_1.l1 k y0 y1 y2) (slices_stableCmpFunc_Job__job_Due_1.l1 (k + 1) y0 y1 y2)) ∧ (∀ y0 y1 y2 y3 y4, LeO (slices_stableCmpFunc_Job__job_Due_1.l2 k y0 y1 y2 y3 y4) (slices_stableCmpFunc_Job__job_Due_1.l2 (k + 1) y0 y1 y2 y3 y4))
  | 0 => ⟨fun _ _ _ _ _ r h => by simp [slices_stableCmpFunc_Job__job_Due_1.l0] at h, fun _ _ _ r h => by simp [slices_stableCmpFunc_Job__job_Due_1.l1] at h, fun _ _ _ _ _ r h => by simp [slices_stableCmpFunc_Job__job_Due_1.l2] at h⟩
  | k + 1 => by
    obtain ⟨ih0, ih1, ih2⟩ := slices_stableCmpFunc_Job__job_Due_1.mono_l k
    refine ⟨?_, ?_, ?_⟩
    · intro y0 y1 y2 y3 y4
      unfold slices_stableCmpFunc_Job__job_Due_1.l0
      repeat' first
      | (with_reducible exact ih0 _ _ _ _ _)
      | (with_reducible exact ih1 _ _ _)
      | (with_reducible exact ih2 _ _ _ _ _)
      | (with_reducible exact slices_insertionSortCmpFunc_Job__job_Due_1.mono _ _ _ _)
      | (with_reducible exact slices_symMergeCmpFunc_Job__job_Due_1.mono _ _ _ _ _)
      | (with_reducible exact LeO.refl _)
      | (with_reducible exact LeO.none _)
      | (with_reducible refine LeO.ite ?_ ?_)
      | (with_reducible refine LeO.bind ?_ (fun _ => ?_))
      | exact ih0 _ _ _ _ _
      | exact ih1 _ _ _
      | exact ih2 _ _ _ _ _
      | exact slices_insertionSortCmpFunc_Job__job_Due_1.mono _ _ _ _
      | exact slices_symMergeCmpFunc_Job__job_Due_1.mono _ _ _ _ _
      | exact LeO.none _
      | refine LeO.ite ?_ ?_
      | refine LeO.bind ?_ (fun _ => ?_)
    · intro y0 y1 y2
      unfold slices_stableCmpFunc_Job__job_Due_1.l1
      repeat' first
      | (with_reducible exact ih0 _ _ _ _ _)
      | (with_reducible exact ih1 _ _ _)
      | (with_reducible exact ih2 _ _ _ _ _)
      | (with_reducible exact slices_insertionSortCmpFunc_Job__job_Due_1.mono _ _ _ _)
      | (with_reducible exact slices_symMergeCmpFunc_Job__job_Due_1.mono _ _ _ _ _)
      | (with_reducible exact LeO.refl _)
      | (with_reducible exact LeO.none _)
      | (with_reducible refine LeO.ite ?_ ?_)
      | (with_reducible refine LeO.bind ?_ (fun _ => ?_))
      | exact ih0 _ _ _ _ _
      | exact ih1 _ _ _
      | exact ih2 _ _ _ _ _
      | exact slices_insertionSortCmpFunc_Job__job_Due_1.mono _ _ _ _
      | exact slices_symMergeCmpFunc_Job__job_Due_1.mono _ _ _ _ _
      | exact LeO.none _
      | refine LeO.ite ?_ ?_
      | refine LeO.bind ?_ (fun _ => ?_)
    · intro y0 y1 y2 y3 y4
      unfold slices_stableCmpFunc_Job__job_Due_1.l2
      repeat' first
      | (with_reducible exact ih0 _ _ _ _ _)
      | (with_reducible exact ih1 _ _ _)
      | (with_reducible exact ih2 _ _ _ _ _)
      | (with_reducible exact slices_insertionSortCmpFunc_Job__job_Due_1.mono _ _ _ _)
      | (with_reducible exact slices_symMergeCmpFunc_Job__job_Due_1.mono _ _ _ _ _)
      | (with_reducible exact LeO.refl _)
      | (with_reducible exact LeO.none _)
      | (with_reducible refine LeO.ite ?_ ?_)
      | (with_reducible refine LeO.bind ?_ (fun _ => ?_))
      | exact ih0 _ _ _ _ _
      | exact ih1 _ _ _
      | exact ih2 _ _ _ _ _
      | exact slices_insertionSortCmpFunc_Job__job_Due_1.mono _ _ _ _
      | exact slices_symMergeCmpFunc_Job__job_Due_1.mono _ _ _ _ _
      | exact LeO.none _
      | refine LeO.ite ?_ ?_
      | refine LeO.bind ?_ (fun _ => ?_)
theorem slices_stableCmpFunc_Job__job_Due_1.mono : ∀ a0 a1 k, LeO (slices_stableCmpFunc_Job__job_Due_1.f k a0 a1) (slices_stableCmpFunc_Job__job_Due_1.f (k + 1) a0 a1) := by
  intro a0 a1 k
  obtain ⟨ih0, ih1, ih2⟩ := slices_stableCmpFunc_Job__job_Due_1.mono_l k
  unfold slices_stableCmpFunc_Job__job_Due_1.f
  repeat' first
      | (with_reducible exact ih0 _ _ _ _ _)
      | (with_reducible exact ih1 _ _ _)
      | (with_reducible exact ih2 _ _ _ _ _)
      | (with_reducible exact slices_insertionSortCmpFunc_Job__job_Due_1.mono _ _ _ _)
      | (with_reducible exact slices_symMergeCmpFunc_Job__job_Due_1.mono _ _ _ _ _)
      | (with_reducible exact LeO.refl _)
      | (with_reducible exact LeO.none _)
      | (with_reducible refine LeO.ite ?_ ?_)
      | (with_reducible refine LeO.bind ?_ (fun _ => ?_))
      | exact ih0 _ _ _ _ _
      | exact ih1 _ _ _
      | exact ih2 _ _ _ _ _
      | exact slices_insertionSortCmpFunc_Job__job_Due_1.mono _ _ _ _
      | exact slices_symMergeCmpFunc_Job__job_Due_1.mono _ _ _ _ _
      | exact LeO.none _
      | refine LeO.ite ?_ ?_
      | refine LeO.bind ?_ (fun _ => ?_)
set_option maxHeartbeats 8000000 in
set_option maxRecDepth 100000 in
theorem slices_stableCmpFunc_Job__job_Due_1.calls (k : Nat) (P0_ : Nat → Prop) (u9000_ : Value) (l0 : List (S32)) (a1 : Int)  (r : List (S32)) (w0 w : World) (hB : Below w0.heap.size w0 w) (ho0 : Kd.R k32 32 w w0.heap.size P0_ u9000_ l0) (h : slices_stableCmpFunc_Job__job_Due_1.f k l0 a1 = some r) :
    Calls Try.prog 59 #[u9000_, .int .i64 a1, .func (.func 47) #[] #[]] w fun e w' => e = .returned (.tuple #[]) ∧ Kd.R k32 32 w' w0.heap.size (fun k_ => (P0_ k_ ∨ w.heap.size ≤ k_)) u9000_ r ∧ Below w0.heap.size w0 w' ∧ Kept w w' (fun k_ => P0_ k_) := by
  have HO0 := Aside0.mk (show Kd.R k32 32 w w0.heap.size (fun k_ => (P0_ k_ ∨ w.heap.size ≤ k_)) u9000_ l0 from Kd.R_mono ho0 (fun k_ hk => (.inl hk)))
  have HK := Aside0.mk (Kept.refl w (fun k_ => P0_ k_))
  have HW0 := Aside0.mk hB.size
  have HB := Aside0.mk hB
  clear hB
  have H : (slices_stableCmpFunc_Job__job_Due_1.l0 k l0 a1 20 0 20) = some r := h
  clear h
  have H' := Aside0.mk H
  clear H
  go_enter Try.func59, Try.ntmps59
  go_wp2
  go_loopg [7, 8] k (fun kq v7 v8 w' => ∃ (x0_1 : List (S32)) (x7_1 : Int) (x8_1 : Int), v7 = .int .i64 x7_1 ∧ v8 = .int .i64 x8_1 ∧ Aside0 (slices_stableCmpFunc_Job__job_Due_1.l0 kq x0_1 a1 20 x7_1 x8_1 = some r) ∧ Aside0 (kq ≤ k) ∧ Aside0 (Kd.R k32 32 w' w0.heap.size (fun k_ => (P0_ k_ ∨ w.heap.size ≤ k_)) u9000_ x0_1) ∧ Aside0 (Kept w w' (fun k_ => P0_ k_)) ∧ Aside0 (Below w0.heap.size w0 w'))
  case atStart => exact ⟨(l0), (0), (20), (by first | rfl | (simp; done) | (simp [*]; done)), (by first | rfl | (simp; done) | (simp [*]; done)), H', ⟨Nat.le_refl _⟩, ⟨by (with_reducible repeat (first | apply Kd.R_alloc | apply Kd.R_drewN | apply Kd.R_drew)); exact HO0.out⟩, ⟨by repeat (first | (with_reducible first | exact HK.out | apply Kept.alloc | apply Kept.drewN | apply Kept.drew) | exact HK.out)⟩, ⟨by repeat (first | (with_reducible first | exact HB.out | apply below_alloc | apply pw_below_drewN | apply below_drew1) | exact HB.out)⟩⟩
  case round =>
    clear H'
    try clear p2
    obtain ⟨x0_1, x7_1, x8_1, rfl, rfl, HA, HK1, HO_0, HK, HB⟩ := hrel
    cases gk with
    | zero => exact absurd HA.out (by simp [slices_stableCmpFunc_Job__job_Due_1.l0])
    | succ k1 =>
      have H := HA.out
      clear HA
      simp only [slices_stableCmpFunc_Job__job_Due_1.l0] at H
      by_cases c4 : x8_1 ≤ a1
      · rw [if_pos c4] at H
        have c4b0 : decide (x8_1 ≤ a1) = true := decide_eq_true c4
        clear c4
        replace H := Option.bind_eq_some_iff.mp H
        obtain ⟨t302, A50, H⟩ := H
        replace H : (slices_stableCmpFunc_Job__job_Due_1.l0 k1 t302 a1 20 x8_1 (wrap64 (x8_1 + 20))) = some r := H
        have A5 := Aside0.mk A50
        clear A50
        have H' := Aside0.mk H
        clear H
        obtain ⟨Ao6, co6, eo6⟩ := Kd.R_slice HO_0.out
        subst eo6
        go_wp2_with (first | ((with_reducible refine gate_callee (f := 67) rfl ?_); refine goesL_ (some 18) rfl rfl Try.func67 (by kernel_rfl) rfl #[.slice Ao6 x0_1.length co6, .int .i64 x7_1, .int .i64 x8_1, .func (.func 47) #[] #[]] rfl (by (try simp only [List.map_toArray, List.map_cons, List.map_nil]); first | done | rfl | (simp only [List.length_drop, List.length_take]; rfl)) ?_; (with_reducible refine (slices_insertionSortCmpFunc_Job__job_Due_1.calls k1 (fun k_ => some k_ = (.slice Ao6 x0_1.length co6 : Value).ownBlock) (.slice Ao6 x0_1.length co6) x0_1 x7_1 x8_1  t302 w0 _ ?side1 ?side2 A5.out).mono ?_); (case side1 => repeat (first | (with_reducible first | exact HB.out | apply below_alloc | apply pw_below_drewN | apply below_drew1) | exact HB.out)); (case side2 => exact Kd.R_tight rfl HO_0.out); rintro e w7 ⟨rfl, hy0, hb, hkp⟩; refine ⟨_, rfl, ?_⟩; have n0_ := Aside0.mk (Kd.R_reok rfl hy0 (fun k_ e_ => HO_0.out.1 k_ e_)); have n1_ := Aside0.mk (Kept.then_ (S := (fun k_ => P0_ k_)) (by repeat (first | (with_reducible first | exact HK.out | apply Kept.alloc | apply Kept.drewN | apply Kept.drew) | exact HK.out)) hkp (fun k_ hs_ => (fun e_ => (HO_0.out.1 k_ e_.symm)) hs_)); have n2_ := Aside0.mk (hb); clear HO_0; clear HK; clear HB; have HO_0 := n0_; have HK := n1_; have HB := n2_; clear n0_ n1_ n2_; (try clear hb); (try clear hkp); (try clear hy0)))
        go_roundg k1
        case measure => have := HK1.out; omega
        case rel => exact ⟨(t302), (x8_1), (wrap64 (x8_1 + 20)), (by first | rfl | (simp; done) | (simp [*]; done)), (by first | rfl | (simp; done) | (simp [*]; done)), H', ⟨by have := HK1.out; omega⟩, ⟨by (with_reducible repeat (first | apply Kd.R_alloc | apply Kd.R_drewN | apply Kd.R_drew)); exact HO_0.out⟩, ⟨by repeat (first | (with_reducible first | exact HK.out | apply Kept.alloc | apply Kept.drewN | apply Kept.drew) | exact HK.out)⟩, ⟨by repeat (first | (with_reducible first | exact HB.out | apply below_alloc | apply pw_below_drewN | apply below_drew1) | exact HB.out)⟩⟩
      · rw [if_neg c4] at H
        have c4b0 : decide (x8_1 ≤ a1) = false := decide_eq_false c4
        clear c4
        replace H := Option.bind_eq_some_iff.mp H
        obtain ⟨t303, A80, H⟩ := H
        replace H : (slices_stableCmpFunc_Job__job_Due_1.l1 k1 t303 a1 20) = some r := H
        have A8 := Aside0.mk A80
        clear A80
        have H' := Aside0.mk H
        clear H
        obtain ⟨Ao9, co9, eo9⟩ := Kd.R_slice HO_0.out
        subst eo9
        go_wp2_with (first | ((with_reducible refine gate_callee (f := 67) rfl ?_); refine goesL_ (some 27) rfl rfl Try.func67 (by kernel_rfl) rfl #[.slice Ao9 x0_1.length co9, .int .i64 x7_1, .int .i64 a1, .func (.func 47) #[] #[]] rfl (by (try simp only [List.map_toArray, List.map_cons, List.map_nil]); first | done | rfl | (simp only [List.length_drop, List.length_take]; rfl)) ?_; (with_reducible refine (slices_insertionSortCmpFunc_Job__job_Due_1.calls k1 (fun k_ => some k_ = (.slice Ao9 x0_1.length co9 : Value).ownBlock) (.slice Ao9 x0_1.length co9) x0_1 x7_1 a1  t303 w0 _ ?side1 ?side2 A8.out).mono ?_); (case side1 => repeat (first | (with_reducible first | exact HB.out | apply below_alloc | apply pw_below_drewN | apply below_drew1) | exact HB.out)); (case side2 => exact Kd.R_tight rfl HO_0.out); rintro e w10 ⟨rfl, hy0, hb, hkp⟩; refine ⟨_, rfl, ?_⟩; have n0_ := Aside0.mk (Kd.R_reok rfl hy0 (fun k_ e_ => HO_0.out.1 k_ e_)); have n1_ := Aside0.mk (Kept.then_ (S := (fun k_ => P0_ k_)) (by repeat (first | (with_reducible first | exact HK.out | apply Kept.alloc | apply Kept.drewN | apply Kept.drew) | exact HK.out)) hkp (fun k_ hs_ => (fun e_ => (HO_0.out.1 k_ e_.symm)) hs_)); have n2_ := Aside0.mk (hb); clear HO_0; clear HK; clear HB; have HO_0 := n0_; have HK := n1_; have HB := n2_; clear n0_ n1_ n2_; (try clear hb); (try clear hkp); (try clear hy0)))
        (try simp only [Act.put, List.setIfInBounds_toArray, List.set_cons_zero, List.set_cons_succ])
        go_loopg [6] k1 (fun kq v6 w' => ∃ (x0_2 : List (S32)) (x6_2 : Int), v6 = .int .i64 x6_2 ∧ Aside0 (slices_stableCmpFunc_Job__job_Due_1.l1 kq x0_2 a1 x6_2 = some r) ∧ Aside0 (kq ≤ k1) ∧ Aside0 (Kd.R k32 32 w' w0.heap.size (fun k_ => (P0_ k_ ∨ w.heap.size ≤ k_)) (.slice Ao9 x0_1.length co9) x0_2) ∧ Aside0 (Kept w w' (fun k_ => P0_ k_)) ∧ Aside0 (Below w0.heap.size w0 w'))
        case atStart => exact ⟨(t303), (20), (by first | rfl | (simp; done) | (simp [*]; done)), H', ⟨Nat.le_refl _⟩, ⟨by (with_reducible repeat (first | apply Kd.R_alloc | apply Kd.R_drewN | apply Kd.R_drew)); exact HO_0.out⟩, ⟨by repeat (first | (with_reducible first | exact HK.out | apply Kept.alloc | apply Kept.drewN | apply Kept.drew) | exact HK.out)⟩, ⟨by repeat (first | (with_reducible first | exact HB.out | apply below_alloc | apply pw_below_drewN | apply below_drew1) | exact HB.out)⟩⟩
        case round =>
          clear H'
          try clear p2
          try clear c4
          try clear c4b0
          try clear p6
          try clear c7
          try clear p2
          obtain ⟨x0_2, x6_2, rfl, HA, HK2, HO_0, HK, HB⟩ := hrel
          have hl0_2 := (Kd.R_reads' HO_0.out).1
          rw [hl0_2] at HO_0
          (try simp only [hl0_2])
          cases gk with
          | zero => exact absurd HA.out (by simp [slices_stableCmpFunc_Job__job_Due_1.l1])
          | succ k2 =>
            have H := HA.out
            clear HA
            simp only [slices_stableCmpFunc_Job__job_Due_1.l1] at H
            by_cases c11 : x6_2 < a1
            · rw [if_pos c11] at H
              have c11b0 : decide (x6_2 < a1) = true := decide_eq_true c11
              clear c11
              have H' := Aside0.mk H
              clear H
              go_wp2
              go_loopg [7, 8] k2 (fun kq v7 v8 w' => ∃ (x0_3 : List (S32)) (x7_3 : Int) (x8_3 : Int), v7 = .int .i64 x7_3 ∧ v8 = .int .i64 x8_3 ∧ Aside0 (slices_stableCmpFunc_Job__job_Due_1.l2 kq x0_3 a1 x6_2 x7_3 x8_3 = some r) ∧ Aside0 (kq ≤ k2) ∧ Aside0 (Kd.R k32 32 w' w0.heap.size (fun k_ => (P0_ k_ ∨ w.heap.size ≤ k_)) (.slice Ao9 x0_2.length co9) x0_3) ∧ Aside0 (Kept w w' (fun k_ => P0_ k_)) ∧ Aside0 (Below w0.heap.size w0 w'))
              case atStart => exact ⟨(x0_2), (0), (wrap64 (2 * x6_2)), (by first | rfl | (simp; done) | (simp [*]; done)), (by first | rfl | (simp; done) | (simp [*]; done)), H', ⟨Nat.le_refl _⟩, ⟨by (try simp only [hl0_2]); (with_reducible repeat (first | apply Kd.R_alloc | apply Kd.R_drewN | apply Kd.R_drew)); exact HO_0.out⟩, ⟨by repeat (first | (with_reducible first | exact HK.out | apply Kept.alloc | apply Kept.drewN | apply Kept.drew) | exact HK.out)⟩, ⟨by repeat (first | (with_reducible first | exact HB.out | apply below_alloc | apply pw_below_drewN | apply below_drew1) | exact HB.out)⟩⟩
              case round =>
                clear H'
                try clear c1
                try clear p2
                try clear c4
                try clear c4b0
                try clear p6
                try clear c7
                try clear c11
                try clear c11b0
                try clear p2
                try clear p6
                obtain ⟨x0_3, x7_3, x8_3, rfl, rfl, HA, HK3, HO_0, HK, HB⟩ := hrel
                have hl0_3 := (Kd.R_reads' HO_0.out).1
                rw [hl0_3] at HO_0
                (try simp only [hl0_3])
                cases gk with
                | zero => exact absurd HA.out (by simp [slices_stableCmpFunc_Job__job_Due_1.l2])
                | succ k3 =>
                  have H := HA.out
                  clear HA
                  simp only [slices_stableCmpFunc_Job__job_Due_1.l2] at H
                  by_cases c12 : x8_3 ≤ a1
                  · rw [if_pos c12] at H
                    have c12b0 : decide (x8_3 ≤ a1) = true := decide_eq_true c12
                    clear c12
                    replace H := Option.bind_eq_some_iff.mp H
                    obtain ⟨t304, A130, H⟩ := H
                    replace H : (slices_stableCmpFunc_Job__job_Due_1.l2 k3 t304 a1 x6_2 x8_3 (wrap64 (x8_3 + (wrap64 (2 * x6_2))))) = some r := H
                    have A13 := Aside0.mk A130
                    clear A130
                    have H' := Aside0.mk H
                    clear H
                    go_wp2_with (first | ((with_reducible refine gate_callee (f := 68) rfl ?_); refine goesL_ (some 43) rfl rfl Try.func68 (by kernel_rfl) rfl #[.slice Ao9 x0_3.length co9, .int .i64 x7_3, .int .i64 (wrap64 (x7_3 + x6_2)), .int .i64 x8_3, .func (.func 47) #[] #[]] rfl (by (try simp only [List.map_toArray, List.map_cons, List.map_nil]); first | done | rfl | (simp only [List.length_drop, List.length_take]; rfl)) ?_; (with_reducible refine (slices_symMergeCmpFunc_Job__job_Due_1.calls k3 (fun k_ => some k_ = (.slice Ao9 x0_3.length co9 : Value).ownBlock) (.slice Ao9 x0_3.length co9) x0_3 x7_3 (wrap64 (x7_3 + x6_2)) x8_3  t304 w0 _ ?side1 ?side2 A13.out).mono ?_); (case side1 => repeat (first | (with_reducible first | exact HB.out | apply below_alloc | apply pw_below_drewN | apply below_drew1) | exact HB.out)); (case side2 => exact Kd.R_tight rfl HO_0.out); rintro e w14 ⟨rfl, hy0, hb, hkp⟩; refine ⟨_, rfl, ?_⟩; have n0_ := Aside0.mk (Kd.R_reok rfl hy0 (fun k_ e_ => HO_0.out.1 k_ e_)); have n1_ := Aside0.mk (Kept.then_ (S := (fun k_ => P0_ k_)) (by repeat (first | (with_reducible first | exact HK.out | apply Kept.alloc | apply Kept.drewN | apply Kept.drew) | exact HK.out)) hkp (fun k_ hs_ => (fun e_ => (HO_0.out.1 k_ e_.symm)) hs_)); have n2_ := Aside0.mk (hb); clear HO_0; clear HK; clear HB; have HO_0 := n0_; have HK := n1_; have HB := n2_; clear n0_ n1_ n2_; (try clear hb); (try clear hkp); (try clear hy0)))
                    (try simp only [← hl0_3])
                    go_roundg k3
                    case measure => have := HK1.out; have := HK2.out; have := HK3.out; omega
                    case rel => exact ⟨(t304), (x8_3), (wrap64 (x8_3 + (wrap64 (2 * x6_2)))), (by first | rfl | (simp; done) | (simp [*]; done)), (by first | rfl | (simp; done) | (simp [*]; done)), H', ⟨by have := HK1.out; have := HK2.out; have := HK3.out; omega⟩, ⟨by (try simp only [hl0_2]); (try simp only [hl0_3]); (with_reducible repeat (first | apply Kd.R_alloc | apply Kd.R_drewN | apply Kd.R_drew)); exact HO_0.out⟩, ⟨by repeat (first | (with_reducible first | exact HK.out | apply Kept.alloc | apply Kept.drewN | apply Kept.drew) | exact HK.out)⟩, ⟨by repeat (first | (with_reducible first | exact HB.out | apply below_alloc | apply pw_below_drewN | apply below_drew1) | exact HB.out)⟩⟩
                  · rw [if_neg c12] at H
                    have c12b0 : decide (x8_3 ≤ a1) = false := decide_eq_false c12
                    clear c12
                    by_cases c15 : (wrap64 (x7_3 + x6_2)) < a1
                    · rw [if_pos c15] at H
                      have c15b0 : decide ((wrap64 (x7_3 + x6_2)) < a1) = true := decide_eq_true c15
                      clear c15
                      replace H := Option.bind_eq_some_iff.mp H
                      obtain ⟨t305, A160, H⟩ := H
                      replace H : (slices_stableCmpFunc_Job__job_Due_1.l1 k3 t305 a1 (wrap64 (x6_2 * 2))) = some r := H
                      have A16 := Aside0.mk A160
                      clear A160
                      have H' := Aside0.mk H
                      clear H
                      go_wp2_with (first | ((with_reducible refine gate_callee (f := 68) rfl ?_); refine goesL_ (some 60) rfl rfl Try.func68 (by kernel_rfl) rfl #[.slice Ao9 x0_3.length co9, .int .i64 x7_3, .int .i64 (wrap64 (x7_3 + x6_2)), .int .i64 a1, .func (.func 47) #[] #[]] rfl (by (try simp only [List.map_toArray, List.map_cons, List.map_nil]); first | done | rfl | (simp only [List.length_drop, List.length_take]; rfl)) ?_; (with_reducible refine (slices_symMergeCmpFunc_Job__job_Due_1.calls k3 (fun k_ => some k_ = (.slice Ao9 x0_3.length co9 : Value).ownBlock) (.slice Ao9 x0_3.length co9) x0_3 x7_3 (wrap64 (x7_3 + x6_2)) a1  t305 w0 _ ?side1 ?side2 A16.out).mono ?_); (case side1 => repeat (first | (with_reducible first | exact HB.out | apply below_alloc | apply pw_below_drewN | apply below_drew1) | exact HB.out)); (case side2 => exact Kd.R_tight rfl HO_0.out); rintro e w17 ⟨rfl, hy0, hb, hkp⟩; refine ⟨_, rfl, ?_⟩; have n0_ := Aside0.mk (Kd.R_reok rfl hy0 (fun k_ e_ => HO_0.out.1 k_ e_)); have n1_ := Aside0.mk (Kept.then_ (S := (fun k_ => P0_ k_)) (by repeat (first | (with_reducible first | exact HK.out | apply Kept.alloc | apply Kept.drewN | apply Kept.drew) | exact HK.out)) hkp (fun k_ hs_ => (fun e_ => (HO_0.out.1 k_ e_.symm)) hs_)); have n2_ := Aside0.mk (hb); clear HO_0; clear HK; clear HB; have HO_0 := n0_; have HK := n1_; have HB := n2_; clear n0_ n1_ n2_; (try clear hb); (try clear hkp); (try clear hy0)))
                      (try simp only [← hl0_3]); (try simp only [← hl0_2])
                      go_roundg k3
                      case measure => have := HK1.out; have := HK2.out; have := HK3.out; omega
                      case rel => exact ⟨(t305), (wrap64 (x6_2 * 2)), (by first | rfl | (simp; done) | (simp [*]; done)), H', ⟨by have := HK1.out; have := HK2.out; have := HK3.out; omega⟩, ⟨by (try simp only [hl0_2]); (try simp only [hl0_3]); (with_reducible repeat (first | apply Kd.R_alloc | apply Kd.R_drewN | apply Kd.R_drew)); exact HO_0.out⟩, ⟨by repeat (first | (with_reducible first | exact HK.out | apply Kept.alloc | apply Kept.drewN | apply Kept.drew) | exact HK.out)⟩, ⟨by repeat (first | (with_reducible first | exact HB.out | apply below_alloc | apply pw_below_drewN | apply below_drew1) | exact HB.out)⟩⟩
                    · rw [if_neg c15] at H
                      have c15b0 : decide ((wrap64 (x7_3 + x6_2)) < a1) = false := decide_eq_false c15
                      clear c15
                      have H' := Aside0.mk H
                      clear H
                      go_wp2
                      (try simp only [← hl0_3]); (try simp only [← hl0_2])
                      go_roundg k3
                      case measure => have := HK1.out; have := HK2.out; have := HK3.out; omega
                      case rel => exact ⟨(x0_3), (wrap64 (x6_2 * 2)), (by first | rfl | (simp; done) | (simp [*]; done)), H', ⟨by have := HK1.out; have := HK2.out; have := HK3.out; omega⟩, ⟨by (try simp only [hl0_2]); (try simp only [hl0_3]); (with_reducible repeat (first | apply Kd.R_alloc | apply Kd.R_drewN | apply Kd.R_drew)); exact HO_0.out⟩, ⟨by repeat (first | (with_reducible first | exact HK.out | apply Kept.alloc | apply Kept.drewN | apply Kept.drew) | exact HK.out)⟩, ⟨by repeat (first | (with_reducible first | exact HB.out | apply below_alloc | apply pw_below_drewN | apply below_drew1) | exact HB.out)⟩⟩
            · rw [if_neg c11] at H
              have c11b0 : decide (x6_2 < a1) = false := decide_eq_false c11
              clear c11
              obtain rfl := Option.some.inj H
              go_wp2
              first | go_end0 | ((try simp only [Exit.inBlock, Exit.then]); refine bodyPost_ret (results_none rfl _ _ _) rfl ?_)
              exact ⟨by first | rfl | (simp [errW_none, errW_some] <;> rfl) | (simp [*, errW_none, errW_some] <;> rfl), (by first | exact (by (with_reducible repeat (first | apply Kd.R_alloc | apply Kd.R_drewN | apply Kd.R_drew)); exact HO_0.out) | (simp only [hl0_2]; exact (by (with_reducible repeat (first | apply Kd.R_alloc | apply Kd.R_drewN | apply Kd.R_drew)); exact HO_0.out))), by repeat (first | (with_reducible first | exact HB.out | apply below_alloc | apply pw_below_drewN | apply below_drew1) | exact HB.out), by repeat (first | (with_reducible first | exact HK.out | apply Kept.alloc | apply Kept.drewN | apply Kept.drew) | exact HK.out)⟩

end Go.Proofs.Ytkhfgflcanmefaa.PAll
end
section
namespace Go.Proofs.Ytkhfgflcanmefaa.PAll
open Go.RowKit Go.Proofs.YtkhfgflcanmefaaW.PrintWords Go.Proofs.YtkhfgflcanmefaaW.PrintLast Go.Proofs.YtkhfgflcanmefaaW.PrintMore
attribute [local go_sem] max2_int min2_int max_two min_two max_three min_three max_four min_four   -- for this text's walks alone
set_option linter.unusedVariables false
set_option linter.unusedSimpArgs false

def slices_SortStableFunc_Job__job_Due_1.f (k : Nat) (l0 : List (S32))  : Option ((List (S32))) := (slices_stableCmpFunc_Job__job_Due_1.f k l0 (l0.length : Int)).bind fun t306 => (some t306)
theorem slices_SortStableFunc_Job__job_Due_1.mono : ∀ a0 k, LeO (slices_SortStableFunc_Job__job_Due_1.f k a0) (slices_SortStableFunc_Job__job_Due_1.f (k + 1) a0) := by
  intro a0 k
  unfold slices_SortStableFunc_Job__job_Due_1.f
  repeat' first
      | (with_reducible exact slices_stableCmpFunc_Job__job_Due_1.mono _ _ _)
      | (with_reducible exact LeO.refl _)
      | (with_reducible exact LeO.none _)
      | (with_reducible refine LeO.ite ?_ ?_)
      | (with_reducible refine LeO.bind ?_ (fun _ => ?_))
      | exact slices_stableCmpFunc_Job__job_Due_1.mono _ _ _
      | exact LeO.none _
      | refine LeO.ite ?_ ?_
      | refine LeO.bind ?_ (fun _ => ?_)
set_option maxHeartbeats 8000000 in
set_option maxRecDepth 100000 in
theorem slices_SortStableFunc_Job__job_Due_1.calls (k : Nat) (P0_ : Nat → Prop) (u9000_ : Value) (l0 : List (S32))  (r : List (S32)) (w0 w : World) (hB : Below w0.heap.size w0 w) (ho0 : Kd.R k32 32 w w0.heap.size P0_ u9000_ l0) (h : slices_SortStableFunc_Job__job_Due_1.f k l0 = some r) :
    Calls Try.prog 46 #[u9000_, .func (.func 47) #[] #[]] w fun e w' => e = .returned (.tuple #[]) ∧ Kd.R k32 32 w' w0.heap.size (fun k_ => (P0_ k_ ∨ w.heap.size ≤ k_)) u9000_ r ∧ Below w0.heap.size w0 w' ∧ Kept w w' (fun k_ => P0_ k_) := by
  have HO0 := Aside0.mk (show Kd.R k32 32 w w0.heap.size (fun k_ => (P0_ k_ ∨ w.heap.size ≤ k_)) u9000_ l0 from Kd.R_mono ho0 (fun k_ hk => (.inl hk)))
  have HK := Aside0.mk (Kept.refl w (fun k_ => P0_ k_))
  have HW0 := Aside0.mk hB.size
  have HB := Aside0.mk hB
  clear hB
  have H : ((slices_stableCmpFunc_Job__job_Due_1.f k l0 (l0.length : Int)).bind fun t306 => (some t306)) = some r := h
  clear h
  replace H := Option.bind_eq_some_iff.mp H
  obtain ⟨t306, A30, H⟩ := H
  replace H : (some t306) = some r := H
  have A3 := Aside0.mk A30
  clear A30
  obtain rfl := Option.some.inj H
  obtain ⟨Ao4, co4, eo4⟩ := Kd.R_slice HO0.out
  subst eo4
  go_enter Try.func46, Try.ntmps46
  go_wp2_with (first | ((with_reducible refine gate_callee (f := 59) rfl ?_); refine goesL_ (some 8) rfl rfl Try.func59 (by kernel_rfl) rfl #[.slice Ao4 l0.length co4, .int .i64 (l0.length : Int), .func (.func 47) #[] #[]] rfl (by (try simp only [List.map_toArray, List.map_cons, List.map_nil]); first | done | rfl | (simp only [List.length_drop, List.length_take]; rfl)) ?_; (with_reducible refine (slices_stableCmpFunc_Job__job_Due_1.calls k (fun k_ => some k_ = (.slice Ao4 l0.length co4 : Value).ownBlock) (.slice Ao4 l0.length co4) l0 (l0.length : Int)  t306 w0 _ ?side1 ?side2 A3.out).mono ?_); (case side1 => repeat (first | (with_reducible first | exact HB.out | apply below_alloc | apply pw_below_drewN | apply below_drew1) | exact HB.out)); (case side2 => exact Kd.R_tight rfl HO0.out); rintro e w5 ⟨rfl, hy0, hb, hkp⟩; refine ⟨_, rfl, ?_⟩; have n0_ := Aside0.mk (Kd.R_reok rfl hy0 (fun k_ e_ => HO0.out.1 k_ e_)); have n1_ := Aside0.mk (Kept.then_ (S := (fun k_ => P0_ k_)) (by repeat (first | (with_reducible first | exact HK.out | apply Kept.alloc | apply Kept.drewN | apply Kept.drew) | exact HK.out)) hkp (fun k_ hs_ => (fun e_ => (HO0.out.1 k_ e_.symm)) hs_)); have n2_ := Aside0.mk (hb); clear HO0; clear HK; clear HB; have HO0 := n0_; have HK := n1_; have HB := n2_; clear n0_ n1_ n2_; (try clear hb); (try clear hkp); (try clear hy0)))
  first | go_end0 | ((try simp only [Exit.inBlock, Exit.then]); refine bodyPost_ret (results_none rfl _ _ _) rfl ?_)
  exact ⟨by first | rfl | (simp [errW_none, errW_some] <;> rfl) | (simp [*, errW_none, errW_some] <;> rfl), by (with_reducible repeat (first | apply Kd.R_alloc | apply Kd.R_drewN | apply Kd.R_drew)); exact HO0.out, by repeat (first | (with_reducible first | exact HB.out | apply below_alloc | apply pw_below_drewN | apply below_drew1) | exact HB.out), by repeat (first | (with_reducible first | exact HK.out | apply Kept.alloc | apply Kept.drewN | apply Kept.drew) | exact HK.out)⟩

end Go.Proofs.Ytkhfgflcanmefaa.PAll
end
section
namespace Go.Proofs.Ytkhfgflcanmefaa.PAll
open Go.RowKit Go.Proofs.YtkhfgflcanmefaaW.PrintWords Go.Proofs.YtkhfgflcanmefaaW.PrintLast Go.Proofs.YtkhfgflcanmefaaW.PrintMore
attribute [local go_sem] max2_int min2_int max_two min_two max_three min_three max_four min_four   -- for this text's walks alone
set_option linter.unusedVariables false
set_option linter.unusedSimpArgs false

def job_Due.l0 : Nat → Int → List Int → List (S32) → Int → Int → Option (List Int)
 | 0, _, _, _, _, _ => none
 | k + 1, x1, x6, x13, x14, x15 => if x15 < x14 then (if 0 ≤ x15 then (if x15 < (x13.length : Int) then (if (wrap64 (((rd_T32 x13 x15).f8) + ((rd_T32 x13 x15).f3))) ≤ x1 then (if x6.length < 17592186044416 then (job_Due.l0 k x1 (x6 ++ [(rd_T32 x13 x15).f0]) x13 x14 (wrap64 (x15 + 1))) else (none)) else (job_Due.l0 k x1 x6 x13 x14 (wrap64 (x15 + 1)))) else (none)) else (none)) else ((slices_Clip_int.f x6).bind fun t316 => (some t316))
def job_Due.f (k : Nat) (l0 : List (S32)) (a1 : Int) : Option (List Int) := (job_running.f k l0).bind fun t307 => ((slices_SortStableFunc_Job__job_Due_1.f k t307).bind fun t310 => (job_Due.l0 k a1 ([] : List Int) t310 (t307.length : Int) 0))
theorem job_Due.mono_l : ∀ k, (∀ y0 y1 y2 y3 y4, LeO (job_Due.l0 k y0 y1 y2 y3 y4) (job_Due.l0 (k + 1) y0 y1 y2 y3 y4))
 | 0 => fun _ _ _ _ _ r h => by simp [job_Due.l0] at h
 | k + 1 => by
  have ih0 := job_Due.mono_l k
  ·intro y0 y1 y2 y3 y4
   unfold job_Due.l0
   repeat' first
   | (with_reducible exact ih0 _ _ _ _ _)
   | (with_reducible exact job_running.mono _ _)
   | (with_reducible exact slices_SortStableFunc_Job__job_Due_1.mono _ _)
   | (with_reducible exact LeO.refl _)
   | (with_reducible exact LeO.none _)
   | (with_reducible refine LeO.ite ?_ ?_)
   | (with_reducible refine LeO.bind ?_ (fun _ => ?_))
   | exact ih0 _ _ _ _ _
   | exact job_running.mono _ _
   | exact slices_SortStableFunc_Job__job_Due_1.mono _ _
   | exact LeO.none _
   | refine LeO.ite ?_ ?_
   | refine LeO.bind ?_ (fun _ => ?_)
theorem job_Due.mono : ∀ a0 a1 k, LeO (job_Due.f k a0 a1) (job_Due.f (k + 1) a0 a1) := by
 intro a0 a1 k
 have ih0 := job_Due.mono_l k
 unfold job_Due.f
 repeat' first
   | (with_reducible exact ih0 _ _ _ _ _)
   | (with_reducible exact job_running.mono _ _)
   | (with_reducible exact slices_SortStableFunc_Job__job_Due_1.mono _ _)
   | (with_reducible exact LeO.refl _)
   | (with_reducible exact LeO.none _)
   | (with_reducible refine LeO.ite ?_ ?_)
   | (with_reducible refine LeO.bind ?_ (fun _ => ?_))
   | exact ih0 _ _ _ _ _
   | exact job_running.mono _ _
   | exact slices_SortStableFunc_Job__job_Due_1.mono _ _
   | exact LeO.none _
   | refine LeO.ite ?_ ?_
   | refine LeO.bind ?_ (fun _ => ?_)
set_option maxHeartbeats 8000000 in
set_option maxRecDepth 100000 in
theorem job_Due.calls (k : Nat) (A0 : Option Addr) (c0 : Nat) (l0 : List (S32)) (a1 : Int) (r : List Int) (w : World) (hr0 : Kd.C k32 w A0 l0.length l0) (hc0 : l0.length ≤ c0) (h : job_Due.f k l0 a1 = some r) :
  Calls Try.prog 27 #[.slice A0 l0.length c0, .int .i64 a1] w fun e w' => ∃ v0_ : Value, e = .returned (v0_) ∧ Kd.V (Kd.int .i64) 3 w' w.heap.size (fun k_ => (w.heap.size ≤ k_)) v0_ r ∧ Below w.heap.size w w' := by
 have hu32 := Try.underlying32
 have HR0 := Aside0.mk hr0
 have HC0 := Aside0.mk hc0
 clear hr0; clear hc0
 have HB := Aside0.mk (Below.refl w.heap.size w)
 have H : ((job_running.f k l0).bind fun t307 => ((slices_SortStableFunc_Job__job_Due_1.f k t307).bind fun t310 => (job_Due.l0 k a1 ([] : List Int) t310 (t307.length : Int) 0))) = some r := h
 clear h
 replace H := Option.bind_eq_some_iff.mp H
 obtain ⟨t307, A30, H⟩ := H
 replace H : ((slices_SortStableFunc_Job__job_Due_1.f k t307).bind fun t310 => (job_Due.l0 k a1 ([] : List Int) t310 (t307.length : Int) 0)) = some r := H
 have A3 := Aside0.mk A30
 clear A30
 replace H := Option.bind_eq_some_iff.mp H
 obtain ⟨t310, A40, H⟩ := H
 replace H : (job_Due.l0 k a1 ([] : List Int) t310 (t307.length : Int) 0) = some r := H
 have A4 := Aside0.mk A40
 clear A40
 have H' := Aside0.mk H
 clear H
 go_enter Try.func27, Try.ntmps27
 go_wp2_with (first | ((with_reducible refine gate_callee (f := 41) rfl ?_); refine goesL_ (some 10) rfl rfl Try.func41 (by kernel_rfl) rfl #[.slice A0 l0.length c0] rfl mt ?_; (with_reducible refine (job_running.calls k _ _ l0 t307 _ ?side1 ?side2 A3.out).mono ?_); (case side1 => exact mC HR0.out); (case side2 => exact HC0.out); rintro e w5 ⟨v308, rfl, ho0, hb⟩; refine ⟨_, rfl, ?_⟩; have n0_ := Aside0.mk (Kd.R_lower (Kd.R_newM (M := fun k_ => (w.heap.size ≤ k_)) ho0 (below_size (mB HB.out)) (fun k_ h_ => h_)) (below_size (mB HB.out))); have n1_ := Aside0.mk (below_step (mB HB.out) hb); clear HB; have HO309 := n0_; have HB := n1_; clear n0_ n1_; (try clear hb); (try clear hb2); (try clear hk); (try clear hi); (try clear ho0); obtain ⟨Ao6, co6, eo6⟩ := Kd.R_slice HO309.out; subst eo6) | ((with_reducible refine gate_callee (f := 46) rfl ?_); refine goesL_ (some 12) rfl rfl Try.func46 (by kernel_rfl) rfl #[.slice Ao6 t307.length co6, .func (.func 47) #[] #[]] rfl mt ?_; (with_reducible refine (slices_SortStableFunc_Job__job_Due_1.calls k (fun k_ => some k_ = (.slice Ao6 t307.length co6 : Value).ownBlock) (.slice Ao6 t307.length co6) t307  t310 w _ ?side1 ?side2 A4.out).mono ?_); (case side1 => repeat (first | (with_reducible first | exact HB.out | apply below_alloc | apply pw_below_drewN | apply below_drew1) | exact HB.out)); (case side2 => exact Kd.R_tight rfl HO309.out); rintro e w7 ⟨rfl, hy0, hb, hkp⟩; refine ⟨_, rfl, ?_⟩; have n0_ := Aside0.mk (Kd.R_reok rfl hy0 (fun k_ e_ => HO309.out.1 k_ e_)); have n1_ := Aside0.mk (hb); clear HO309; clear HB; have HO309 := n0_; have HB := n1_; clear n0_ n1_; (try clear hb); (try clear hkp); (try clear hy0)))
 go_loopg [6, 15] k (fun kq v6 v15 w' => ∃ (x6_1 : List Int) (x15_1 : Int), v15 = .int .i64 x15_1 ∧ Aside0 (job_Due.l0 kq a1 x6_1 t310 (t307.length : Int) x15_1 = some r) ∧ Aside0 (kq ≤ k) ∧ Aside0 (Kd.R (Kd.int .i64) 3 w' w.heap.size (fun k_ => (w.heap.size ≤ k_)) v6 x6_1) ∧ Aside0 (Kd.R k32 32 w' w.heap.size (fun k_ => (w.heap.size ≤ k_)) (.slice Ao6 t307.length co6) t310) ∧ Aside0 (Below w.heap.size w w'))
 case atStart => exact ⟨(([] : List Int)), (0), ez, H', ⟨Nat.le_refl _⟩, ⟨by first | exact Kd.R_nil _ _ _ _ _ | exact Kd.N_nil _ _ _ _ _ | exact Kd.V_nil _ _ _ _ _ | exact Kd.Q_nil _ _ _ _ _ | exact Kd.S_nil _ _ _ _ _⟩, ⟨by (with_reducible repeat (first | apply Kd.R_alloc | apply Kd.R_drewN | apply Kd.R_drew)); exact Kd.R_mono HO309.out (fun _ hk => hk.1)⟩, ⟨mB HB.out⟩⟩
 case round =>
  clear H'
  (try clear c2); (try clear p2); (try clear c4); (try clear c7)
  obtain ⟨x6_1, x15_1, rfl, HA, HK1, HO_6, HO_13, HB⟩ := hrel
  have hl13_1 := (Kd.R_reads' HO_13.out).1
  rw [hl13_1] at HO_13
  (try simp only [hl13_1])
  (try simp only [hl13_1] at HO_6)
  cases gk with
  | zero => exact absurd HA.out (by simp [job_Due.l0])
  | succ k1 =>
   have H := HA.out
   clear HA
   simp only [job_Due.l0] at H
   by_cases c8 : x15_1 < (t307.length : Int)
   ·rw [if_pos c8] at H
    have c8b0 : decide (x15_1 < (t307.length : Int)) = true := decide_eq_true c8
    clear c8
    by_cases c9 : 0 ≤ x15_1
    ·rw [if_pos c9] at H
     have c9b0 : decide (0 ≤ x15_1) = true := decide_eq_true c9
     clear c9
     by_cases c10 : x15_1 < (t310.length : Int)
     ·rw [if_pos c10] at H
      have c10b0 : decide (x15_1 < (t310.length : Int)) = true := decide_eq_true c10
      clear c10
      by_cases c11 : (wrap64 (((rd_T32 t310 x15_1).f8) + ((rd_T32 t310 x15_1).f3))) ≤ a1
      ·rw [if_pos c11] at H
       have c11b0 : decide ((wrap64 (((rd_T32 t310 x15_1).f8) + ((rd_T32 t310 x15_1).f3))) ≤ a1) = true := decide_eq_true c11
       clear c11
       by_cases c12 : x6_1.length < 17592186044416
       ·rw [if_pos c12] at H
        have LMc12 := Aside0.mk c12
        clear c12
        obtain ⟨y313, hy313⟩ : ∃ y_ : List Int, y_ = (x6_1 ++ [(rd_T32 t310 x15_1).f0]) := ⟨_, rfl⟩
        replace H : (job_Due.l0 k1 a1 y313 t310 (t307.length : Int) (wrap64 (x15_1 + 1))) = some r := mH hy313 H
        have Ny313 := Aside0.mk hy313
        clear hy313
        have H' := Aside0.mk H
        clear H
        have p311 : 0 ≤ (x15_1 : Int) := oda
        have q311 : x15_1 < (t310.length : Int) := oda
        obtain ⟨ad311, e311, hx311_0, hx311_1, hx311_2, hx311_3, hx311_4, hx311_5, hx311_6, hx311_7, hx311_8, hx311_9, hx311_10, hx311_11⟩ := at_T32 (Kd.R_reads' HO_13.out).2.2 x15_1 p311 q311
        cases e311
        replace p311 := eq_true p311
        replace q311 := eq_true q311
        go_wp2_with (first | ((with_reducible refine gate_dst (N := 8) rfl ?_); refine box_event ?hg (N := 8) ?hd (cs := #[.int .i64 0, .int .i64 0, .int .i64 0, .int .i64 0, .int .i64 0, .int .i64 0, .int .i64 0, .int .i64 0, .int .i64 0, .int .i64 0, .int .i64 0, .slice none 0 0]) (t := 32) ?hr ?_; (case hd => rfl); (case hg => rfl); (case hr => first | (go_simp; done) | (go_simp; rfl)); intro gb312 hg w13 hbox hb; have n0_ := Aside0.mk (Kd.R_below (mR HO_6.out) hb); have n1_ := Aside0.mk (Kd.R_below (Kd.R_elderB (mR HO_13.out) gb312 (Nat.le_of_eq hg.symm)) hb); have n2_ := Aside0.mk (below_step (mB HB.out) hb); have n3_ := Aside0.mk (hbox); have n4_ := Aside0.mk ((by rw [hg]; exact (below_size (mB HB.out)) : w.heap.size ≤ gb312)); have n5_ := Aside0.mk ((by rw [hg]; exact (below_size (mB HB.out)) : w.heap.size ≤ gb312)); clear HO_6; clear HO_13; clear HB; have HO_6 := n0_; have HO_13 := n1_; have HB := n2_; have BK312 := n3_; have GW312 := n4_; have GE312 := n5_; clear n0_ n1_ n2_ n3_ n4_ n5_; clear hb hbox hg; have hcz14_0 : w13.cell? ⟨gb312, 0, none⟩ = some (.int .i64 0) := (blk_cell BK312.out 0).trans rfl; have hcz14_1 : w13.cell? ⟨gb312, 1, none⟩ = some (.int .i64 0) := (blk_cell BK312.out 1).trans rfl; have hcz14_2 : w13.cell? ⟨gb312, 2, none⟩ = some (.int .i64 0) := (blk_cell BK312.out 2).trans rfl; have hcz14_3 : w13.cell? ⟨gb312, 3, none⟩ = some (.int .i64 0) := (blk_cell BK312.out 3).trans rfl; have hcz14_4 : w13.cell? ⟨gb312, 4, none⟩ = some (.int .i64 0) := (blk_cell BK312.out 4).trans rfl; have hcz14_5 : w13.cell? ⟨gb312, 5, none⟩ = some (.int .i64 0) := (blk_cell BK312.out 5).trans rfl; have hcz14_6 : w13.cell? ⟨gb312, 6, none⟩ = some (.int .i64 0) := (blk_cell BK312.out 6).trans rfl; have hcz14_7 : w13.cell? ⟨gb312, 7, none⟩ = some (.int .i64 0) := (blk_cell BK312.out 7).trans rfl; have hcz14_8 : w13.cell? ⟨gb312, 8, none⟩ = some (.int .i64 0) := (blk_cell BK312.out 8).trans rfl; have hcz14_9 : w13.cell? ⟨gb312, 9, none⟩ = some (.int .i64 0) := (blk_cell BK312.out 9).trans rfl; have hcz14_10 : w13.cell? ⟨gb312, 10, none⟩ = some (.int .i64 0) := (blk_cell BK312.out 10).trans rfl; have hcz14_11 : w13.cell? ⟨gb312, 11, none⟩ = some (.slice none 0 0) := (blk_cell BK312.out 11).trans rfl; have hfz14_0 := blk_frozen BK312.out 0; have hfz14_1 := blk_frozen BK312.out 1; have hfz14_2 := blk_frozen BK312.out 2; have hfz14_3 := blk_frozen BK312.out 3; have hfz14_4 := blk_frozen BK312.out 4; have hfz14_5 := blk_frozen BK312.out 5; have hfz14_6 := blk_frozen BK312.out 6; have hfz14_7 := blk_frozen BK312.out 7; have hfz14_8 := blk_frozen BK312.out 8; have hfz14_9 := blk_frozen BK312.out 9; have hfz14_10 := blk_frozen BK312.out 10; have hfz14_11 := blk_frozen BK312.out 11) | ((with_reducible refine gate_builtin (b := .append) (xs := #[.tmp 26, .tmp 29]) rfl ?_); at_builtin; refine Kd.R_append (Kd.int .i64) (w0 := w) w.heap.size rfl (.tmp 26) (.tmp 29) 24 3 (.int .i64 0) 8 rfl Try.underlying24 info3 rfl (by decide) (by omega) u6 x6_1 ((rd_T32 t310 x15_1).f0) [.int .i64 ((rd_T32 t310 x15_1).f0)] (fun k_ => (w.heap.size ≤ k_)) (fun _ => False) rfl (by first | (go_simp; done) | (go_simp; rfl)) ?aP (fun _ hk => hk.elim) ?aF ?aO ?aB ?aS ?aL ?_; (case aP => exact rfl); (case aB => exact (mBs HB.out)); (case aF => exact (fun k_ hk => (Nat.le_trans (below_size (mBs HB.out)) hk))); (case aO => exact (by (with_reducible repeat (first | apply Kd.R_alloc | apply Kd.R_drewN | apply Kd.R_drew)); exact Kd.R_mono (Kd.R_fa gb312 11 (Kd.R_fa gb312 10 (Kd.R_fa gb312 9 (Kd.R_fa gb312 8 (Kd.R_fa gb312 7 (Kd.R_fa gb312 6 (Kd.R_fa gb312 5 (Kd.R_fa gb312 4 (Kd.R_fa gb312 3 (Kd.R_fa gb312 2 (Kd.R_fa gb312 1 (Kd.R_fa gb312 0 (Kd.R_types HO_6.out BK312.out (by decide)) (.int .i64 ((rd_T32 t310 x15_1).f0))) (.int .i64 ((rd_T32 t310 x15_1).f1))) (.int .i64 ((rd_T32 t310 x15_1).f2))) (.int .i64 ((rd_T32 t310 x15_1).f3))) (.int .i64 ((rd_T32 t310 x15_1).f4))) (.int .i64 ((rd_T32 t310 x15_1).f5))) (.int .i64 ((rd_T32 t310 x15_1).f6))) (.int .i64 ((rd_T32 t310 x15_1).f7))) (.int .i64 ((rd_T32 t310 x15_1).f8))) (.int .i64 ((rd_T32 t310 x15_1).f9))) (.int .i64 ((rd_T32 t310 x15_1).f10))) (.slice ((rd_T32 t310 x15_1).f11).A ((rd_T32 t310 x15_1).f11).n ((rd_T32 t310 x15_1).f11).c)) (fun _ hk => hk.1))); (case aS => exact (below_size (mBs HB.out))); (case aL => have := LMc12.out; omega); intro v314 w15 ho hb hg hat; rw [← Ny313.out] at ho; have n0_ := Aside0.mk (Kd.R_over' (by (with_reducible repeat (first | apply Kd.R_alloc | apply Kd.R_drewN | apply Kd.R_drew)); exact (Kd.R_mono (Kd.R_fa gb312 11 (Kd.R_fa gb312 10 (Kd.R_fa gb312 9 (Kd.R_fa gb312 8 (Kd.R_fa gb312 7 (Kd.R_fa gb312 6 (Kd.R_fa gb312 5 (Kd.R_fa gb312 4 (Kd.R_fa gb312 3 (Kd.R_fa gb312 2 (Kd.R_fa gb312 1 (Kd.R_fa gb312 0 (Kd.R_mono HO_13.out (fun k_ hk => (⟨hk, hk.2⟩ : _ ∧ k_ ≠ gb312))) (.int .i64 ((rd_T32 t310 x15_1).f0))) (.int .i64 ((rd_T32 t310 x15_1).f1))) (.int .i64 ((rd_T32 t310 x15_1).f2))) (.int .i64 ((rd_T32 t310 x15_1).f3))) (.int .i64 ((rd_T32 t310 x15_1).f4))) (.int .i64 ((rd_T32 t310 x15_1).f5))) (.int .i64 ((rd_T32 t310 x15_1).f6))) (.int .i64 ((rd_T32 t310 x15_1).f7))) (.int .i64 ((rd_T32 t310 x15_1).f8))) (.int .i64 ((rd_T32 t310 x15_1).f9))) (.int .i64 ((rd_T32 t310 x15_1).f10))) (.slice ((rd_T32 t310 x15_1).f11).A ((rd_T32 t310 x15_1).f11).n ((rd_T32 t310 x15_1).f11).c)) (fun _ h_ => h_.1))) (Kd.R_typed (by (with_reducible repeat (first | apply Kd.R_alloc | apply Kd.R_drewN | apply Kd.R_drew)); exact (Kd.R_mono (Kd.R_fa gb312 11 (Kd.R_fa gb312 10 (Kd.R_fa gb312 9 (Kd.R_fa gb312 8 (Kd.R_fa gb312 7 (Kd.R_fa gb312 6 (Kd.R_fa gb312 5 (Kd.R_fa gb312 4 (Kd.R_fa gb312 3 (Kd.R_fa gb312 2 (Kd.R_fa gb312 1 (Kd.R_fa gb312 0 (Kd.R_types HO_6.out BK312.out (by decide)) (.int .i64 ((rd_T32 t310 x15_1).f0))) (.int .i64 ((rd_T32 t310 x15_1).f1))) (.int .i64 ((rd_T32 t310 x15_1).f2))) (.int .i64 ((rd_T32 t310 x15_1).f3))) (.int .i64 ((rd_T32 t310 x15_1).f4))) (.int .i64 ((rd_T32 t310 x15_1).f5))) (.int .i64 ((rd_T32 t310 x15_1).f6))) (.int .i64 ((rd_T32 t310 x15_1).f7))) (.int .i64 ((rd_T32 t310 x15_1).f8))) (.int .i64 ((rd_T32 t310 x15_1).f9))) (.int .i64 ((rd_T32 t310 x15_1).f10))) (.slice ((rd_T32 t310 x15_1).f11).A ((rd_T32 t310 x15_1).f11).n ((rd_T32 t310 x15_1).f11).c)) (fun _ h_ => h_.1)))) (by decide) hg); have n1_ := Aside0.mk (blk_grown (g := gb312) (o := .cells (cJ (rd_T32 t310 x15_1)) 32 (0, 0)) (by (with_reducible repeat first | apply blk_drewN | apply blk_drew | apply blk_alloc); refine blk_put (cs := #[.int .i64 ((rd_T32 t310 x15_1).f0), .int .i64 ((rd_T32 t310 x15_1).f1), .int .i64 ((rd_T32 t310 x15_1).f2), .int .i64 ((rd_T32 t310 x15_1).f3), .int .i64 ((rd_T32 t310 x15_1).f4), .int .i64 ((rd_T32 t310 x15_1).f5), .int .i64 ((rd_T32 t310 x15_1).f6), .int .i64 ((rd_T32 t310 x15_1).f7), .int .i64 ((rd_T32 t310 x15_1).f8), .int .i64 ((rd_T32 t310 x15_1).f9), .int .i64 ((rd_T32 t310 x15_1).f10), .slice none 0 0]) ?_ 11 _ rfl; (with_reducible repeat first | apply blk_drewN | apply blk_drew | apply blk_alloc); refine blk_put (cs := #[.int .i64 ((rd_T32 t310 x15_1).f0), .int .i64 ((rd_T32 t310 x15_1).f1), .int .i64 ((rd_T32 t310 x15_1).f2), .int .i64 ((rd_T32 t310 x15_1).f3), .int .i64 ((rd_T32 t310 x15_1).f4), .int .i64 ((rd_T32 t310 x15_1).f5), .int .i64 ((rd_T32 t310 x15_1).f6), .int .i64 ((rd_T32 t310 x15_1).f7), .int .i64 ((rd_T32 t310 x15_1).f8), .int .i64 ((rd_T32 t310 x15_1).f9), .int .i64 0, .slice none 0 0]) ?_ 10 _ rfl; (with_reducible repeat first | apply blk_drewN | apply blk_drew | apply blk_alloc); refine blk_put (cs := #[.int .i64 ((rd_T32 t310 x15_1).f0), .int .i64 ((rd_T32 t310 x15_1).f1), .int .i64 ((rd_T32 t310 x15_1).f2), .int .i64 ((rd_T32 t310 x15_1).f3), .int .i64 ((rd_T32 t310 x15_1).f4), .int .i64 ((rd_T32 t310 x15_1).f5), .int .i64 ((rd_T32 t310 x15_1).f6), .int .i64 ((rd_T32 t310 x15_1).f7), .int .i64 ((rd_T32 t310 x15_1).f8), .int .i64 0, .int .i64 0, .slice none 0 0]) ?_ 9 _ rfl; (with_reducible repeat first | apply blk_drewN | apply blk_drew | apply blk_alloc); refine blk_put (cs := #[.int .i64 ((rd_T32 t310 x15_1).f0), .int .i64 ((rd_T32 t310 x15_1).f1), .int .i64 ((rd_T32 t310 x15_1).f2), .int .i64 ((rd_T32 t310 x15_1).f3), .int .i64 ((rd_T32 t310 x15_1).f4), .int .i64 ((rd_T32 t310 x15_1).f5), .int .i64 ((rd_T32 t310 x15_1).f6), .int .i64 ((rd_T32 t310 x15_1).f7), .int .i64 0, .int .i64 0, .int .i64 0, .slice none 0 0]) ?_ 8 _ rfl; (with_reducible repeat first | apply blk_drewN | apply blk_drew | apply blk_alloc); refine blk_put (cs := #[.int .i64 ((rd_T32 t310 x15_1).f0), .int .i64 ((rd_T32 t310 x15_1).f1), .int .i64 ((rd_T32 t310 x15_1).f2), .int .i64 ((rd_T32 t310 x15_1).f3), .int .i64 ((rd_T32 t310 x15_1).f4), .int .i64 ((rd_T32 t310 x15_1).f5), .int .i64 ((rd_T32 t310 x15_1).f6), .int .i64 0, .int .i64 0, .int .i64 0, .int .i64 0, .slice none 0 0]) ?_ 7 _ rfl; (with_reducible repeat first | apply blk_drewN | apply blk_drew | apply blk_alloc); refine blk_put (cs := #[.int .i64 ((rd_T32 t310 x15_1).f0), .int .i64 ((rd_T32 t310 x15_1).f1), .int .i64 ((rd_T32 t310 x15_1).f2), .int .i64 ((rd_T32 t310 x15_1).f3), .int .i64 ((rd_T32 t310 x15_1).f4), .int .i64 ((rd_T32 t310 x15_1).f5), .int .i64 0, .int .i64 0, .int .i64 0, .int .i64 0, .int .i64 0, .slice none 0 0]) ?_ 6 _ rfl; (with_reducible repeat first | apply blk_drewN | apply blk_drew | apply blk_alloc); refine blk_put (cs := #[.int .i64 ((rd_T32 t310 x15_1).f0), .int .i64 ((rd_T32 t310 x15_1).f1), .int .i64 ((rd_T32 t310 x15_1).f2), .int .i64 ((rd_T32 t310 x15_1).f3), .int .i64 ((rd_T32 t310 x15_1).f4), .int .i64 0, .int .i64 0, .int .i64 0, .int .i64 0, .int .i64 0, .int .i64 0, .slice none 0 0]) ?_ 5 _ rfl; (with_reducible repeat first | apply blk_drewN | apply blk_drew | apply blk_alloc); refine blk_put (cs := #[.int .i64 ((rd_T32 t310 x15_1).f0), .int .i64 ((rd_T32 t310 x15_1).f1), .int .i64 ((rd_T32 t310 x15_1).f2), .int .i64 ((rd_T32 t310 x15_1).f3), .int .i64 0, .int .i64 0, .int .i64 0, .int .i64 0, .int .i64 0, .int .i64 0, .int .i64 0, .slice none 0 0]) ?_ 4 _ rfl; (with_reducible repeat first | apply blk_drewN | apply blk_drew | apply blk_alloc); refine blk_put (cs := #[.int .i64 ((rd_T32 t310 x15_1).f0), .int .i64 ((rd_T32 t310 x15_1).f1), .int .i64 ((rd_T32 t310 x15_1).f2), .int .i64 0, .int .i64 0, .int .i64 0, .int .i64 0, .int .i64 0, .int .i64 0, .int .i64 0, .int .i64 0, .slice none 0 0]) ?_ 3 _ rfl; (with_reducible repeat first | apply blk_drewN | apply blk_drew | apply blk_alloc); refine blk_put (cs := #[.int .i64 ((rd_T32 t310 x15_1).f0), .int .i64 ((rd_T32 t310 x15_1).f1), .int .i64 0, .int .i64 0, .int .i64 0, .int .i64 0, .int .i64 0, .int .i64 0, .int .i64 0, .int .i64 0, .int .i64 0, .slice none 0 0]) ?_ 2 _ rfl; (with_reducible repeat first | apply blk_drewN | apply blk_drew | apply blk_alloc); refine blk_put (cs := #[.int .i64 ((rd_T32 t310 x15_1).f0), .int .i64 0, .int .i64 0, .int .i64 0, .int .i64 0, .int .i64 0, .int .i64 0, .int .i64 0, .int .i64 0, .int .i64 0, .int .i64 0, .slice none 0 0]) ?_ 1 _ rfl; (with_reducible repeat first | apply blk_drewN | apply blk_drew | apply blk_alloc); refine blk_put (cs := #[.int .i64 0, .int .i64 0, .int .i64 0, .int .i64 0, .int .i64 0, .int .i64 0, .int .i64 0, .int .i64 0, .int .i64 0, .int .i64 0, .int .i64 0, .slice none 0 0]) ?_ 0 _ rfl; (with_reducible repeat first | apply blk_drewN | apply blk_drew | apply blk_alloc); exact BK312.out) hg (Kd.R_ne HO_6.out BK312.out (by decide))); have n2_ := Aside0.mk (hb); have n3_ := Aside0.mk (ho); clear HO_13; clear BK312; clear HB; clear HO_6; have HO_13 := n0_; have BK312 := n1_; have HB := n2_; have HO315 := n3_; clear n0_ n1_ n2_ n3_; clear ho hb hg hat))
        (try simp only [← hl13_1])
        go_roundg k1
        case measure => have := HK1.out; omega
        case rel => exact ⟨(y313), (wrap64 (x15_1 + 1)), ez, H', ⟨by have := HK1.out; omega⟩, ⟨by (try simp only [hl13_1]); (with_reducible repeat (first | apply Kd.R_alloc | apply Kd.R_drewN | apply Kd.R_drew)); exact HO315.out⟩, ⟨by (try simp only [hl13_1]); (with_reducible repeat (first | apply Kd.R_alloc | apply Kd.R_drewN | apply Kd.R_drew)); exact Kd.R_mono HO_13.out (fun _ hk => hk.1)⟩, ⟨mBs HB.out⟩⟩
       ·rw [if_neg c12] at H
        exact absurd H (by simp)
      ·rw [if_neg c11] at H
       have c11b0 : decide ((wrap64 (((rd_T32 t310 x15_1).f8) + ((rd_T32 t310 x15_1).f3))) ≤ a1) = false := decide_eq_false c11
       clear c11
       have H' := Aside0.mk H
       clear H
       have p311 : 0 ≤ (x15_1 : Int) := oda
       have q311 : x15_1 < (t310.length : Int) := oda
       obtain ⟨ad311, e311, hx311_0, hx311_1, hx311_2, hx311_3, hx311_4, hx311_5, hx311_6, hx311_7, hx311_8, hx311_9, hx311_10, hx311_11⟩ := at_T32 (Kd.R_reads' HO_13.out).2.2 x15_1 p311 q311
       cases e311
       replace p311 := eq_true p311
       replace q311 := eq_true q311
       go_wp2_with (first | ((with_reducible refine gate_dst (N := 8) rfl ?_); refine box_event ?hg (N := 8) ?hd (cs := #[.int .i64 0, .int .i64 0, .int .i64 0, .int .i64 0, .int .i64 0, .int .i64 0, .int .i64 0, .int .i64 0, .int .i64 0, .int .i64 0, .int .i64 0, .slice none 0 0]) (t := 32) ?hr ?_; (case hd => rfl); (case hg => rfl); (case hr => first | (go_simp; done) | (go_simp; rfl)); intro gb312 hg w16 hbox hb; have n0_ := Aside0.mk (Kd.R_below (mR HO_6.out) hb); have n1_ := Aside0.mk (Kd.R_below (Kd.R_elderB (mR HO_13.out) gb312 (Nat.le_of_eq hg.symm)) hb); have n2_ := Aside0.mk (below_step (mB HB.out) hb); have n3_ := Aside0.mk (hbox); have n4_ := Aside0.mk ((by rw [hg]; exact (below_size (mB HB.out)) : w.heap.size ≤ gb312)); have n5_ := Aside0.mk ((by rw [hg]; exact (below_size (mB HB.out)) : w.heap.size ≤ gb312)); clear HO_6; clear HO_13; clear HB; have HO_6 := n0_; have HO_13 := n1_; have HB := n2_; have BK312 := n3_; have GW312 := n4_; have GE312 := n5_; clear n0_ n1_ n2_ n3_ n4_ n5_; clear hb hbox hg; have hcz17_0 : w16.cell? ⟨gb312, 0, none⟩ = some (.int .i64 0) := (blk_cell BK312.out 0).trans rfl; have hcz17_1 : w16.cell? ⟨gb312, 1, none⟩ = some (.int .i64 0) := (blk_cell BK312.out 1).trans rfl; have hcz17_2 : w16.cell? ⟨gb312, 2, none⟩ = some (.int .i64 0) := (blk_cell BK312.out 2).trans rfl; have hcz17_3 : w16.cell? ⟨gb312, 3, none⟩ = some (.int .i64 0) := (blk_cell BK312.out 3).trans rfl; have hcz17_4 : w16.cell? ⟨gb312, 4, none⟩ = some (.int .i64 0) := (blk_cell BK312.out 4).trans rfl; have hcz17_5 : w16.cell? ⟨gb312, 5, none⟩ = some (.int .i64 0) := (blk_cell BK312.out 5).trans rfl; have hcz17_6 : w16.cell? ⟨gb312, 6, none⟩ = some (.int .i64 0) := (blk_cell BK312.out 6).trans rfl; have hcz17_7 : w16.cell? ⟨gb312, 7, none⟩ = some (.int .i64 0) := (blk_cell BK312.out 7).trans rfl; have hcz17_8 : w16.cell? ⟨gb312, 8, none⟩ = some (.int .i64 0) := (blk_cell BK312.out 8).trans rfl; have hcz17_9 : w16.cell? ⟨gb312, 9, none⟩ = some (.int .i64 0) := (blk_cell BK312.out 9).trans rfl; have hcz17_10 : w16.cell? ⟨gb312, 10, none⟩ = some (.int .i64 0) := (blk_cell BK312.out 10).trans rfl; have hcz17_11 : w16.cell? ⟨gb312, 11, none⟩ = some (.slice none 0 0) := (blk_cell BK312.out 11).trans rfl; have hfz17_0 := blk_frozen BK312.out 0; have hfz17_1 := blk_frozen BK312.out 1; have hfz17_2 := blk_frozen BK312.out 2; have hfz17_3 := blk_frozen BK312.out 3; have hfz17_4 := blk_frozen BK312.out 4; have hfz17_5 := blk_frozen BK312.out 5; have hfz17_6 := blk_frozen BK312.out 6; have hfz17_7 := blk_frozen BK312.out 7; have hfz17_8 := blk_frozen BK312.out 8; have hfz17_9 := blk_frozen BK312.out 9; have hfz17_10 := blk_frozen BK312.out 10; have hfz17_11 := blk_frozen BK312.out 11))
       (try simp only [← hl13_1])
       go_roundg k1
       case measure => have := HK1.out; omega
       case rel => exact ⟨(x6_1), (wrap64 (x15_1 + 1)), ez, H', ⟨by have := HK1.out; omega⟩, ⟨by (try simp only [hl13_1]); (with_reducible repeat (first | apply Kd.R_alloc | apply Kd.R_drewN | apply Kd.R_drew)); exact Kd.R_mono (Kd.R_fa gb312 11 (Kd.R_fa gb312 10 (Kd.R_fa gb312 9 (Kd.R_fa gb312 8 (Kd.R_fa gb312 7 (Kd.R_fa gb312 6 (Kd.R_fa gb312 5 (Kd.R_fa gb312 4 (Kd.R_fa gb312 3 (Kd.R_fa gb312 2 (Kd.R_fa gb312 1 (Kd.R_fa gb312 0 (Kd.R_types HO_6.out BK312.out (by decide)) (.int .i64 ((rd_T32 t310 x15_1).f0))) (.int .i64 ((rd_T32 t310 x15_1).f1))) (.int .i64 ((rd_T32 t310 x15_1).f2))) (.int .i64 ((rd_T32 t310 x15_1).f3))) (.int .i64 ((rd_T32 t310 x15_1).f4))) (.int .i64 ((rd_T32 t310 x15_1).f5))) (.int .i64 ((rd_T32 t310 x15_1).f6))) (.int .i64 ((rd_T32 t310 x15_1).f7))) (.int .i64 ((rd_T32 t310 x15_1).f8))) (.int .i64 ((rd_T32 t310 x15_1).f9))) (.int .i64 ((rd_T32 t310 x15_1).f10))) (.slice ((rd_T32 t310 x15_1).f11).A ((rd_T32 t310 x15_1).f11).n ((rd_T32 t310 x15_1).f11).c)) (fun _ hk => hk.1)⟩, ⟨by (try simp only [hl13_1]); (with_reducible repeat (first | apply Kd.R_alloc | apply Kd.R_drewN | apply Kd.R_drew)); exact Kd.R_mono (Kd.R_fa gb312 11 (Kd.R_fa gb312 10 (Kd.R_fa gb312 9 (Kd.R_fa gb312 8 (Kd.R_fa gb312 7 (Kd.R_fa gb312 6 (Kd.R_fa gb312 5 (Kd.R_fa gb312 4 (Kd.R_fa gb312 3 (Kd.R_fa gb312 2 (Kd.R_fa gb312 1 (Kd.R_fa gb312 0 (Kd.R_mono HO_13.out (fun k_ hk => (⟨hk, hk.2⟩ : _ ∧ k_ ≠ gb312))) (.int .i64 ((rd_T32 t310 x15_1).f0))) (.int .i64 ((rd_T32 t310 x15_1).f1))) (.int .i64 ((rd_T32 t310 x15_1).f2))) (.int .i64 ((rd_T32 t310 x15_1).f3))) (.int .i64 ((rd_T32 t310 x15_1).f4))) (.int .i64 ((rd_T32 t310 x15_1).f5))) (.int .i64 ((rd_T32 t310 x15_1).f6))) (.int .i64 ((rd_T32 t310 x15_1).f7))) (.int .i64 ((rd_T32 t310 x15_1).f8))) (.int .i64 ((rd_T32 t310 x15_1).f9))) (.int .i64 ((rd_T32 t310 x15_1).f10))) (.slice ((rd_T32 t310 x15_1).f11).A ((rd_T32 t310 x15_1).f11).n ((rd_T32 t310 x15_1).f11).c)) (fun _ hk => hk.1.1)⟩, ⟨mBs HB.out⟩⟩
     ·rw [if_neg c10] at H
      exact absurd H (by simp)
    ·rw [if_neg c9] at H
     exact absurd H (by simp)
   ·rw [if_neg c8] at H
    have c8b0 : decide (x15_1 < (t307.length : Int)) = false := decide_eq_false c8
    clear c8
    replace H := Option.bind_eq_some_iff.mp H
    obtain ⟨t316, A180, H⟩ := H
    replace H : (some t316) = some r := H
    have A18 := Aside0.mk A180
    clear A180
    obtain rfl := Option.some.inj H
    obtain ⟨Ao19, co19, eo19⟩ := Kd.R_slice HO_6.out
    subst eo19
    (try simp only [hl13_1] at c8b0)
    go_wp2_with (first | ((with_reducible refine gate_callee (f := 37) rfl ?_); refine goesL_ (some 33) rfl rfl Try.func37 (by kernel_rfl) rfl #[.slice Ao19 x6_1.length co19] rfl mt ?_; (with_reducible refine (slices_Clip_int.calls (fun k_ => some k_ = (.slice Ao19 x6_1.length co19 : Value).ownBlock) _ _ x6_1 t316 _ ?side1 A18.out).mono ?_); (case side1 => exact Kd.R_V (Kd.R_tight rfl (Kd.R_apart' (HO_6.out) (Kd.R_typed HO_13.out) (by decide)))); rintro e w20 ⟨v317, rfl, ho0, hb⟩; refine ⟨_, rfl, ?_⟩; have n0_ := Aside0.mk (Kd.R_below (mR HO_6.out) hb); have n1_ := Aside0.mk (Kd.R_below (mR HO_13.out) hb); have n2_ := Aside0.mk (Kd.V_lower (Kd.V_mono (ok' := fun k_ => (w.heap.size ≤ k_) ∧ some k_ ≠ (.slice Ao6 t310.length co6 : Value).ownBlock) ho0 (fun k_ hk_ => ⟨Or.elim hk_ (fun hs_ => ((Kd.R_apart' (HO_6.out) (Kd.R_typed HO_13.out) (by decide)).1 k_ hs_.symm).1) (fun hn_ => (Nat.le_trans (below_size (mB HB.out)) hn_)), Or.elim hk_ (fun hs_ => ((Kd.R_apart' (HO_6.out) (Kd.R_typed HO_13.out) (by decide)).1 k_ hs_.symm).2) (fun hn_ => (by have h_ := (Kd.fresh' (Kd.R_lt (mR HO_13.out)) k_ hn_); first | exact h_ | (simp only [hl13_1]; exact h_) | (simp only [hl13_1] at h_ ⊢; exact h_)))⟩)) (below_size (mB HB.out))); have n3_ := Aside0.mk (below_step (mB HB.out) hb); clear HO_6; clear HO_13; clear HB; have HO_6 := n0_; have HO_13 := n1_; have HO318 := n2_; have HB := n3_; clear n0_ n1_ n2_ n3_; (try clear hb); (try clear hb2); (try clear hk); (try clear hi); (try clear ho0)))
    go_ret
    exact ⟨_, by first | rfl | (simp [errW_none, errW_some] <;> rfl) | (simp [*, errW_none, errW_some] <;> rfl), by (with_reducible repeat (first | apply Kd.V_alloc | apply Kd.V_drewN | apply Kd.V_drew)); exact Kd.V_mono HO318.out (fun _ hk => hk.1), by repeat (first | (with_reducible first | exact HB.out | apply below_alloc | apply pw_below_drewN | apply below_drew1) | exact HB.out)⟩

end Go.Proofs.Ytkhfgflcanmefaa.PAll
end
section
namespace Go.Proofs.Ytkhfgflcanmefaa.PAll
open Go.RowKit Go.Proofs.YtkhfgflcanmefaaW.PrintWords Go.Proofs.YtkhfgflcanmefaaW.PrintLast Go.Proofs.YtkhfgflcanmefaaW.PrintMore
set_option linter.unusedVariables false
set_option linter.unusedSimpArgs false

set_option maxRecDepth 100000 in
theorem draws_none (w : World) : Calls Try.prog 50 #[.slice none 0 0] w fun e w' => e = .returned (.bool true) ∧ Below w.heap.size w w' := by
  have HB := Aside0.mk (Below.refl w.heap.size w)
  go_enter Try.func50, Try.ntmps50
  go_wp2
  go_loopg [8] 1 (fun kq v8 w' => v8 = .int .i64 0 ∧ Aside0 (Below w.heap.size w w'))
  case atStart => exact ⟨rfl, ⟨by repeat (first | (with_reducible first | exact HB.out | apply below_alloc | apply pw_below_drewN | apply below_drew1) | exact HB.out)⟩⟩
  case round =>
    obtain ⟨rfl, HB⟩ := hrel
    go_wp2
    go_ret
    exact ⟨rfl, by repeat (first | (with_reducible first | exact HB.out | apply below_alloc | apply pw_below_drewN | apply below_drew1) | exact HB.out)⟩
def job_Good.T8 : Bool × List (List Nat × List Nat) := (true, [([], []), ([0], [0]), ([1], [1]), ([2, 2], [2]), ([3], [3]), ([4, 3], [3, 4]), ([5, 3, 3], [3, 5]), ([3, 6], [3, 6]), ([7, 6], [7]), ([8], [8]), ([9, 8], [8, 9]), ([10, 8, 8], [8, 10]), ([8], [8]), ([12, 8], [8, 12]), ([11, 13, 8], [8, 11, 13]), ([8, 14], [8, 14]), ([15, 11], [15]), ([16], [16]), ([17, 16], [16, 17]), ([18, 16], [16, 18]), ([16, 19], [16, 19]), ([20, 16], [20]), ([21], [21]), ([22, 21], [21, 22]), ([23, 21, 21], [21, 23]), ([21, 24], [21, 24]), ([25, 24, 0, 1, 2, 3, 4, 5, 6, 7, 8, 9, 10, 11, 12, 13, 14, 15, 16, 17, 18, 19, 20, 21, 22, 23, 24, 25], [25])])
def job_Good.B8 : List Nat := [0, 1, 3, 7, 15, 31, 63, 127, 255, 511, 1023, 2047, 511, 4607, 16383, 32767, 65535, 131071, 262143, 524287, 1048575, 2097151, 4194303, 8388607, 16777215, 33554431, 67108863]
theorem job_Good.tab8 : rtab .any (opsOf Try.f29 8) = job_Good.T8 := by kernel_rfl
theorem job_Good.bits8 : waitsOk job_Good.T8.2 job_Good.B8 = true := by kernel_rfl
set_option maxHeartbeats 8000000 in
set_option maxRecDepth 100000 in
theorem good_awake (w : World) : Calls Try.prog 29 #[.agg #[.int .i64 3, .int .i64 0, .int .i64 2, .int .i64 10, .int .i64 0, .int .i64 0, .int .i64 0, .int .i64 3, .int .i64 5, .int .i64 9, .int .i64 0, .slice none 0 0]] w fun e w' => e = .returned (.bool true) ∧ Below w.heap.size w w' := by
  have hu32 := Try.underlying32
  have HB := Aside0.mk (Below.refl w.heap.size w)
  have F0 : Aside0 (job_in.f 5 0 1099511627776 = some true) := ⟨by decide +kernel⟩
  have F1 : Aside0 (job_in.f 9 0 4294967295 = some true) := ⟨by decide +kernel⟩
  have F2 : Aside0 (pool_Count.f 9 = some 2) := ⟨by decide +kernel⟩
  have F3 : Aside0 (job_in.f 0 0 7 = some true) := ⟨by decide +kernel⟩
  have F4 : Aside0 (job_in.f 2 1 32 = some true) := ⟨by decide +kernel⟩
  have F5 : Aside0 (job_in.f 10 1 1048576 = some true) := ⟨by decide +kernel⟩
  have F6 : Aside0 (job_in.f 0 0 7 = some true) := ⟨by decide +kernel⟩
  have F7 : Aside0 (job_in.f 0 0 1048576 = some true) := ⟨by decide +kernel⟩
  have F8 : Aside0 (job_in.f 0 0 1099511627776 = some true) := ⟨by decide +kernel⟩
  go_enter Try.func29, Try.ntmps29
  go_upto_region 1 with (first | ((with_reducible refine gate_dst (N := 1) rfl ?_); refine box_event ?hg (N := 1) ?hd (cs := #[.int .i64 3, .int .i64 0, .int .i64 2, .int .i64 10, .int .i64 0, .int .i64 0, .int .i64 0, .int .i64 3, .int .i64 5, .int .i64 9, .int .i64 0, .slice none 0 0]) (t := 32) ?hr ?_; (case hd => rfl); (case hg => rfl); (case hr => first | (go_simp; done) | (go_simp; rfl)); intro gb399 hg w3 hbox hb; have n0_ := Aside0.mk (below_step (by repeat (first | (with_reducible first | exact HB.out | apply below_alloc | apply pw_below_drewN | apply below_drew1) | exact HB.out)) hb); have n1_ := Aside0.mk (hbox); have n2_ := Aside0.mk ((by rw [hg]; exact (below_size (by repeat (first | (with_reducible first | exact HB.out | apply below_alloc | apply pw_below_drewN | apply below_drew1) | exact HB.out))) : w.heap.size ≤ gb399)); have n3_ := Aside0.mk ((by rw [hg]; exact (below_size (by repeat (first | (with_reducible first | exact HB.out | apply below_alloc | apply pw_below_drewN | apply below_drew1) | exact HB.out))) : w.heap.size ≤ gb399)); clear HB; have HB := n0_; have BK399 := n1_; have GW399 := n2_; have GE399 := n3_; clear n0_ n1_ n2_ n3_; clear hb hbox hg))
  (try simp only [Act.put, List.setIfInBounds_toArray, List.set_cons_zero, List.set_cons_succ])
  have hcz5_0 : w3.cell? ⟨gb399, 0, none⟩ = some (.int .i64 3) := (blk_cell BK399.out 0).trans rfl
  have hcz5_1 : w3.cell? ⟨gb399, 1, none⟩ = some (.int .i64 0) := (blk_cell BK399.out 1).trans rfl
  have hcz5_2 : w3.cell? ⟨gb399, 2, none⟩ = some (.int .i64 2) := (blk_cell BK399.out 2).trans rfl
  have hcz5_3 : w3.cell? ⟨gb399, 3, none⟩ = some (.int .i64 10) := (blk_cell BK399.out 3).trans rfl
  have hcz5_4 : w3.cell? ⟨gb399, 4, none⟩ = some (.int .i64 0) := (blk_cell BK399.out 4).trans rfl
  have hcz5_5 : w3.cell? ⟨gb399, 5, none⟩ = some (.int .i64 0) := (blk_cell BK399.out 5).trans rfl
  have hcz5_6 : w3.cell? ⟨gb399, 6, none⟩ = some (.int .i64 0) := (blk_cell BK399.out 6).trans rfl
  have hcz5_7 : w3.cell? ⟨gb399, 7, none⟩ = some (.int .i64 3) := (blk_cell BK399.out 7).trans rfl
  have hcz5_8 : w3.cell? ⟨gb399, 8, none⟩ = some (.int .i64 5) := (blk_cell BK399.out 8).trans rfl
  have hcz5_9 : w3.cell? ⟨gb399, 9, none⟩ = some (.int .i64 9) := (blk_cell BK399.out 9).trans rfl
  have hcz5_10 : w3.cell? ⟨gb399, 10, none⟩ = some (.int .i64 0) := (blk_cell BK399.out 10).trans rfl
  have hcz5_11 : w3.cell? ⟨gb399, 11, none⟩ = some (.slice none 0 0) := (blk_cell BK399.out 11).trans rfl
  go_upto_region 8 with (first | (go_at_call 48; (with_reducible refine (job_in.calls 0 0 7 true _ F3.out).mono ?_); rintro e w' ⟨rfl, ⟨nd, rfl⟩⟩) | (go_at_call 48; (with_reducible refine (job_in.calls 2 1 32 true _ F4.out).mono ?_); rintro e w' ⟨rfl, ⟨nd, rfl⟩⟩) | (go_at_call 48; (with_reducible refine (job_in.calls 10 1 1048576 true _ F5.out).mono ?_); rintro e w' ⟨rfl, ⟨nd, rfl⟩⟩) | (go_at_call 48; (with_reducible refine (job_in.calls 0 0 7 true _ F6.out).mono ?_); rintro e w' ⟨rfl, ⟨nd, rfl⟩⟩) | (go_at_call 48; (with_reducible refine (job_in.calls 0 0 1048576 true _ F7.out).mono ?_); rintro e w' ⟨rfl, ⟨nd, rfl⟩⟩) | (go_at_call 48; (with_reducible refine (job_in.calls 0 0 1099511627776 true _ F8.out).mono ?_); rintro e w' ⟨rfl, ⟨nd, rfl⟩⟩))
  (try simp only [Act.put, List.setIfInBounds_toArray, List.set_cons_zero, List.set_cons_succ])
  clear hcz5_0 hcz5_1 hcz5_2 hcz5_3 hcz5_4 hcz5_5 hcz5_6 hcz5_7 hcz5_8 hcz5_9 hcz5_10 hcz5_11
  refine start_ (n := 27) (S := fun w' => w'.cell? ⟨gb399, 0, none⟩ = some (.int .i64 3) ∧ w'.cell? ⟨gb399, 1, none⟩ = some (.int .i64 0) ∧ w'.cell? ⟨gb399, 2, none⟩ = some (.int .i64 2) ∧ w'.cell? ⟨gb399, 3, none⟩ = some (.int .i64 10) ∧ w'.cell? ⟨gb399, 4, none⟩ = some (.int .i64 0) ∧ w'.cell? ⟨gb399, 5, none⟩ = some (.int .i64 0) ∧ w'.cell? ⟨gb399, 6, none⟩ = some (.int .i64 0) ∧ w'.cell? ⟨gb399, 7, none⟩ = some (.int .i64 3) ∧ w'.cell? ⟨gb399, 8, none⟩ = some (.int .i64 5) ∧ w'.cell? ⟨gb399, 9, none⟩ = some (.int .i64 9) ∧ w'.cell? ⟨gb399, 10, none⟩ = some (.int .i64 0) ∧ w'.cell? ⟨gb399, 11, none⟩ = some (.slice none 0 0)) (ds := []) #[false, false, false, false, false, false, false, false, false, false, false, false, false, false, false, false, false, false, false, false, false, false, false, false, false, false, false] (by kernel_rfl) rfl rfl ⟨(blk_cell BK399.out 0).trans rfl, (blk_cell BK399.out 1).trans rfl, (blk_cell BK399.out 2).trans rfl, (blk_cell BK399.out 3).trans rfl, (blk_cell BK399.out 4).trans rfl, (blk_cell BK399.out 5).trans rfl, (blk_cell BK399.out 6).trans rfl, (blk_cell BK399.out 7).trans rfl, (blk_cell BK399.out 8).trans rfl, (blk_cell BK399.out 9).trans rfl, (blk_cell BK399.out 10).trans rfl, (blk_cell BK399.out 11).trans rfl⟩ (fun hHeld => ?_); refine with_tabW job_Good.tab8 job_Good.bits8 (fun HT_ HW_ => ?_)
  refine pure_ (i := 0) (N := some 68) (v := ?_) (a' := ?_) #[true, false, false, false, false, false, false, false, false, false, false, false, false, false, false, false, false, false, false, false, false, false, false, false, false, false, false] rfl rfl (any_of HT_.out (by kernel_rfl)) (fun _ _ _ h => h) (Or.inl ⟨by rfl, ?_⟩) ?_ ?_
  rotate_left
  · intro w'
    go_simp
    with_reducible rfl
  rotate_left
  · simp only [Act.put, List.setIfInBounds_toArray, List.set_cons_zero, List.set_cons_succ, i64_w, i32_w]
    rfl
  refine take_ (i := 1) (N := some 69) (v := ?_) (a' := ?_) #[true, true, false, false, false, false, false, false, false, false, false, false, false, false, false, false, false, false, false, false, false, false, false, false, false, false, false] rfl rfl (take_ofW HT_.out HW_.out (by kernel_rfl)) (fun _ _ _ h => h) (Or.inl ⟨by rfl, ?_⟩) hHeld ?_ ?_
  rotate_left
  · rintro w' ⟨s0, s1, s2, s3, s4, s5, s6, s7, s8, s9, s10, s11⟩
    go_simp
    with_reducible rfl
  rotate_left
  · simp only [Act.put, List.setIfInBounds_toArray, List.set_cons_zero, List.set_cons_succ, i64_w, i32_w]
    rfl
  refine one_ (i := 2) (N := some 70) #[true, true, true, false, false, false, false, false, false, false, false, false, false, false, false, false, false, false, false, false, false, false, false, false, false, false, false] rfl rfl (one_of HT_.out (by kernel_rfl)) (by decide) (fun K hK => ?_)
  refine goes_ Try.func48 (by kernel_rfl) rfl #[.int .i64 5, .int .i64 0, .int .i64 1099511627776] (by rfl) rfl rfl (by (try simp only [List.map_toArray, List.map_cons, List.map_nil]); first | done | rfl | (simp only [List.length_drop, List.length_take]; rfl)) ?_
  with_reducible refine (job_in.calls 5 0 1099511627776 true _ F0.out).mono ?_
  rintro e w' ⟨rfl, ⟨nd, rfl⟩⟩
  refine ⟨_, rfl, ?_⟩
  refine hK.out _ _ ⟨(blk_cell BK399.out 0).trans rfl, (blk_cell BK399.out 1).trans rfl, (blk_cell BK399.out 2).trans rfl, (blk_cell BK399.out 3).trans rfl, (blk_cell BK399.out 4).trans rfl, (blk_cell BK399.out 5).trans rfl, (blk_cell BK399.out 6).trans rfl, (blk_cell BK399.out 7).trans rfl, (blk_cell BK399.out 8).trans rfl, (blk_cell BK399.out 9).trans rfl, (blk_cell BK399.out 10).trans rfl, (blk_cell BK399.out 11).trans rfl⟩ (fun hHeld => ?_)
  clear hK K
  refine norm_ (a' := ?_) ?_ ?_
  rotate_left
  · show Act.put _ (some 70) _ = _
    simp only [Act.put, List.setIfInBounds_toArray, List.set_cons_zero, List.set_cons_succ, i64_w, i32_w]
    rfl
  refine pure_ (i := 3) (N := some 71) (v := ?_) (a' := ?_) #[true, true, true, true, false, false, false, false, false, false, false, false, false, false, false, false, false, false, false, false, false, false, false, false, false, false, false] rfl rfl (any_of HT_.out (by kernel_rfl)) (fun _ _ _ h => h) (Or.inl ⟨by rfl, ?_⟩) ?_ ?_
  rotate_left
  · intro w'
    go_simp
    with_reducible rfl
  rotate_left
  · simp only [Act.put, List.setIfInBounds_toArray, List.set_cons_zero, List.set_cons_succ, i64_w, i32_w]
    rfl
  refine pure_ (i := 4) (N := some 72) (v := ?_) (a' := ?_) #[true, true, true, true, true, false, false, false, false, false, false, false, false, false, false, false, false, false, false, false, false, false, false, false, false, false, false] rfl rfl (any_of HT_.out (by kernel_rfl)) (fun _ _ _ h => h) (Or.inl ⟨by rfl, ?_⟩) ?_ ?_
  rotate_left
  · intro w'
    go_simp
    with_reducible rfl
  rotate_left
  · simp only [Act.put, List.setIfInBounds_toArray, List.set_cons_zero, List.set_cons_succ, i64_w, i32_w]
    rfl
  refine take_ (i := 5) (N := some 73) (v := ?_) (a' := ?_) #[true, true, true, true, true, true, false, false, false, false, false, false, false, false, false, false, false, false, false, false, false, false, false, false, false, false, false] rfl rfl (take_ofW HT_.out HW_.out (by kernel_rfl)) (fun _ _ _ h => h) (Or.inl ⟨by rfl, ?_⟩) hHeld ?_ ?_
  rotate_left
  · rintro w' ⟨s0, s1, s2, s3, s4, s5, s6, s7, s8, s9, s10, s11⟩
    go_simp
    with_reducible rfl
  rotate_left
  · simp only [Act.put, List.setIfInBounds_toArray, List.set_cons_zero, List.set_cons_succ, i64_w, i32_w]
    rfl
  refine one_ (i := 6) (N := some 74) #[true, true, true, true, true, true, true, false, false, false, false, false, false, false, false, false, false, false, false, false, false, false, false, false, false, false, false] rfl rfl (one_of HT_.out (by kernel_rfl)) (by decide) (fun K hK => ?_)
  refine goes_ Try.func48 (by kernel_rfl) rfl #[.int .i64 9, .int .i64 0, .int .i64 4294967295] (by rfl) rfl rfl (by (try simp only [List.map_toArray, List.map_cons, List.map_nil]); first | done | rfl | (simp only [List.length_drop, List.length_take]; rfl)) ?_
  with_reducible refine (job_in.calls 9 0 4294967295 true _ F1.out).mono ?_
  rintro e w' ⟨rfl, ⟨nd, rfl⟩⟩
  refine ⟨_, rfl, ?_⟩
  refine hK.out _ _ ⟨(blk_cell BK399.out 0).trans rfl, (blk_cell BK399.out 1).trans rfl, (blk_cell BK399.out 2).trans rfl, (blk_cell BK399.out 3).trans rfl, (blk_cell BK399.out 4).trans rfl, (blk_cell BK399.out 5).trans rfl, (blk_cell BK399.out 6).trans rfl, (blk_cell BK399.out 7).trans rfl, (blk_cell BK399.out 8).trans rfl, (blk_cell BK399.out 9).trans rfl, (blk_cell BK399.out 10).trans rfl, (blk_cell BK399.out 11).trans rfl⟩ (fun hHeld => ?_)
  clear hK K
  refine norm_ (a' := ?_) ?_ ?_
  rotate_left
  · show Act.put _ (some 74) _ = _
    simp only [Act.put, List.setIfInBounds_toArray, List.set_cons_zero, List.set_cons_succ, i64_w, i32_w]
    rfl
  refine pure_ (i := 7) (N := some 75) (v := ?_) (a' := ?_) #[true, true, true, true, true, true, true, true, false, false, false, false, false, false, false, false, false, false, false, false, false, false, false, false, false, false, false] rfl rfl (any_of HT_.out (by kernel_rfl)) (fun _ _ _ h => h) (Or.inl ⟨by rfl, ?_⟩) ?_ ?_
  rotate_left
  · intro w'
    go_simp
    with_reducible rfl
  rotate_left
  · simp only [Act.put, List.setIfInBounds_toArray, List.set_cons_zero, List.set_cons_succ, i64_w, i32_w]
    rfl
  refine pure_ (i := 8) (N := some 76) (v := ?_) (a' := ?_) #[true, true, true, true, true, true, true, true, true, false, false, false, false, false, false, false, false, false, false, false, false, false, false, false, false, false, false] rfl rfl (any_of HT_.out (by kernel_rfl)) (fun _ _ _ h => h) (Or.inl ⟨by rfl, ?_⟩) ?_ ?_
  rotate_left
  · intro w'
    go_simp
    with_reducible rfl
  rotate_left
  · simp only [Act.put, List.setIfInBounds_toArray, List.set_cons_zero, List.set_cons_succ, i64_w, i32_w]
    rfl
  refine pure_ (i := 9) (N := some 77) (v := ?_) (a' := ?_) #[true, true, true, true, true, true, true, true, true, true, false, false, false, false, false, false, false, false, false, false, false, false, false, false, false, false, false] rfl rfl (any_of HT_.out (by kernel_rfl)) (fun _ _ _ h => h) (Or.inl ⟨by rfl, ?_⟩) ?_ ?_
  rotate_left
  · intro w'
    go_simp
    with_reducible rfl
  rotate_left
  · simp only [Act.put, List.setIfInBounds_toArray, List.set_cons_zero, List.set_cons_succ, i64_w, i32_w]
    rfl
  refine pure_ (i := 12) (N := some 80) (v := ?_) (a' := ?_) #[true, true, true, true, true, true, true, true, true, true, false, false, true, false, false, false, false, false, false, false, false, false, false, false, false, false, false] rfl rfl (any_of HT_.out (by kernel_rfl)) (fun _ _ _ h => h) (Or.inl ⟨by rfl, ?_⟩) ?_ ?_
  rotate_left
  · intro w'
    go_simp
    with_reducible rfl
  rotate_left
  · simp only [Act.put, List.setIfInBounds_toArray, List.set_cons_zero, List.set_cons_succ, i64_w, i32_w]
    rfl
  refine take_ (i := 10) (N := some 78) (v := ?_) (a' := ?_) #[true, true, true, true, true, true, true, true, true, true, true, false, true, false, false, false, false, false, false, false, false, false, false, false, false, false, false] rfl rfl (take_ofW HT_.out HW_.out (by kernel_rfl)) (fun _ _ _ h => h) (Or.inl ⟨by rfl, ?_⟩) hHeld ?_ ?_
  rotate_left
  · rintro w' ⟨s0, s1, s2, s3, s4, s5, s6, s7, s8, s9, s10, s11⟩
    go_simp
    with_reducible rfl
  rotate_left
  · simp only [Act.put, List.setIfInBounds_toArray, List.set_cons_zero, List.set_cons_succ, i64_w, i32_w]
    rfl
  refine take_ (i := 13) (N := some 81) (v := ?_) (a' := ?_) #[true, true, true, true, true, true, true, true, true, true, true, false, true, true, false, false, false, false, false, false, false, false, false, false, false, false, false] rfl rfl (take_ofW HT_.out HW_.out (by kernel_rfl)) (fun _ _ _ h => h) (Or.inl ⟨by rfl, ?_⟩) hHeld ?_ ?_
  rotate_left
  · rintro w' ⟨s0, s1, s2, s3, s4, s5, s6, s7, s8, s9, s10, s11⟩
    go_simp
    with_reducible rfl
  rotate_left
  · simp only [Act.put, List.setIfInBounds_toArray, List.set_cons_zero, List.set_cons_succ, i64_w, i32_w]
    rfl
  refine one_ (i := 11) (N := some 79) #[true, true, true, true, true, true, true, true, true, true, true, true, true, true, false, false, false, false, false, false, false, false, false, false, false, false, false] rfl rfl (one_of HT_.out (by kernel_rfl)) (by decide) (fun K hK => ?_)
  refine goes_ Try.func49 (by kernel_rfl) rfl #[.int .i64 9] (by rfl) rfl rfl (by (try simp only [List.map_toArray, List.map_cons, List.map_nil]); first | done | rfl | (simp only [List.length_drop, List.length_take]; rfl)) ?_
  with_reducible refine (pool_Count.calls 9 2 _ F2.out).mono ?_
  rintro e w' ⟨rfl, ⟨nd, rfl⟩⟩
  refine ⟨_, rfl, ?_⟩
  refine hK.out _ _ ⟨(blk_cell BK399.out 0).trans rfl, (blk_cell BK399.out 1).trans rfl, (blk_cell BK399.out 2).trans rfl, (blk_cell BK399.out 3).trans rfl, (blk_cell BK399.out 4).trans rfl, (blk_cell BK399.out 5).trans rfl, (blk_cell BK399.out 6).trans rfl, (blk_cell BK399.out 7).trans rfl, (blk_cell BK399.out 8).trans rfl, (blk_cell BK399.out 9).trans rfl, (blk_cell BK399.out 10).trans rfl, (blk_cell BK399.out 11).trans rfl⟩ (fun hHeld => ?_)
  clear hK K
  refine norm_ (a' := ?_) ?_ ?_
  rotate_left
  · show Act.put _ (some 79) _ = _
    simp only [Act.put, List.setIfInBounds_toArray, List.set_cons_zero, List.set_cons_succ, i64_w, i32_w]
    rfl
  refine pure_ (i := 14) (N := some 82) (v := ?_) (a' := ?_) #[true, true, true, true, true, true, true, true, true, true, true, true, true, true, true, false, false, false, false, false, false, false, false, false, false, false, false] rfl rfl (any_of HT_.out (by kernel_rfl)) (fun _ _ _ h => h) (Or.inl ⟨by rfl, ?_⟩) ?_ ?_
  rotate_left
  · intro w'
    go_simp
    with_reducible rfl
  rotate_left
  · simp only [Act.put, List.setIfInBounds_toArray, List.set_cons_zero, List.set_cons_succ, i64_w, i32_w]
    rfl
  refine pure_ (i := 15) (N := some 83) (v := ?_) (a' := ?_) #[true, true, true, true, true, true, true, true, true, true, true, true, true, true, true, true, false, false, false, false, false, false, false, false, false, false, false] rfl rfl (any_of HT_.out (by kernel_rfl)) (fun _ _ _ h => h) (Or.inl ⟨by rfl, ?_⟩) ?_ ?_
  rotate_left
  · intro w'
    go_simp
    with_reducible rfl
  rotate_left
  · simp only [Act.put, List.setIfInBounds_toArray, List.set_cons_zero, List.set_cons_succ, i64_w, i32_w]
    rfl
  refine pure_ (i := 16) (N := some 84) (v := ?_) (a' := ?_) #[true, true, true, true, true, true, true, true, true, true, true, true, true, true, true, true, true, false, false, false, false, false, false, false, false, false, false] rfl rfl (any_of HT_.out (by kernel_rfl)) (fun _ _ _ h => h) (Or.inl ⟨by rfl, ?_⟩) ?_ ?_
  rotate_left
  · intro w'
    go_simp
    with_reducible rfl
  rotate_left
  · simp only [Act.put, List.setIfInBounds_toArray, List.set_cons_zero, List.set_cons_succ, i64_w, i32_w]
    rfl
  refine pure_ (i := 17) (N := some 85) (v := ?_) (a' := ?_) #[true, true, true, true, true, true, true, true, true, true, true, true, true, true, true, true, true, true, false, false, false, false, false, false, false, false, false] rfl rfl (any_of HT_.out (by kernel_rfl)) (fun _ _ _ h => h) (Or.inl ⟨by rfl, ?_⟩) ?_ ?_
  rotate_left
  · intro w'
    go_simp
    with_reducible rfl
  rotate_left
  · simp only [Act.put, List.setIfInBounds_toArray, List.set_cons_zero, List.set_cons_succ, i64_w, i32_w]
    rfl
  refine take_ (i := 18) (N := some 86) (v := ?_) (a' := ?_) #[true, true, true, true, true, true, true, true, true, true, true, true, true, true, true, true, true, true, true, false, false, false, false, false, false, false, false] rfl rfl (take_ofW HT_.out HW_.out (by kernel_rfl)) (fun _ _ _ h => h) (Or.inl ⟨by rfl, ?_⟩) hHeld ?_ ?_
  rotate_left
  · rintro w' ⟨s0, s1, s2, s3, s4, s5, s6, s7, s8, s9, s10, s11⟩
    go_simp
    with_reducible rfl
  rotate_left
  · simp only [Act.put, List.setIfInBounds_toArray, List.set_cons_zero, List.set_cons_succ, i64_w, i32_w]
    rfl
  refine pure_ (i := 19) (N := some 87) (v := ?_) (a' := ?_) #[true, true, true, true, true, true, true, true, true, true, true, true, true, true, true, true, true, true, true, true, false, false, false, false, false, false, false] rfl rfl (any_of HT_.out (by kernel_rfl)) (fun _ _ _ h => h) (Or.inl ⟨by rfl, ?_⟩) ?_ ?_
  rotate_left
  · intro w'
    go_simp
    with_reducible rfl
  rotate_left
  · simp only [Act.put, List.setIfInBounds_toArray, List.set_cons_zero, List.set_cons_succ, i64_w, i32_w]
    rfl
  refine pure_ (i := 20) (N := some 88) (v := ?_) (a' := ?_) #[true, true, true, true, true, true, true, true, true, true, true, true, true, true, true, true, true, true, true, true, true, false, false, false, false, false, false] rfl rfl (any_of HT_.out (by kernel_rfl)) (fun _ _ _ h => h) (Or.inl ⟨by rfl, ?_⟩) ?_ ?_
  rotate_left
  · intro w'
    go_simp
    with_reducible rfl
  rotate_left
  · simp only [Act.put, List.setIfInBounds_toArray, List.set_cons_zero, List.set_cons_succ, i64_w, i32_w]
    rfl
  refine pure_ (i := 21) (N := some 89) (v := ?_) (a' := ?_) #[true, true, true, true, true, true, true, true, true, true, true, true, true, true, true, true, true, true, true, true, true, true, false, false, false, false, false] rfl rfl (any_of HT_.out (by kernel_rfl)) (fun _ _ _ h => h) (Or.inl ⟨by rfl, ?_⟩) ?_ ?_
  rotate_left
  · intro w'
    go_simp
    with_reducible rfl
  rotate_left
  · simp only [Act.put, List.setIfInBounds_toArray, List.set_cons_zero, List.set_cons_succ, i64_w, i32_w]
    rfl
  refine pure_ (i := 22) (N := some 90) (v := ?_) (a' := ?_) #[true, true, true, true, true, true, true, true, true, true, true, true, true, true, true, true, true, true, true, true, true, true, true, false, false, false, false] rfl rfl (any_of HT_.out (by kernel_rfl)) (fun _ _ _ h => h) (Or.inl ⟨by rfl, ?_⟩) ?_ ?_
  rotate_left
  · intro w'
    go_simp
    with_reducible rfl
  rotate_left
  · simp only [Act.put, List.setIfInBounds_toArray, List.set_cons_zero, List.set_cons_succ, i64_w, i32_w]
    rfl
  refine take_ (i := 23) (N := some 91) (v := ?_) (a' := ?_) #[true, true, true, true, true, true, true, true, true, true, true, true, true, true, true, true, true, true, true, true, true, true, true, true, false, false, false] rfl rfl (take_ofW HT_.out HW_.out (by kernel_rfl)) (fun _ _ _ h => h) (Or.inl ⟨by rfl, ?_⟩) hHeld ?_ ?_
  rotate_left
  · rintro w' ⟨s0, s1, s2, s3, s4, s5, s6, s7, s8, s9, s10, s11⟩
    go_simp
    with_reducible rfl
  rotate_left
  · simp only [Act.put, List.setIfInBounds_toArray, List.set_cons_zero, List.set_cons_succ, i64_w, i32_w]
    rfl
  refine one_ (i := 24) (N := some 92) #[true, true, true, true, true, true, true, true, true, true, true, true, true, true, true, true, true, true, true, true, true, true, true, true, true, false, false] rfl rfl (one_of HT_.out (by kernel_rfl)) (by decide) (fun K hK => ?_)
  refine goes_ Try.func50 (by kernel_rfl) rfl #[.slice none 0 0] (by rfl) rfl rfl (by (try simp only [List.map_toArray, List.map_cons, List.map_nil]); first | done | rfl | (simp only [List.length_drop, List.length_take]; rfl)) ?_
  with_reducible refine (draws_none _).mono ?_
  rintro e w45 ⟨rfl, hb⟩
  refine ⟨_, rfl, ?_⟩
  have n0_ := Aside0.mk (blk_below (g := gb399) (o := .cells #[.int .i64 3, .int .i64 0, .int .i64 2, .int .i64 10, .int .i64 0, .int .i64 0, .int .i64 0, .int .i64 3, .int .i64 5, .int .i64 9, .int .i64 0, .slice none 0 0] 32 (0, 0)) (by (with_reducible repeat first | apply blk_drewN | apply blk_drew | apply blk_alloc); exact BK399.out) hb)
  have n1_ := Aside0.mk (below_step (by repeat (first | (with_reducible first | exact HB.out | apply below_alloc | apply pw_below_drewN | apply below_drew1 | refine below_set ?_ GE399.out) | exact HB.out)) hb)
  clear BK399
  clear HB
  have BK399 := n0_
  have HB := n1_
  clear n0_ n1_
  (try clear hb)
  (try clear hb2)
  (try clear hk)
  (try clear hi)
  refine hK.out _ _ ⟨(blk_cell BK399.out 0).trans rfl, (blk_cell BK399.out 1).trans rfl, (blk_cell BK399.out 2).trans rfl, (blk_cell BK399.out 3).trans rfl, (blk_cell BK399.out 4).trans rfl, (blk_cell BK399.out 5).trans rfl, (blk_cell BK399.out 6).trans rfl, (blk_cell BK399.out 7).trans rfl, (blk_cell BK399.out 8).trans rfl, (blk_cell BK399.out 9).trans rfl, (blk_cell BK399.out 10).trans rfl, (blk_cell BK399.out 11).trans rfl⟩ (fun hHeld => ?_)
  clear hK K
  refine norm_ (a' := ?_) ?_ ?_
  rotate_left
  · show Act.put _ (some 92) _ = _
    simp only [Act.put, List.setIfInBounds_toArray, List.set_cons_zero, List.set_cons_succ, i64_w, i32_w]
    rfl
  refine pure_ (i := 25) (N := some 93) (v := ?_) (a' := ?_) #[true, true, true, true, true, true, true, true, true, true, true, true, true, true, true, true, true, true, true, true, true, true, true, true, true, true, false] rfl rfl (any_of HT_.out (by kernel_rfl)) (fun _ _ _ h => h) (Or.inl ⟨by rfl, ?_⟩) ?_ ?_
  rotate_left
  · intro w'
    go_simp
    with_reducible rfl
  rotate_left
  · simp only [Act.put, List.setIfInBounds_toArray, List.set_cons_zero, List.set_cons_succ, i64_w, i32_w]
    rfl
  refine pure_ (i := 26) (N := some 2) (v := ?_) (a' := ?_) #[true, true, true, true, true, true, true, true, true, true, true, true, true, true, true, true, true, true, true, true, true, true, true, true, true, true, true] rfl rfl (any_of HT_.out (by kernel_rfl)) (fun _ _ _ h => h) (Or.inl ⟨by rfl, ?_⟩) ?_ ?_
  rotate_left
  · intro w'
    go_simp
    with_reducible rfl
  rotate_left
  · simp only [Act.put, List.setIfInBounds_toArray, List.set_cons_zero, List.set_cons_succ, i64_w, i32_w]
    rfl
  refine done_ (done_of HT_.out (by kernel_rfl)) ?_
  try go_wp2
  go_ret
  exact ⟨by first | rfl | (simp [errW_none, errW_some] <;> rfl) | (simp [*, errW_none, errW_some] <;> rfl), by repeat (first | (with_reducible first | exact HB.out | apply below_alloc | apply pw_below_drewN | apply below_drew1 | refine below_set ?_ GE399.out) | exact HB.out)⟩
def job_Good.f (a0_0 : Int) (a0_1 : Int) (a0_2 : Int) (a0_3 : Int) (a0_4 : Int) (a0_5 : Int) (a0_6 : Int) (a0_7 : Int) (a0_8 : Int) (a0_9 : Int) (a0_10 : Int) (a0_11 : SH) : Option (Bool) := if (a0_0 = 3 ∧ a0_1 = 0 ∧ a0_2 = 2 ∧ a0_3 = 10 ∧ a0_4 = 0 ∧ a0_5 = 0 ∧ a0_6 = 0 ∧ a0_7 = 3 ∧ a0_8 = 5 ∧ a0_9 = 9 ∧ a0_10 = 0) ∧ a0_11.A.isNone = true ∧ a0_11.n = 0 ∧ a0_11.c = 0 then some true else none
theorem job_Good.calls (a0_0 : Int) (a0_1 : Int) (a0_2 : Int) (a0_3 : Int) (a0_4 : Int) (a0_5 : Int) (a0_6 : Int) (a0_7 : Int) (a0_8 : Int) (a0_9 : Int) (a0_10 : Int) (a0_11 : SH) (r : Bool) (w : World) (h : job_Good.f a0_0 a0_1 a0_2 a0_3 a0_4 a0_5 a0_6 a0_7 a0_8 a0_9 a0_10 a0_11 = some r) :
    Calls Try.prog 29 #[.agg #[.int .i64 a0_0, .int .i64 a0_1, .int .i64 a0_2, .int .i64 a0_3, .int .i64 a0_4, .int .i64 a0_5, .int .i64 a0_6, .int .i64 a0_7, .int .i64 a0_8, .int .i64 a0_9, .int .i64 a0_10, .slice a0_11.A a0_11.n a0_11.c]] w fun e w' => e = .returned (.bool r) ∧ Below w.heap.size w w' := by
  obtain ⟨A, n, c⟩ := a0_11
  unfold job_Good.f at h
  split at h
  · rename_i q
    obtain ⟨⟨rfl, rfl, rfl, rfl, rfl, rfl, rfl, rfl, rfl, rfl, rfl⟩, q1, q2, q3⟩ := q
    obtain rfl := Option.some.inj h
    cases A with
    | some a => simp at q1
    | none =>
      obtain rfl : n = 0 := q2
      obtain rfl : c = 0 := q3
      exact good_awake w
  · simp at h
theorem job_Good.calls_nil (r : Bool) (w : World) (h : job_Good.f 3 0 2 10 0 0 0 3 5 9 0 SH.nil = some r) : Calls Try.prog 29 #[.agg #[.int .i64 3, .int .i64 0, .int .i64 2, .int .i64 10, .int .i64 0, .int .i64 0, .int .i64 0, .int .i64 3, .int .i64 5, .int .i64 9, .int .i64 0, .slice none 0 0]] w fun e w' => e = .returned (.bool r) ∧ Below w.heap.size w w' := job_Good.calls 3 0 2 10 0 0 0 3 5 9 0 SH.nil r w h
end Go.Proofs.Ytkhfgflcanmefaa.PAll
end
section
namespace Go.Proofs.Ytkhfgflcanmefaa.PAll
open Go.RowKit Go.Proofs.YtkhfgflcanmefaaW.PrintWords Go.Proofs.YtkhfgflcanmefaaW.PrintLast Go.Proofs.YtkhfgflcanmefaaW.PrintMore
attribute [local go_sem] max2_int min2_int max_two min_two max_three min_three max_four min_four   -- for this text's walks alone
set_option linter.unusedVariables false
set_option linter.unusedSimpArgs false

def prebendref01_Ints.l0 : Nat → List Int → List Int → Int → Option (Bool)
  | 0, _, _, _ => none
  | k + 1, x0, x1, x5 => if x5 < (x0.length : Int) then (if 0 ≤ x5 then (if x5 < (x1.length : Int) then (if (rd x0 x5) = (rd x1 x5) then (prebendref01_Ints.l0 k x0 x1 (wrap64 (x5 + 1))) else (some false)) else (none)) else (none)) else (some true)
def prebendref01_Ints.f (k : Nat) (l0 : List Int) (l1 : List Int) : Option (Bool) := if (l0.length : Int) = (l1.length : Int) then (prebendref01_Ints.l0 k l0 l1 0) else (some false)
theorem prebendref01_Ints.mono_l : ∀ k, (∀ y0 y1 y2, LeO (prebendref01_Ints.l0 k y0 y1 y2) (prebendref01_Ints.l0 (k + 1) y0 y1 y2))
  | 0 => fun _ _ _ r h => by simp [prebendref01_Ints.l0] at h
  | k + 1 => by
    have ih0 := prebendref01_Ints.mono_l k
    · intro y0 y1 y2
      unfold prebendref01_Ints.l0
      repeat' first
      | (with_reducible exact ih0 _ _ _)
      | (with_reducible exact LeO.refl _)
      | (with_reducible exact LeO.none _)
      | (with_reducible refine LeO.ite ?_ ?_)
      | (with_reducible refine LeO.bind ?_ (fun _ => ?_))
      | exact ih0 _ _ _
      | exact LeO.none _
      | refine LeO.ite ?_ ?_
      | refine LeO.bind ?_ (fun _ => ?_)
theorem prebendref01_Ints.mono : ∀ a0 a1 k, LeO (prebendref01_Ints.f k a0 a1) (prebendref01_Ints.f (k + 1) a0 a1) := by
  intro a0 a1 k
  have ih0 := prebendref01_Ints.mono_l k
  unfold prebendref01_Ints.f
  repeat' first
      | (with_reducible exact ih0 _ _ _)
      | (with_reducible exact LeO.refl _)
      | (with_reducible exact LeO.none _)
      | (with_reducible refine LeO.ite ?_ ?_)
      | (with_reducible refine LeO.bind ?_ (fun _ => ?_))
      | exact ih0 _ _ _
      | exact LeO.none _
      | refine LeO.ite ?_ ?_
      | refine LeO.bind ?_ (fun _ => ?_)
set_option maxHeartbeats 8000000 in
set_option maxRecDepth 100000 in
theorem prebendref01_Ints.calls (k : Nat) (A0 : Option Addr) (c0 : Nat) (l0 : List Int) (A1 : Option Addr) (c1 : Nat) (l1 : List Int) (r : Bool) (w : World) (hr0 : Kd.C (Kd.int .i64) w A0 l0.length l0) (hc0 : l0.length ≤ c0) (hr1 : Kd.C (Kd.int .i64) w A1 l1.length l1) (hc1 : l1.length ≤ c1) (h : prebendref01_Ints.f k l0 l1 = some r) :
    Calls Try.prog 13 #[.slice A0 l0.length c0, .slice A1 l1.length c1] w fun e w' => e = .returned (.bool r) ∧ Drawn0 w w' := by
  have HR0 := Aside0.mk hr0
  have HC0 := Aside0.mk hc0
  clear hr0 hc0
  have HR1 := Aside0.mk hr1
  have HC1 := Aside0.mk hc1
  clear hr1 hc1
  have H : (if (l0.length : Int) = (l1.length : Int) then (prebendref01_Ints.l0 k l0 l1 0) else (some false)) = some r := h
  clear h
  by_cases c3 : (l0.length : Int) = (l1.length : Int)
  · rw [if_pos c3] at H
    have c3b0 : ((l0.length : Int) == (l1.length : Int)) = true := beq_iff_eq.mpr c3
    have c3b1 : ((l0.length : Int) != (l1.length : Int)) = false := bne_eq_false_iff_eq.mpr c3
    have c3b2 : (l0.length == l1.length) = true := by first | simpa using c3 | (simp at c3 ⊢; omega)
    clear c3
    have H' := Aside0.mk H
    clear H
    go_enter Try.func13, Try.ntmps13
    go_wp2
    repeat (go_quiet (fail); try go_wp2)
    go_loopg [5] k (fun kq v5 w' => ∃ (x5_1 : Int), v5 = .int .i64 x5_1 ∧ Aside0 (prebendref01_Ints.l0 kq l0 l1 x5_1 = some r) ∧ Aside0 (kq ≤ k) ∧ Drawn0 w w')
    case atStart => exact ⟨(0), (by first | rfl | (simp; done) | (simp [*]; done)), H', ⟨Nat.le_refl _⟩, by repeat (first | exact Drawn0.refl _ | apply Drawn0.step)⟩
    case round =>
      clear H'
      try clear c1
      try clear p2
      try clear c3
      try clear c3b0
      try clear c3b1
      try clear c3b2
      obtain ⟨x5_1, rfl, HA, HK1, ⟨m1, rfl⟩⟩ := hrel
      cases gk with
      | zero => exact absurd HA.out (by simp [prebendref01_Ints.l0])
      | succ k1 =>
        have H := HA.out
        clear HA
        simp only [prebendref01_Ints.l0] at H
        by_cases c4 : x5_1 < (l0.length : Int)
        · rw [if_pos c4] at H
          have c4b0 : decide (x5_1 < (l0.length : Int)) = true := decide_eq_true c4
          clear c4
          by_cases c5 : 0 ≤ x5_1
          · rw [if_pos c5] at H
            have c5b0 : decide (0 ≤ x5_1) = true := decide_eq_true c5
            clear c5
            by_cases c6 : x5_1 < (l1.length : Int)
            · rw [if_pos c6] at H
              have c6b0 : decide (x5_1 < (l1.length : Int)) = true := decide_eq_true c6
              clear c6
              by_cases c7 : (rd l0 x5_1) = (rd l1 x5_1)
              · rw [if_pos c7] at H
                have c7b0 : ((rd l0 x5_1) == (rd l1 x5_1)) = true := beq_iff_eq.mpr c7
                have c7b1 : ((rd l0 x5_1) != (rd l1 x5_1)) = false := bne_eq_false_iff_eq.mpr c7
                clear c7
                have H' := Aside0.mk H
                clear H
                have p167 : 0 ≤ (x5_1 : Int) := of_decide_eq_true (by first | (with_reducible assumption) | assumption)
                have q167 : x5_1 < (l0.length : Int) := of_decide_eq_true (by first | (with_reducible assumption) | assumption)
                obtain ⟨ad167, e167, hx167_0⟩ := Kd.at_int HR0.out x5_1 p167 q167
                cases e167
                replace p167 := eq_true p167
                replace q167 := eq_true q167
                have p168 : 0 ≤ (x5_1 : Int) := of_decide_eq_true (by first | (with_reducible assumption) | assumption)
                have q168 : x5_1 < (l1.length : Int) := of_decide_eq_true (by first | (with_reducible assumption) | assumption)
                obtain ⟨ad168, e168, hx168_0⟩ := Kd.at_int HR1.out x5_1 p168 q168
                cases e168
                replace p168 := eq_true p168
                replace q168 := eq_true q168
                go_wp2
                repeat (go_quiet (fail); try go_wp2)
                go_roundg k1
                case measure => have := HK1.out; omega
                case rel => exact ⟨(wrap64 (x5_1 + 1)), (by first | rfl | (simp; done) | (simp [*]; done)), H', ⟨by have := HK1.out; omega⟩, by repeat (first | exact Drawn0.refl _ | apply Drawn0.step)⟩
              · rw [if_neg c7] at H
                have c7b0 : ((rd l0 x5_1) == (rd l1 x5_1)) = false := beq_eq_false_iff_ne.mpr c7
                have c7b1 : ((rd l0 x5_1) != (rd l1 x5_1)) = true := bne_iff_ne.mpr c7
                obtain rfl := Option.some.inj H
                have p167 : 0 ≤ (x5_1 : Int) := of_decide_eq_true (by first | (with_reducible assumption) | assumption)
                have q167 : x5_1 < (l0.length : Int) := of_decide_eq_true (by first | (with_reducible assumption) | assumption)
                obtain ⟨ad167, e167, hx167_0⟩ := Kd.at_int HR0.out x5_1 p167 q167
                cases e167
                replace p167 := eq_true p167
                replace q167 := eq_true q167
                have p168 : 0 ≤ (x5_1 : Int) := of_decide_eq_true (by first | (with_reducible assumption) | assumption)
                have q168 : x5_1 < (l1.length : Int) := of_decide_eq_true (by first | (with_reducible assumption) | assumption)
                obtain ⟨ad168, e168, hx168_0⟩ := Kd.at_int HR1.out x5_1 p168 q168
                cases e168
                replace p168 := eq_true p168
                replace q168 := eq_true q168
                go_wp2
                repeat (go_quiet (fail); try go_wp2)
                go_ret
                exact ⟨by first | rfl | (simp; done) | (simp [*]; done), by repeat (first | exact Drawn0.refl _ | apply Drawn0.step)⟩
            · rw [if_neg c6] at H
              exact absurd H (by simp)
          · rw [if_neg c5] at H
            exact absurd H (by simp)
        · rw [if_neg c4] at H
          have c4b0 : decide (x5_1 < (l0.length : Int)) = false := decide_eq_false c4
          clear c4
          obtain rfl := Option.some.inj H
          go_wp2
          repeat (go_quiet (fail); try go_wp2)
          go_ret
          exact ⟨by first | rfl | (simp; done) | (simp [*]; done), by repeat (first | exact Drawn0.refl _ | apply Drawn0.step)⟩
  · rw [if_neg c3] at H
    have c3b0 : ((l0.length : Int) == (l1.length : Int)) = false := beq_eq_false_iff_ne.mpr c3
    have c3b1 : ((l0.length : Int) != (l1.length : Int)) = true := bne_iff_ne.mpr c3
    have c3b2 : (l0.length == l1.length) = false := by first | simpa using c3 | (simp at c3 ⊢; omega)
    obtain rfl := Option.some.inj H
    go_enter Try.func13, Try.ntmps13
    go_wp2
    repeat (go_quiet (fail); try go_wp2)
    go_ret
    exact ⟨by first | rfl | (simp; done) | (simp [*]; done), by repeat (first | exact Drawn0.refl _ | apply Drawn0.step)⟩

end Go.Proofs.Ytkhfgflcanmefaa.PAll
end
section
namespace Go.Proofs.Ytkhfgflcanmefaa.PAll
open Go.RowKit Go.Proofs.YtkhfgflcanmefaaW.PrintWords Go.Proofs.YtkhfgflcanmefaaW.PrintLast Go.Proofs.YtkhfgflcanmefaaW.PrintMore
attribute [local go_sem] max2_int min2_int max_two min_two max_three min_three max_four min_four   -- for this text's walks alone
set_option linter.unusedVariables false
set_option linter.unusedSimpArgs false

class CapI where
  id : Int
structure CapIAt [CapI] (g : Nat) (w : World) : Prop where
  hg : w.cell? ⟨g, 0, none⟩ = some (.int .i64 CapI.id)
theorem CapIAt.of [CapI] {g : Nat} {w0 w : World} (h : CapIAt g w0) (hb : Below w0.heap.size w0 w) : CapIAt g w := ⟨(hb.cell (World.block_lt_of_cell? _ _ h.hg)).trans h.hg⟩
def job_Find_1.f [CapI] (a0_0 : Int) (a0_1 : Int) (a0_2 : Int) (a0_3 : Int) (a0_4 : Int) (a0_5 : Int) (a0_6 : Int) (a0_7 : Int) (a0_8 : Int) (a0_9 : Int) (a0_10 : Int) (a0_11 : SH) : Option (Bool) := some (a0_0 == CapI.id)
set_option maxRecDepth 100000 in
theorem job_Find_1.calls [CapI] (a0_0 : Int) (a0_1 : Int) (a0_2 : Int) (a0_3 : Int) (a0_4 : Int) (a0_5 : Int) (a0_6 : Int) (a0_7 : Int) (a0_8 : Int) (a0_9 : Int) (a0_10 : Int) (a0_11 : SH) (r : Bool) {g_ : Nat} (w : World) (hc : CapIAt g_ w) (h : job_Find_1.f a0_0 a0_1 a0_2 a0_3 a0_4 a0_5 a0_6 a0_7 a0_8 a0_9 a0_10 a0_11 = some r) :
    Calls Try.prog 40 #[.agg #[.int .i64 a0_0, .int .i64 a0_1, .int .i64 a0_2, .int .i64 a0_3, .int .i64 a0_4, .int .i64 a0_5, .int .i64 a0_6, .int .i64 a0_7, .int .i64 a0_8, .int .i64 a0_9, .int .i64 a0_10, .slice a0_11.A a0_11.n a0_11.c], .pointer (some ⟨g_, 0, none⟩)] w fun e w' => e = .returned (.bool r) ∧ Below w.heap.size w w' := by
  obtain rfl : (a0_0 == CapI.id) = r := by simpa [job_Find_1.f] using h
  have hb : Below w.heap.size w (w.alloc (.cells #[.int .i64 a0_0, .int .i64 a0_1, .int .i64 a0_2, .int .i64 a0_3, .int .i64 a0_4, .int .i64 a0_5, .int .i64 a0_6, .int .i64 a0_7, .int .i64 a0_8, .int .i64 a0_9, .int .i64 a0_10, .slice a0_11.A a0_11.n a0_11.c] 32 (0, 0))) := below_alloc (Below.refl _ _) _
  have h1 := (hc.of hb).hg
  have h2 : (w.alloc (.cells #[.int .i64 a0_0, .int .i64 a0_1, .int .i64 a0_2, .int .i64 a0_3, .int .i64 a0_4, .int .i64 a0_5, .int .i64 a0_6, .int .i64 a0_7, .int .i64 a0_8, .int .i64 a0_9, .int .i64 a0_10, .slice a0_11.A a0_11.n a0_11.c] 32 (0, 0))).cell? ⟨w.heap.size, 0, none⟩ = some (.int .i64 a0_0) := (blk_cell (heap_alloc_new w _) 0).trans rfl
  have HB := Aside0.mk hb
  clear hb hc h
  go_enter Try.func40, Try.ntmps40
  go_wp2
  go_ret
  exact ⟨rfl, HB.out⟩

end Go.Proofs.Ytkhfgflcanmefaa.PAll
end
